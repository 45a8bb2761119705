/-
  A part of the proof: DAnn.
-/
import Derived.Test.YtjmjijgnbjkpnaaChecked
import Derived.KernelRfl
import Derived.Test.YtjmjijgnbjkpnaaFm45
set_option linter.all false
set_option autoImplicit true
/-
  What is told of the program.
-/
set_option maxRecDepth 100000
set_option linter.unusedVariables false
set_option linter.unusedSimpArgs false
namespace Go.Fm
open Go Go.Proofs
/-- The bytes that numbers are, each in its bounds. -/
def bytesX : List CV → Option (List UInt8)
  | [] => some []
  | .int .u8 n :: es => match bytesX es with
    | some bs => if n = ((UInt8.ofNat n.toNat).toNat : Int) then some (UInt8.ofNat n.toNat :: bs) else none
    | none => none
  | _ => none
def btx : CV → Option (List UInt8)
  | .sl _ es => bytesX es
  | .nilsl => some []
  | _ => none
def its64 : CV → Option (List Int)
  | .sl _ es => intsC .i64 es
  | .nilsl => some []
  | _ => none
/-- One turn: a byte goes, or a bit of it is turned. -/
def turnStep (out : List UInt8) (a : Int) (t : UInt8) : List UInt8 :=
  let k := (IntKind.u64.wrap a).toNat % out.length
  if t.toNat % 9 = 8 then out.take k ++ out.drop (k + 1) else out.set k (out.getD k 0 ^^^ UInt8.ofNat (2 ^ (t.toNat % 9)))
def turnF : Nat → List UInt8 → List Int → List UInt8 → List UInt8
  | 0, out, _, _ => out
  | n + 1, out, a :: as', t :: ts => if out = [] then out else turnF n (turnStep out a t) as' ts
  | _ + 1, out, _, _ => out
/-- ferrymanlaw04.Turned. -/
def turnedP (vs : List AV) (H : Heap) : Option (AV × Heap) := match vs with
  | [.c x, .c a, .c t] => match btx x, its64 a, btx t with
    | some x, some a, some t => if x.length ≤ 1000000 then some (.c (.sl 1 ((turnF 4 x a t).map fun c => .int .u8 (c.toNat : Int))), H) else none
    | _, _, _ => none
  | _ => none
def primSet (f : FuncId) : Bool := f == 9
/-- The program of the plain seat. -/
noncomputable def cfg (b : Bool) : Cfg where
  P := Try.prog
  gl := fun _ => none
  frz := fun _ => false
  keepA := fun _ => false
  keepR := fun _ => false
  prim := fun f => if f = 9 then some turnedP else none
def An : FuncId → Ann := fun f => match f with
  | 3 => annOf [(0, [58, 59, 60])] [(0, [8])] []
  | 4 => annOf [(0, [40, 41, 42])] [(0, [8])] []
  | 6 => annOf [] [] []
  | 7 => annOf [] [] []
  | 8 => annOf [] [] [(8, [5]), (13, [2, 3])]
  | 9 => annOf [(0, [1, 2, 7, 8])] [(0, [7])] [(7, [7]), (8, [])]
  | 10 => annOf [(0, [0, 2, 6, 22, 23, 24])] [(0, [0, 2, 3, 6])] []
  | 11 => annOf [(0, [0, 2, 4, 6, 7])] [(0, [0, 2, 3, 6])] []
  | 12 => annOf [] [] []
  | 25 => annOf [] [] []
  | 26 => annOf [] [] []
  | 27 => annOf [(0, [0, 3, 4])] [(0, [3])] []
  | 28 => annOf [] [] []
  | 29 => annOf [(0, [3])] [(0, [3])] []
  | 30 => annOf [(0, [0, 4])] [(0, [2, 3, 4])] []
  | 31 => annOf [(0, [4, 21, 22, 23])] [(0, [4])] []
  | 32 => annOf [(0, [0, 4, 5])] [(0, [2, 3, 4])] []
  | 33 => annOf [(0, [0, 4, 5])] [(0, [4])] []
  | 34 => annOf [(0, [0, 2, 4, 5])] [(0, [2, 4])] []
  | 40 => annOf [(0, [0, 3, 4])] [(0, [3])] []
  | 41 => annOf [] [] [(3, [5]), (7, [2, 3, 4])]
  | 42 => annOf [] [] [(1, [24]), (3, [5]), (4, [2, 3, 4])]
  | _ => annOf [] [] []
end Go.Fm

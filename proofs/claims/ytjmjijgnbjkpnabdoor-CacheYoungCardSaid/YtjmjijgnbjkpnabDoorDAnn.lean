/-
  A part of the proof: DAnn.
-/
import Derived.Test.YtjmjijgnbjkpnabDoorChecked
import Derived.KernelRfl
import Derived.Test.YtjmjijgnbjkpnabDoorFm45
set_option linter.all false
set_option autoImplicit true
/-
  What is told of the program.
-/
set_option maxRecDepth 100000
set_option linter.unusedVariables false
set_option linter.unusedSimpArgs false
namespace Go.Fm
open Go Go.Proofs
def words : List Int := [0x428a2f98, 0x71374491, 0xb5c0fbcf, 0xe9b5dba5, 0x3956c25b, 0x59f111f1, 0x923f82a4, 0xab1c5ed5,
  0xd807aa98, 0x12835b01, 0x243185be, 0x550c7dc3, 0x72be5d74, 0x80deb1fe, 0x9bdc06a7, 0xc19bf174,
  0xe49b69c1, 0xefbe4786, 0x0fc19dc6, 0x240ca1cc, 0x2de92c6f, 0x4a7484aa, 0x5cb0a9dc, 0x76f988da,
  0x983e5152, 0xa831c66d, 0xb00327c8, 0xbf597fc7, 0xc6e00bf3, 0xd5a79147, 0x06ca6351, 0x14292967,
  0x27b70a85, 0x2e1b2138, 0x4d2c6dfc, 0x53380d13, 0x650a7354, 0x766a0abb, 0x81c2c92e, 0x92722c85,
  0xa2bfe8a1, 0xa81a664b, 0xc24b8b70, 0xc76c51a3, 0xd192e819, 0xd6990624, 0xf40e3585, 0x106aa070,
  0x19a4c116, 0x1e376c08, 0x2748774c, 0x34b0bcb5, 0x391c0cb3, 0x4ed8aa4a, 0x5b9cca4f, 0x682e6ff3,
  0x748f82ee, 0x78a5636f, 0x84c87814, 0x8cc70208, 0x90befffa, 0xa4506ceb, 0xbef9a3f7, 0xc67178f2]
def bts : CV → Option (List UInt8)
  | .sl _ es => bytesC es
  | .nilsl => some []
  | _ => none
def compareP (vs : List AV) (H : Heap) : Option (AV × Heap) := match vs with
  | [.c a, .c b] => match bts a, bts b with
    | some x, some y => some (.c (.int .i64 (if Op.bytesLess x y then -1 else if x == y then 0 else 1)), H)
    | _, _ => none
  | _ => none
def cloneP (vs : List AV) (H : Heap) : Option (AV × Heap) := match vs with
  | [.c .nilsl] => some (.c .nilsl, H)
  | [.c (.sl 1 es)] => match bytesC es with
    | some _ => if es.length ≤ 140737488355328 then some (.c (.sl 1 es), H) else none
    | none => none
  | _ => none
def primSet (f : FuncId) : Bool := f == 31 || f == 38
/-- The program; b: is the second table known, too? -/
noncomputable def cfg (b : Bool) : Cfg where
  P := Tryd.prog
  gl := fun g => if g = 0 then some (.arr 64 .u32 words) else if g = 1 ∧ b = true then some (.arr 64 .u32 words) else none
  frz := fun t => t == 87 || t == 63
  keepA := fun f => f == 19
  keepR := fun f => f == 19 || f == 23
  prim := fun f => if f = 31 then some compareP else if f = 38 then some cloneP else none
def glR (g : Nat) : AV := .c (.ptr (.arr 64 .u32 words) [] 0)
def An : FuncId → Ann := fun f => match f with
  | 3 => annOf [(0, [1, 7, 9, 10, 11, 41, 42, 43]), (2, [1, 7, 9, 10, 11, 14, 16, 17, 18, 41, 42, 43, 68, 69, 70])] [(0, [6, 10]), (2, [1, 7, 9, 10, 11, 14, 16, 17, 18, 41, 42, 43])] [(20, [109])]
  | 4 => annOf [] [] []
  | 5 => annOf [] [] []
  | 6 => annOf [] [] []
  | 7 => annOf [] [] [(3, []), (4, [])]
  | 8 => annOf [(0, [0, 3, 4, 18, 19, 20])] [(0, [0, 3, 4, 5])] [(7, []), (10, [8, 9]), (16, []), (17, [96])]
  | 9 => annOf [(0, [3, 11, 12, 13])] [(0, [3])] []
  | 10 => annOf [] [] []
  | 11 => annOf [] [] []
  | 12 => annOf [] [] []
  | 13 => annOf [] [] []
  | 14 => annOf [(0, [0, 1, 4, 19, 20, 21])] [(0, [1, 4])] [(7, [10]), (9, [])]
  | 15 => annOf [] [] []
  | 16 => annOf [(0, [0, 2, 4])] [(0, [6, 7, 8])] [(3, [15])]
  | 17 => annOf [] [] []
  | 18 => annOf [(0, [1, 6, 7, 13, 14, 15])] [(0, [6, 7])] [(6, [10, 11])]
  | 19 => annOf [] [] [(3, [4])]
  | 20 => annOf [(0, [2, 3, 11, 12, 13]), (2, [2, 3, 6]), (4, [2, 3, 6, 7]), (6, [2, 3, 8]), (8, [2, 8, 9, 54])] [(0, [2, 3]), (2, [2, 3, 6]), (4, [2, 3]), (6, [2, 8]), (8, [2, 9])] []
  | 21 => annOf [(0, [0, 3, 5])] [(0, [3])] []
  | 22 => annOf [] [] [(1, [])]
  | 23 => annOf [] [] [(3, [6, 7])]
  | 24 => annOf [(0, [0, 2, 6, 22, 23, 24])] [(0, [0, 2, 3, 6])] []
  | 25 => annOf [(0, [0, 3, 4]), (2, [0, 3, 5]), (4, [0, 3, 5, 6])] [(0, [0, 3]), (2, [2]), (4, [0, 2, 3, 5])] [(12, [56])]
  | 26 => annOf [(0, [0, 3, 4])] [(0, [3])] []
  | 27 => annOf [] [] [(5, [6]), (7, [6])]
  | 28 => annOf [] [] []
  | 29 => annOf [] [] []
  | 30 => annOf [] [] []
  | 31 => annOf [] [] []
  | 32 => annOf [] [] []
  | 33 => annOf [(0, [0, 1, 2, 7, 8])] [(0, [0, 1, 2, 7, 8])] [(3, [23]), (7, [53])]
  | 34 => annOf [] [] []
  | 35 => annOf [(0, [0, 1, 5, 6])] [(0, [5])] [(5, [21])]
  | 36 => annOf [] [] [(1, [])]
  | 37 => annOf [(0, [0, 1, 4, 19]), (2, [0, 4, 6]), (4, [0, 4, 11, 104, 105]), (6, [0, 11, 186])] [(0, [0, 4]), (2, [0, 4]), (4, [0, 11]), (6, [])] [(4, []), (9, [7, 8]), (12, []), (17, [14, 15]), (18, [16]), (19, [17]), (25, [])]
  | 38 => annOf [] [] []
  | 39 => annOf [(0, [0, 4])] [(0, [2, 3, 4])] []
  | 40 => annOf [(0, [4, 21, 22, 23])] [(0, [4])] []
  | 41 => annOf [(0, [0, 2, 3]), (2, [2, 3, 4, 5]), (4, [2, 3, 6, 7]), (6, [2, 3, 6, 7, 8, 9]), (8, [2, 3, 6, 7, 8, 11]), (10, [2, 3, 6, 7, 8, 14, 15, 16, 17, 18, 19, 20, 21, 22]), (12, [2, 3, 6, 7, 25, 26]), (14, [2, 6, 27, 28])] [(0, [0, 2, 3]), (2, [2, 3]), (4, [2, 6]), (6, [2, 3, 6, 7, 8]), (8, [2, 3, 6, 7, 8]), (10, [2, 3, 6, 7, 14, 15, 16, 17, 18, 19, 20, 21]), (12, [2, 3, 6, 7]), (14, [2, 27])] [(19, []), (23, [12]), (24, [13]), (25, []), (26, [14, 15, 16, 17, 18, 19, 20, 21]), (30, [23]), (37, [])]
  | 42 => annOf [] [] [(3, [2]), (4, [4]), (5, [2])]
  | 43 => annOf [] [] []
  | 44 => annOf [] [] [(1, [5]), (2, [34]), (3, [4]), (4, [4]), (5, [68]), (6, [97]), (7, [4]), (8, [4])]
  | 45 => annOf [] [] [(2, [])]
  | 46 => annOf [] [] []
  | 47 => annOf [] [] []
  | 48 => annOf [(0, [0, 3, 4])] [(0, [3])] []
  | 50 => annOf [] [] [(5, [6, 7])]
  | 51 => annOf [] [] []
  | 52 => annOf [] [] [(3, [5]), (7, [2, 3, 4])]
  | 53 => annOf [] [] [(1, [4])]
  | 54 => annOf [(0, [0, 3, 4])] [(0, [3])] []
  | 55 => annOf [(0, [0])] [(0, [0])] []
  | _ => annOf [] [] []
end Go.Fm

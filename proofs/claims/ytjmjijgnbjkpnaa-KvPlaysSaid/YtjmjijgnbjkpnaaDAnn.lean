/-
  A part of the proof: DAnn.
-/
import Derived.Test.YtjmjijgnbjkpnaaChecked
import Derived.KernelRfl
import Derived.Test.YtjmjijgnbjkpnaaFm45
set_option linter.all false
set_option autoImplicit true
/-
  What is told of the program.
-/
set_option maxRecDepth 100000
set_option linter.unusedVariables false
set_option linter.unusedSimpArgs false
namespace Go.Fm
open Go Go.Proofs
/-- A row of bytes, read. -/
def bE (H : Heap) (x : AV) : Option (List UInt8) := match elemsOf H 1 x with
  | some es => bytesC es
  | none => none
def compareP (vs : List AV) (H : Heap) : Option (AV × Heap) := match vs with
  | [a, b] => match bE H a, bE H b with
    | some x, some y => some (.c (.int .i64 (if Op.bytesLess x y then -1 else if x == y then 0 else 1)), H)
    | _, _ => none
  | _ => none
def cloneP (vs : List AV) (H : Heap) : Option (AV × Heap) := match vs with
  | [.c .nilsl] => some (.c .nilsl, H)
  | [a] => match elemsOf H 1 a with
    | some es => match bytesC es with
      | some _ => if es.length ≤ 140737488355328 then some (.c (.sl 1 es), H) else none
      | none => none
    | none => none
  | _ => none
def insP (vs : List AV) (H : Heap) : Option (AV × Heap) := match vs with
  | [s, .c (.int .i64 i), .os x] => match H[x]? with
    | some (.row _ sz' [v]) => if sz' = 2 then
        match s with
        | .c .nilsl => if i = 0 then some (.os H.length, H ++ [.row 59 2 [v]]) else none
        | .os id => match H[id]? with
          | some (.row t sz es) => if (sz = 2 ∧ t = 59) ∧ id ≠ x ∧ (0 ≤ i ∧ i ≤ (es.length : Int)) ∧ (es.length + 1) * 48 ≤ 140737488355328 ∧ es.length + 1 ≤ maxLen then
              some (.os H.length, H.set id .dead ++ [.row 59 2 (es.take i.toNat ++ v :: es.drop i.toNat)]) else none
          | _ => none
        | _ => none
      else none
    | _ => none
  | _ => none
def delP (vs : List AV) (H : Heap) : Option (AV × Heap) := match vs with
  | [.os id, .c (.int .i64 i), .c (.int .i64 j)] => match H[id]? with
    | some (.row t sz es) => if (sz = 2 ∧ t = 59) ∧ (0 ≤ i ∧ i < (es.length : Int)) ∧ j = i + 1 then
        some (.os H.length, H.set id .dead ++ [.row 59 2 (es.take i.toNat ++ es.drop (i.toNat + 1))]) else none
    | _ => none
  | _ => none
def primSet (f : FuncId) : Bool := f == 45 || f == 35 || f == 37 || f == 38
/-- The program of the plain seat. -/
noncomputable def cfg (b : Bool) : Cfg where
  P := Try.prog
  gl := fun _ => none
  frz := fun _ => false
  keepA := fun f => f == 37 || f == 38 || f == 43 || f == 17 || f == 36 || f == 44 || f == 45 || f == 35
  keepR := fun f => f == 37 || f == 38
  prim := fun f => if f = 45 then some compareP else if f = 35 then some cloneP else if f = 37 then some insP else if f = 38 then some delP else none
def An0 : FuncId → Ann := fun f => match f with
  | 5 => annOf [(0, [1, 5, 6, 22, 23, 24]), (3, [1, 5, 6, 9, 11, 22, 23, 24, 76, 77])] [(0, [4, 5]), (3, [1, 5, 6, 9, 22, 23, 24])] [(30, [141]), (12, [6])]
  | 13 => annOf [] [] []
  | 14 => annOf [] [] []
  | 15 => annOf [] [] []
  | 16 => annOf [(0, [0, 1, 2, 7, 8])] [(0, [0, 1, 2, 7, 8])] [(3, [23]), (7, [53])]
  | 17 => annOf [] [] [(10, []), (11, [])]
  | 18 => annOf [] [] []
  | 19 => annOf [(0, [0, 1, 5])] [(0, [4])] [(4, [20])]
  | 20 => annOf [(0, [0, 1, 5, 6])] [(0, [5])] [(5, [21])]
  | 21 => annOf [] [] []
  | 22 => annOf [(0, [0, 1, 5])] [(0, [4])] [(6, [44])]
  | 23 => annOf [(0, [1, 5, 13, 14, 15])] [(0, [5])] [(8, [5])]
  | 24 => annOf [(0, [0, 1, 5, 6])] [(0, [5])] [(5, [35])]
  | 35 => annOf [] [] []
  | 36 => annOf [] [] []
  | 39 => annOf [] [] []
  | 43 => annOf [(0, [0, 1, 2, 8, 9, 10])] [(0, [0, 1, 2, 8, 9])] []
  | 44 => annOf [] [] []
  | 48 => annOf [] [] []
  | _ => annOf [] [] []
/-! ### Pieces that are taken as a whole -/
def cloneF (vs : List AV) (H : Heap) : Option (AV × Heap) := match vs with
  | [.c .nilsl] => some (.c .nilsl, H)
  | [.c (.sl 1 es)] => match bytesC es with
    | some _ => if es.length ≤ 140737488355328 then some (.c (.frs es), H) else none
    | none => none
  | _ => none
/-- The program once more; what bytes.Clone gives lies fresh. -/
noncomputable def cfgF : Cfg where
  P := Try.prog
  gl := fun _ => none
  frz := fun _ => false
  keepA := fun _ => false
  keepR := fun _ => false
  prim := fun f => if f = 35 then some cloneF else none
mutual
/-- Nothing in it is told to lie fresh. -/
def CV.plain : CV → Bool
  | .frs _ => false
  | .ptr r _ _ => r.plain
  | .sl _ es => CV.plains es
  | .agg fs => CV.plains fs
  | .iface _ v => v.plain
  | _ => true
def CV.plains : List CV → Bool
  | [] => true
  | f :: fs => f.plain && CV.plains fs
end
/-- An element whose bytes lie fresh. -/
def FrE (sz k : Nat) (e : CV) : Prop := e.size = sz ∧ e.isAgg = true ∧ ∃ x, getC e [k] = some x ∧ offC e [k] = some k ∧ (x = .nilsl ∨ ∃ bs : List UInt8, x = .frs (bytesAV bs))
/-- Values let go, one behind the other. -/
def freezeL : Heap → List AV → Option (List CV × Heap)
  | H, [] => some ([], H)
  | H, v :: vs => match toC 8 H v with
    | some (c, H') => match freezeL H' vs with
      | some (cs, H'') => some (c :: cs, H'')
      | none => none
    | none => none
def okRow (f : FuncId) (sz k : Nat) (vs : List AV) (H : Heap) : Prop := (∀ v ∈ vs, NT v) ∧ ∃ cs H' r, freezeL H vs = some (cs, H') ∧ (∀ c ∈ cs, c.isAgg = false ∧ c.plain = true) ∧ fnX cfgF An0 f (cs.map .c) [] = some (.c r, []) ∧ ((r = .nilsl) ∨ ∃ es, r = .sl sz es ∧ ∀ e ∈ es, FrE sz k e)
def okpc5_32 (vs : List AV) (H : Heap) : Prop := okRow 23 2 1 (vs.take 1 ++ [.c .nilsl]) H
noncomputable def pc5_32 : Piece := ⟨[5, 163], okpc5_32, [17, 18, 142, 143, 144, 145, 146, 147, 148, 149, 150, 151, 152, 153, 154, 155, 156, 157, 158, 159, 160, 161, 162, 163]⟩
noncomputable def An : FuncId → Ann := fun f => if f = 5 then { An0 f with pc := fun id => if id = 32 then some pc5_32 else none } else An0 f
end Go.Fm

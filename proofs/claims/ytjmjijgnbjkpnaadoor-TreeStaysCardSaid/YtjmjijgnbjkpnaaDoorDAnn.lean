/-
  A part of the proof: DAnn.
-/
import Derived.Test.YtjmjijgnbjkpnaaDoorChecked
import Derived.KernelRfl
import Derived.Test.YtjmjijgnbjkpnaaDoorFm45
set_option linter.all false
set_option autoImplicit true
/-
  What is told of the program.
-/
set_option maxRecDepth 100000
set_option linter.unusedVariables false
set_option linter.unusedSimpArgs false
namespace Go.Fm
open Go Go.Proofs
def words : List Int := [0x428a2f98, 0x71374491, 0xb5c0fbcf, 0xe9b5dba5, 0x3956c25b, 0x59f111f1, 0x923f82a4, 0xab1c5ed5,
  0xd807aa98, 0x12835b01, 0x243185be, 0x550c7dc3, 0x72be5d74, 0x80deb1fe, 0x9bdc06a7, 0xc19bf174,
  0xe49b69c1, 0xefbe4786, 0x0fc19dc6, 0x240ca1cc, 0x2de92c6f, 0x4a7484aa, 0x5cb0a9dc, 0x76f988da,
  0x983e5152, 0xa831c66d, 0xb00327c8, 0xbf597fc7, 0xc6e00bf3, 0xd5a79147, 0x06ca6351, 0x14292967,
  0x27b70a85, 0x2e1b2138, 0x4d2c6dfc, 0x53380d13, 0x650a7354, 0x766a0abb, 0x81c2c92e, 0x92722c85,
  0xa2bfe8a1, 0xa81a664b, 0xc24b8b70, 0xc76c51a3, 0xd192e819, 0xd6990624, 0xf40e3585, 0x106aa070,
  0x19a4c116, 0x1e376c08, 0x2748774c, 0x34b0bcb5, 0x391c0cb3, 0x4ed8aa4a, 0x5b9cca4f, 0x682e6ff3,
  0x748f82ee, 0x78a5636f, 0x84c87814, 0x8cc70208, 0x90befffa, 0xa4506ceb, 0xbef9a3f7, 0xc67178f2]
/-- A row of bytes, read. -/
def bE (H : Heap) (x : AV) : Option (List UInt8) := match elemsOf H 1 x with
  | some es => bytesC es
  | none => none
def compareP (vs : List AV) (H : Heap) : Option (AV × Heap) := match vs with
  | [a, b] => match bE H a, bE H b with
    | some x, some y => some (.c (.int .i64 (if Op.bytesLess x y then -1 else if x == y then 0 else 1)), H)
    | _, _ => none
  | _ => none
def cloneP (vs : List AV) (H : Heap) : Option (AV × Heap) := match vs with
  | [.c .nilsl] => some (.c .nilsl, H)
  | [a] => match elemsOf H 1 a with
    | some es => match bytesC es with
      | some _ => if es.length ≤ 140737488355328 then some (.c (.sl 1 es), H) else none
      | none => none
    | none => none
  | _ => none
def insP (vs : List AV) (H : Heap) : Option (AV × Heap) := match vs with
  | [s, .c (.int .i64 i), .os x] => match H[x]? with
    | some (.row _ sz' [v]) => if sz' = 2 then
        match s with
        | .c .nilsl => if i = 0 then some (.os H.length, H ++ [.row 97 2 [v]]) else none
        | .os id => match H[id]? with
          | some (.row t sz es) => if (sz = 2 ∧ t = 97) ∧ id ≠ x ∧ (0 ≤ i ∧ i ≤ (es.length : Int)) ∧ (es.length + 1) * 48 ≤ 140737488355328 ∧ es.length + 1 ≤ maxLen then
              some (.os H.length, H.set id .dead ++ [.row 97 2 (es.take i.toNat ++ v :: es.drop i.toNat)]) else none
          | _ => none
        | _ => none
      else none
    | _ => none
  | _ => none
def delP (vs : List AV) (H : Heap) : Option (AV × Heap) := match vs with
  | [.os id, .c (.int .i64 i), .c (.int .i64 j)] => match H[id]? with
    | some (.row t sz es) => if (sz = 2 ∧ t = 97) ∧ (0 ≤ i ∧ i < (es.length : Int)) ∧ j = i + 1 then
        some (.os H.length, H.set id .dead ++ [.row 97 2 (es.take i.toNat ++ es.drop (i.toNat + 1))]) else none
    | _ => none
  | _ => none
def primSet (f : FuncId) : Bool := f == 101 || f == 103 || f == 113 || f == 115
/-- The program; b: is the second table known, too? -/
noncomputable def cfg (b : Bool) : Cfg where
  P := Tryd.prog
  gl := fun g => if g = 1 then some (.arr 64 .u32 words) else if g = 0 ∧ b = true then some (.arr 64 .u32 words) else none
  frz := fun t => t == 145 || t == 140 || t == 64
  keepA := fun f => f == 43 || f == 67 || f == 97 || f == 105 || f == 132 || f == 134 || f == 113 || f == 115 || f == 36 || f == 61 || f == 91 || f == 100 || f == 101 || f == 102 || f == 103 || f == 123
  keepR := fun f => f == 43 || f == 67 || f == 84 || f == 97 || f == 105 || f == 111 || f == 113 || f == 115
  prim := fun f => if f = 101 then some compareP else if f = 103 then some cloneP else if f = 113 then some insP else if f = 115 then some delP else none
def glR (g : Nat) : AV := .c (.ptr (.arr 64 .u32 words) [] 0)
def An0 : FuncId → Ann := fun f => match f with
  | 3 => annOf [] [] []
  | 4 => annOf [] [] []
  | 5 => annOf [(0, [0, 5, 6, 7, 8, 41, 42, 43]), (2, [5, 6, 8, 13, 14, 113, 114])] [(0, [0, 4, 5, 6, 8]), (2, [4, 5, 6, 8])] [(12, [7]), (27, [176])]
  | 6 => annOf [(0, [1, 5, 6, 7, 26, 27, 28]), (2, [1, 5, 6, 7, 68, 69, 70])] [(0, [1, 5, 6, 7]), (2, [1, 5, 6, 7])] [(14, [62]), (29, [4])]
  | 7 => annOf [(0, [4, 5, 6, 7])] [(0, [4, 5, 6, 7])] []
  | 8 => annOf [(0, [5, 6, 7, 9, 10, 33, 34]), (2, [5, 6, 7, 9, 10, 41, 42, 43])] [(0, [5, 6, 7, 9, 10]), (2, [5, 6, 7, 9, 10])] [(16, [4])]
  | 9 => annOf [(0, [3, 4, 5, 6])] [(0, [2, 3, 4, 6])] [(18, [122])]
  | 10 => annOf [] [] []
  | 11 => annOf [(0, [5, 6, 68, 69, 70])] [(0, [4, 5])] []
  | 12 => annOf [(0, [3, 4, 21, 22, 23])] [(0, [2, 3, 4])] [(31, [164])]
  | 13 => annOf [(0, [5, 6, 7, 8, 32, 33, 34]), (2, [5, 6, 7, 8, 11, 12, 13, 32, 33, 34, 80, 81]), (4, [5, 6, 7, 8, 12, 13, 32, 33, 34, 92, 93])] [(0, [4, 5, 6, 7]), (2, [5, 6, 7, 8, 12, 13, 32, 33, 34]), (4, [5, 6, 7, 8, 13, 32, 33, 34])] [(10, [11, 12]), (43, [150]), (46, [4])]
  | 14 => annOf [] [] []
  | 15 => annOf [] [] [(14, [4])]
  | 16 => annOf [(0, [2, 7, 8, 9, 10, 11, 13, 38, 39])] [(0, [6, 7, 8, 9, 10, 13])] [(13, [74])]
  | 17 => annOf [(0, [5, 6, 7, 9, 10, 33, 34])] [(0, [5, 6, 7, 9, 10])] [(12, [4])]
  | 18 => annOf [(0, [1, 2, 7, 9, 25, 26, 27]), (2, [7, 9, 13, 14, 62, 63, 64])] [(0, [1, 2, 7, 9]), (2, [6, 7, 9, 13])] [(11, [13, 14]), (12, [61])]
  | 19 => annOf [(0, [3, 4, 12, 13, 14])] [(0, [3, 4])] []
  | 20 => annOf [] [] []
  | 21 => annOf [(0, [0, 1, 2, 9, 10, 11, 12, 13, 14, 50, 51, 52]), (3, [0, 1, 9, 10, 11, 14, 188, 189])] [(0, [0, 1, 8, 9, 10, 11, 14]), (3, [0, 1, 8, 10])] [(33, [168]), (44, [256])]
  | 22 => annOf [(0, [3, 5, 6, 7, 8, 9, 10, 11, 12, 13, 14, 15, 58, 59])] [(0, [3, 5, 6, 7, 8, 9, 10, 11, 12, 13, 14])] []
  | 23 => annOf [(0, [1, 5, 6, 8, 21, 22])] [(0, [5, 6, 8])] [(8, []), (11, [])]
  | 24 => annOf [(0, [1, 2, 9])] [(0, [1, 2])] []
  | 25 => annOf [] [] [(4, [31])]
  | 26 => annOf [] [] []
  | 27 => annOf [] [] [(3, [9]), (5, [4, 5])]
  | 28 => annOf [] [] []
  | 29 => annOf [] [] [(3, [2])]
  | 30 => annOf [(0, [3, 11, 12, 13])] [(0, [3])] []
  | 31 => annOf [] [] [(3, [0])]
  | 32 => annOf [(0, [0, 3, 4])] [(0, [3])] []
  | 33 => annOf [] [] []
  | 34 => annOf [(0, [0, 3, 4]), (2, [0, 3, 5]), (4, [0, 3, 5, 6])] [(0, [0, 3]), (2, [2]), (4, [0, 2, 3, 5])] [(12, [56])]
  | 35 => annOf [] [] []
  | 36 => annOf [] [] []
  | 37 => annOf [] [] []
  | 38 => annOf [(0, [1, 9, 10, 11])] [(0, [1])] []
  | 39 => annOf [(0, [1, 6, 7, 13, 14, 15])] [(0, [6, 7])] [(6, [10, 11])]
  | 40 => annOf [(0, [0, 3, 4])] [(0, [3])] [(5, [3])]
  | 41 => annOf [] [] [(5, [27]), (7, [36]), (10, [50]), (11, [6]), (12, [6])]
  | 42 => annOf [(0, [0, 1, 5])] [(0, [4])] [(4, [20])]
  | 43 => annOf [] [] [(4, [4]), (5, [4])]
  | 44 => annOf [] [] [(3, [19])]
  | 45 => annOf [(0, [4, 6, 23, 24, 25])] [(0, [4, 5, 6])] []
  | 46 => annOf [] [] []
  | 47 => annOf [] [] []
  | 48 => annOf [] [] [(1, [3])]
  | 49 => annOf [] [] [(3, []), (4, [])]
  | 50 => annOf [(0, [0, 1, 5])] [(0, [4])] [(6, [44])]
  | 51 => annOf [] [] []
  | 52 => annOf [] [] [(7, [6]), (10, [])]
  | 53 => annOf [(0, [1, 4, 13, 14, 15])] [(0, [4, 5])] []
  | 54 => annOf [] [] []
  | 55 => annOf [] [] [(1, [])]
  | 56 => annOf [] [] []
  | 57 => annOf [] [] [(3, [5, 6])]
  | 58 => annOf [] [] []
  | 59 => annOf [] [] []
  | 60 => annOf [] [] []
  | 61 => annOf [] [] []
  | 62 => annOf [] [] []
  | 63 => annOf [(0, [1, 6])] [(0, [1, 6])] []
  | 64 => annOf [] [] []
  | 65 => annOf [(0, [0, 1, 5])] [(0, [4])] [(6, [26])]
  | 66 => annOf [] [] []
  | 67 => annOf [] [] [(6, [4])]
  | 68 => annOf [] [] []
  | 69 => annOf [] [] []
  | 70 => annOf [(0, [0, 1, 4, 19, 20, 21])] [(0, [1, 4])] [(7, [10]), (9, [])]
  | 71 => annOf [] [] []
  | 72 => annOf [] [] [(4, [21]), (6, [8]), (19, [])]
  | 73 => annOf [] [] [(3, [2])]
  | 74 => annOf [] [] []
  | 75 => annOf [] [] []
  | 76 => annOf [] [] [(10, []), (11, [])]
  | 77 => annOf [(0, [1, 5, 13, 14, 15])] [(0, [5])] [(8, [5])]
  | 78 => annOf [(0, [0, 1, 2, 7, 8])] [(0, [0, 1, 2, 7, 8])] [(3, [23]), (7, [53])]
  | 79 => annOf [(0, [3, 13, 14, 15])] [(0, [3])] []
  | 80 => annOf [] [] []
  | 81 => annOf [] [] []
  | 82 => annOf [] [] []
  | 83 => annOf [] [] [(2, [])]
  | 84 => annOf [] [] [(3, [6, 7])]
  | 85 => annOf [(0, [0, 2, 6, 22, 23, 24])] [(0, [0, 2, 3, 6])] []
  | 86 => annOf [(0, [0, 5, 13, 14, 15]), (2, [0, 5, 8, 28])] [(0, [0, 5]), (2, [8])] [(14, [])]
  | 87 => annOf [(0, [3, 6, 7, 8])] [(0, [3])] []
  | 88 => annOf [(0, [2, 3, 11, 12, 13]), (2, [2, 3, 6]), (4, [2, 3, 6, 7]), (6, [2, 3, 8]), (8, [2, 8, 9, 54])] [(0, [2, 3]), (2, [2, 3, 6]), (4, [2, 3]), (6, [2, 8]), (8, [2, 9])] []
  | 89 => annOf [(0, [0, 3, 4])] [(0, [3])] []
  | 90 => annOf [(0, [0, 2, 3]), (2, [2, 3, 4, 5]), (4, [2, 3, 6, 7]), (6, [2, 3, 6, 7, 8, 9]), (8, [2, 3, 6, 7, 8, 11]), (10, [2, 3, 6, 7, 8, 14, 15, 16, 17, 18, 19, 20, 21, 22]), (12, [2, 3, 6, 7, 25, 26]), (14, [2, 6, 27, 28])] [(0, [0, 2, 3]), (2, [2, 3]), (4, [2, 6]), (6, [2, 3, 6, 7, 8]), (8, [2, 3, 6, 7, 8]), (10, [2, 3, 6, 7, 14, 15, 16, 17, 18, 19, 20, 21]), (12, [2, 3, 6, 7]), (14, [2, 27])] [(19, []), (23, [12]), (24, [13]), (25, []), (26, [14, 15, 16, 17, 18, 19, 20, 21]), (30, [23]), (37, [])]
  | 91 => annOf [] [] [(5, [6]), (7, [6])]
  | 92 => annOf [(0, [0, 1, 5, 6])] [(0, [5])] [(5, [21])]
  | 93 => annOf [] [] [(4, [4])]
  | 94 => annOf [] [] [(1, [16]), (2, [31]), (4, [4]), (5, [4]), (6, [72]), (7, [87]), (9, [4]), (10, [4])]
  | 95 => annOf [] [] [(1, [])]
  | 96 => annOf [(0, [0, 3, 5])] [(0, [3])] []
  | 97 => annOf [] [] [(4, [4]), (5, [4])]
  | 98 => annOf [] [] [(2, [])]
  | 99 => annOf [] [] []
  | 100 => annOf [] [] [(5, [6, 7])]
  | 101 => annOf [] [] []
  | 102 => annOf [] [] []
  | 103 => annOf [] [] []
  | 104 => annOf [] [] [(3, []), (4, [4]), (5, [])]
  | 105 => annOf [] [] [(3, [4])]
  | 106 => annOf [] [] []
  | 107 => annOf [] [] [(5, [17])]
  | 108 => annOf [] [] []
  | 109 => annOf [] [] []
  | 110 => annOf [] [] [(1, [])]
  | 111 => annOf [] [] []
  | 112 => annOf [] [] []
  | 113 => annOf [] [] [(11, []), (15, [])]
  | 114 => annOf [] [] []
  | 115 => annOf [] [] [(5, [0])]
  | 116 => annOf [] [] [(1, [3]), (2, [2])]
  | 117 => annOf [(0, [0, 4])] [(0, [2, 3, 4])] []
  | 118 => annOf [(0, [4, 21, 22, 23])] [(0, [4])] []
  | 119 => annOf [] [] [(1, [6, 7])]
  | 120 => annOf [(0, [0, 3, 4])] [(0, [3])] []
  | 121 => annOf [(0, [0, 1, 4, 19]), (2, [0, 4, 6]), (4, [0, 4, 11, 104, 105]), (6, [0, 11, 186])] [(0, [0, 4]), (2, [0, 4]), (4, [0, 11]), (6, [])] [(4, []), (9, [7, 8]), (12, []), (17, [14, 15]), (18, [16]), (19, [17]), (25, [])]
  | 122 => annOf [] [] [(1, [4])]
  | 123 => annOf [] [] []
  | 124 => annOf [] [] [(1, [5]), (2, [34]), (3, [4]), (4, [4]), (5, [68]), (6, [97]), (7, [4]), (8, [4])]
  | 125 => annOf [] [] [(2, [])]
  | 126 => annOf [(0, [0])] [(0, [0])] []
  | 127 => annOf [] [] []
  | 129 => annOf [] [] []
  | 130 => annOf [] [] []
  | 131 => annOf [(0, [0, 3, 4])] [(0, [3])] []
  | 132 => annOf [(0, [0, 1, 7, 8])] [(0, [4])] []
  | 133 => annOf [] [] []
  | 134 => annOf [(0, [0, 1, 2, 8, 9, 10])] [(0, [0, 1, 2, 8, 9])] []
  | 135 => annOf [] [] []
  | 137 => annOf [] [] []
  | 138 => annOf [] [] []
  | 139 => annOf [(0, [3])] [(0, [3])] []
  | 140 => annOf [] [] []
  | 141 => annOf [] [] [(3, [5]), (7, [2, 3, 4])]
  | 142 => annOf [] [] [(3, [2]), (4, [4]), (5, [2])]
  | 143 => annOf [] [] []
  | 144 => annOf [(0, [0])] [(0, [0])] []
  | 145 => annOf [] [] []
  | 146 => annOf [] [] []
  | 147 => annOf [] [] []
  | 148 => annOf [] [] []
  | 149 => annOf [(0, [0, 2, 3])] [(0, [])] [(3, [])]
  | _ => annOf [] [] []
/-! ### Pieces that are taken as a whole -/
def cloneF (vs : List AV) (H : Heap) : Option (AV × Heap) := match vs with
  | [.c .nilsl] => some (.c .nilsl, H)
  | [.c (.sl 1 es)] => match bytesC es with
    | some _ => if es.length ≤ 140737488355328 then some (.c (.frs es), H) else none
    | none => none
  | _ => none
/-- The program once more; what bytes.Clone gives lies fresh. -/
noncomputable def cfgF : Cfg where
  P := Tryd.prog
  gl := fun _ => none
  frz := fun t => t == 145 || t == 140 || t == 64
  keepA := fun f => f == 43 || f == 67 || f == 97 || f == 105
  keepR := fun f => f == 43 || f == 67 || f == 84 || f == 97 || f == 105 || f == 111
  prim := fun f => if f = 103 then some cloneF else none
mutual
/-- Nothing in it is told to lie fresh. -/
def CV.plain : CV → Bool
  | .frs _ => false
  | .ptr r _ _ => r.plain
  | .sl _ es => CV.plains es
  | .agg fs => CV.plains fs
  | .iface _ v => v.plain
  | _ => true
def CV.plains : List CV → Bool
  | [] => true
  | f :: fs => f.plain && CV.plains fs
end
/-- An element whose bytes lie fresh. -/
def FrE (sz k : Nat) (e : CV) : Prop := e.size = sz ∧ e.isAgg = true ∧ ∃ x, getC e [k] = some x ∧ offC e [k] = some k ∧ (x = .nilsl ∨ ∃ bs : List UInt8, x = .frs (bytesAV bs))
def okRow (f : FuncId) (sz k : Nat) (vs : List AV) : Prop := ∃ v r, vs = [.c v] ∧ v.isAgg = false ∧ v.plain = true ∧ fnX cfgF An0 f [.c v] [] = some (.c r, []) ∧ ((r = .nilsl) ∨ ∃ es, r = .sl sz es ∧ ∀ e ∈ es, FrE sz k e)
def okpc13_25 (vs : List AV) : Prop := okRow 51 2 0 (vs.take 1)
def okpc13_34 (vs : List AV) : Prop := okRow 66 68 0 (vs.take 1)
noncomputable def pc13_25 : Piece := ⟨[8, 124], okpc13_25, [17, 18, 103, 104, 105, 106, 107, 108, 109, 110, 111, 112, 113, 114, 115, 116, 117, 118, 119, 120, 121, 122, 123, 124]⟩
noncomputable def pc13_34 : Piece := ⟨[8, 146], okpc13_34, [20, 21, 125, 126, 127, 128, 129, 130, 131, 132, 133, 134, 135, 136, 137, 138, 139, 140, 141, 142, 143, 144, 145, 146]⟩
noncomputable def An : FuncId → Ann := fun f => if f = 13 then { An0 f with pc := fun id => if id = 25 then some pc13_25 else if id = 34 then some pc13_34 else none } else An0 f
end Go.Fm

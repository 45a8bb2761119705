/-
  A part of the proof: PRNode.
-/
import Derived.Test.YtjmjijgnbjkpnaaDoorPRSum
import Derived.Test.YtjmjijgnbjkpnaaDoorPTree
import Derived.Test.YtjmjijgnbjkpnaaDoorDRef05
import Derived.Test.YtjmjijgnbjkpnaaDoorPGrow
import Derived.Test.YtjmjijgnbjkpnaaDoorPLawT1
set_option linter.all false
set_option autoImplicit true
/-
  ref05: the document's nodes; above, balanced.
-/
set_option maxRecDepth 100000
set_option linter.unusedVariables false
set_option linter.unusedSimpArgs false
namespace Go.Fm
open Go Go.Proofs
namespace Tn
/-- A node as the document has it: no sums. -/
def rcv : Tn → CV
  | leaf k v => .agg [.sl 1 (bytesAV k), pV v, .int .i64 0, .int .u64 1, .nilp, .nilp]
  | node l r => .agg [.sl 1 (bytesAV r.least), .nilsl, .int .i64 ((1 + max l.ht r.ht : Nat) : Int), .int .u64 ((l.sz + r.sz : Nat) : Int), .ptr l.rcv [] 0, .ptr r.rcv [] 0]
def rpt (t : Tn) : CV := .ptr t.rcv [] 0
def rlp : Tn → CV
  | leaf _ _ => .nilp
  | node l _ => l.rpt
def rrp : Tn → CV
  | leaf _ _ => .nilp
  | node _ r => r.rpt
theorem rcv_eq (t : Tn) : t.rcv = .agg [.sl 1 (bytesAV t.key), pV t.val, .int .i64 (t.ht : Int), .int .u64 (t.sz : Int), t.rlp, t.rrp] := by cases t <;> rfl
end Tn
theorem csz_rlp (t : Tn) : CV.size t.rlp = 1 := by cases t <;> rfl
theorem cag_rlp (t : Tn) : CV.isAgg t.rlp = false := by cases t <;> rfl
theorem csz_rrp (t : Tn) : CV.size t.rrp = 1 := by cases t <;> rfl
theorem cag_rrp (t : Tn) : CV.isAgg t.rrp = false := by cases t <;> rfl
attribute [simp] csz_rlp cag_rlp csz_rrp cag_rrp
section
variable (t : Tn)
theorem rg_k : getC t.rcv [0] = some (.sl 1 (bytesAV t.key)) := by rw [t.rcv_eq]; simp
theorem ro_k : offC t.rcv [0] = some 0 := by rw [t.rcv_eq]; simp
theorem rg_v : getC t.rcv [1] = some (pV t.val) := by rw [t.rcv_eq]; simp
theorem ro_v : offC t.rcv [1] = some 1 := by rw [t.rcv_eq]; simp
theorem rg_h : getC t.rcv [2] = some (.int .i64 (t.ht : Int)) := by rw [t.rcv_eq]; simp
theorem ro_h : offC t.rcv [2] = some 2 := by rw [t.rcv_eq]; simp [csz_pV]
theorem rg_s : getC t.rcv [3] = some (.int .u64 (t.sz : Int)) := by rw [t.rcv_eq]; simp
theorem ro_s : offC t.rcv [3] = some 3 := by rw [t.rcv_eq]; simp [csz_pV]
theorem rg_l : getC t.rcv [4] = some t.rlp := by rw [t.rcv_eq]; simp
theorem ro_l : offC t.rcv [4] = some 4 := by rw [t.rcv_eq]; simp
theorem rg_r : getC t.rcv [5] = some t.rrp := by rw [t.rcv_eq]; simp
theorem ro_r : offC t.rcv [5] = some 5 := by rw [t.rcv_eq]; simp
end
attribute [simp] rg_k ro_k rg_v ro_v rg_h ro_h rg_s ro_s rg_l ro_l rg_r ro_r
/-! CF -/
end Go.Fm
/-
  ref05: balanced.
-/
set_option maxRecDepth 100000
set_option linter.unusedVariables false
set_option linter.unusedSimpArgs false
namespace Go.Fm
open Go Go.Proofs
/-! CF -/
end Go.Fm
/-
  ref05: Put.
-/
set_option maxRecDepth 100000
set_option linter.unusedVariables false
set_option linter.unusedSimpArgs false
namespace Go.Fm
open Go Go.Proofs
/-! CF -/
end Go.Fm
/-
  ref05: Cut, Leaves.
-/
set_option maxRecDepth 100000
set_option linter.unusedVariables false
set_option linter.unusedSimpArgs false
namespace Go.Fm
open Go Go.Proofs
/-! CF -/
end Go.Fm
/-
  ref05: Hash, Api, Sum.
-/
set_option maxRecDepth 100000
set_option linter.unusedVariables false
set_option linter.unusedSimpArgs false
namespace Go.Fm
open Go Go.Proofs
theorem eight_call (b : Bool) (z : Int) (H : Heap) : callX (cfg b) An 32 [.c (.int .u64 z)] H = some (.c (.sl 1 (bytesAV (lenBytes z))), H) := callX_pure (eight_fn b z) rfl rfl (prim_none (by decide)) H
theorem cf_PRNode5_8bda40f5 : clashFree [0, 1, 3, 7, 15, 0, 32, 127, 0, 511, 1023, 2047] [(false, [0], 3, 3), (false, [0], 3, 3), (false, [], 3, 3), (false, [], 3, 3), (false, [], 3, 4), (false, [0], 4, 4), (false, [0], 4, 4), (true, [3], 4, 5), (true, [2], 5, 5), (true, [4], 5, 6), (true, [5], 6, 6), (true, [1], 6, 6)] = true := by decide
attribute [simp] cf_PRNode5_8bda40f5
theorem cf_PRNode5_a0faf9c4 : clashFree [0, 1, 3, 7, 0, 16, 48, 127, 255] [(false, [0], 2, 2), (false, [0], 2, 2), (false, [], 2, 2), (false, [], 2, 3), (false, [0], 3, 3), (false, [0], 3, 3), (false, [], 3, 3), (true, [2], 3, 4), (false, [3], 4, 4)] = true := by decide
attribute [simp] cf_PRNode5_a0faf9c4
theorem cf_PRNode5_97df2d53 : clashFree [0, 0, 2, 7, 0, 16, 63, 127, 255] [(false, [3], 4, 4), (false, [0], 4, 4), (true, [0], 4, 4), (true, [3], 4, 5), (false, [0], 5, 5), (false, [0], 5, 5), (true, [4], 5, 6), (true, [5], 6, 6), (true, [1], 6, 6)] = false := by decide
attribute [simp] cf_PRNode5_97df2d53
theorem cf_PRNode5_d29e1b01 : clashFree [0, 0, 2, 7, 0, 16, 63, 127, 255] [(false, [3], 4, 4), (false, [0], 4, 4), (false, [0], 4, 4), (true, [3], 4, 5), (false, [0], 5, 5), (false, [0], 5, 5), (true, [4], 5, 6), (true, [5], 6, 6), (true, [1], 6, 6)] = true := by decide
attribute [simp] cf_PRNode5_d29e1b01
theorem cf_PRNode5_5e17ebae : clashFree [0, 1, 3, 7, 0, 16, 48, 127, 255] [(false, [0], 2, 2), (false, [0], 2, 2), (false, [], 2, 2), (false, [], 2, 3), (false, [0], 3, 3), (false, [0], 3, 3), (false, [], 3, 3), (true, [2], 3, 4), (false, [], 4, 4)] = true := by decide
attribute [simp] cf_PRNode5_5e17ebae
theorem cf_PRNode5_bdb2b246 : clashFree [0, 0, 2, 7, 0, 16, 63, 127, 255] [(false, [], 4, 4), (false, [0], 4, 4), (true, [0], 4, 4), (true, [3], 4, 5), (false, [0], 5, 5), (false, [0], 5, 5), (true, [4], 5, 6), (true, [5], 6, 6), (true, [1], 6, 6)] = false := by decide
attribute [simp] cf_PRNode5_bdb2b246
theorem cf_PRNode5_dce91210 : clashFree [0, 0, 2, 7, 0, 16, 63, 127, 255] [(false, [], 4, 4), (false, [0], 4, 4), (false, [0], 4, 4), (true, [3], 4, 5), (false, [0], 5, 5), (false, [0], 5, 5), (true, [4], 5, 6), (true, [5], 6, 6), (true, [1], 6, 6)] = true := by decide
attribute [simp] cf_PRNode5_dce91210
/-! CF -/
end Go.Fm

/-
  A part of the proof: PTree1.
-/
import Derived.Test.YtjmjijgnbjkpnaaDoorPSha
import Derived.Test.YtjmjijgnbjkpnaaDoorFm46
import Derived.Test.YtjmjijgnbjkpnaaDoorDTree
import Derived.Test.YtjmjijgnbjkpnaaDoorPEpoch1
set_option linter.all false
set_option autoImplicit true
/-
  tree: what a node is; sums; leaves and inner nodes.
-/
set_option maxRecDepth 100000
set_option linter.unusedVariables false
set_option linter.unusedSimpArgs false
namespace Go.Fm
open Go Go.Proofs

/-- A tree that is not empty. -/
inductive Tn where
  | leaf (k : List UInt8) (v : Option (List UInt8))
  | node (l r : Tn)
  deriving Inhabited

namespace Tn
def least : Tn → List UInt8
  | leaf k _ => k
  | node l _ => l.least
def key : Tn → List UInt8
  | leaf k _ => k
  | node _ r => r.least
def val : Tn → Option (List UInt8)
  | leaf _ v => v
  | node _ _ => none
def ht : Tn → Nat
  | leaf _ _ => 0
  | node l r => 1 + max l.ht r.ht
def sz : Tn → Nat
  | leaf _ _ => 1
  | node l r => l.sz + r.sz
def hash : Tn → List UInt8
  | leaf k v => shaW ([0, byteOf (k.length : Int)] ++ k ++ shaW (pB v))
  | node l r => shaW ([1, byteOf ((1 + max l.ht r.ht : Nat) : Int)] ++ lenBytes ((l.sz + r.sz : Nat) : Int) ++ l.hash ++ r.hash)
def lh : Tn → List UInt8
  | leaf _ _ => zero32
  | node l _ => l.hash
def rh : Tn → List UInt8
  | leaf _ _ => zero32
  | node _ r => r.hash
def api (t : Tn) : CV := .agg [.sl 1 (bytesAV t.key), pV t.val, .int .i64 (t.ht : Int), .int .u64 (t.sz : Int), .arr 32 .u8 (dI t.lh), .arr 32 .u8 (dI t.rh)]
def cv : Tn → CV
  | leaf k v => .agg [(leaf k v).api, .arr 32 .u8 (dI (leaf k v).hash), .nilp, .nilp]
  | node l r => .agg [(node l r).api, .arr 32 .u8 (dI (node l r).hash), .ptr l.cv [] 0, .ptr r.cv [] 0]
def lp : Tn → CV
  | leaf _ _ => .nilp
  | node l _ => .ptr l.cv [] 0
def rp : Tn → CV
  | leaf _ _ => .nilp
  | node _ r => .ptr r.cv [] 0
theorem cv_eq (t : Tn) : t.cv = .agg [t.api, .arr 32 .u8 (dI t.hash), t.lp, t.rp] := by cases t <;> rfl

theorem hash_len (t : Tn) : t.hash.length = 32 := by cases t <;> simp only [hash, shaW_len]
theorem lh_len (t : Tn) : t.lh.length = 32 := by cases t <;> simp [lh, hash_len, zero32]
theorem rh_len (t : Tn) : t.rh.length = 32 := by cases t <;> simp [rh, hash_len, zero32]
theorem sz_pos (t : Tn) : 1 ≤ t.sz := by induction t with
  | leaf => simp [sz]
  | node l r ihl ihr => simp [sz]; omega
theorem ht_lt (t : Tn) : t.ht < t.sz := by induction t with
  | leaf => simp [ht, sz]
  | node l r ihl ihr => simp only [ht, sz]; have := l.sz_pos; have := r.sz_pos; omega
/-- A node's pointer. -/
def pt (t : Tn) : CV := .ptr t.cv [] 0
/-- .. or nil. -/
def pto : Option Tn → CV
  | none => .nilp
  | some t => t.pt
end Tn
theorem csz_pV (v : Option (List UInt8)) : CV.size (pV v) = 1 := by cases v <;> rfl
theorem cag_pV (v : Option (List UInt8)) : CV.isAgg (pV v) = false := by cases v <;> rfl
theorem csz_lp (t : Tn) : CV.size t.lp = 1 := by cases t <;> rfl
theorem cag_lp (t : Tn) : CV.isAgg t.lp = false := by cases t <;> rfl
theorem csz_rp (t : Tn) : CV.size t.rp = 1 := by cases t <;> rfl
theorem cag_rp (t : Tn) : CV.isAgg t.rp = false := by cases t <;> rfl
theorem csz_api (t : Tn) : CV.size t.api = 68 := by simp [Tn.api, csz_pV]
theorem cag_api (t : Tn) : CV.isAgg t.api = true := rfl
theorem len_dI (l : List UInt8) : (dI l).length = l.length := by simp [dI]

section
variable (t : Tn)
theorem g_k : getC t.cv [0, 0] = some (.sl 1 (bytesAV t.key)) := by rw [t.cv_eq]; simp [Tn.api]
theorem o_k : offC t.cv [0, 0] = some 0 := by rw [t.cv_eq]; simp [Tn.api]
theorem g_v : getC t.cv [0, 1] = some (pV t.val) := by rw [t.cv_eq]; simp [Tn.api]
theorem o_v : offC t.cv [0, 1] = some 1 := by rw [t.cv_eq]; simp [Tn.api]
theorem g_h : getC t.cv [0, 2] = some (.int .i64 (t.ht : Int)) := by rw [t.cv_eq]; simp [Tn.api]
theorem o_h : offC t.cv [0, 2] = some 2 := by rw [t.cv_eq]; simp [Tn.api, csz_pV]
theorem g_s : getC t.cv [0, 3] = some (.int .u64 (t.sz : Int)) := by rw [t.cv_eq]; simp [Tn.api]
theorem o_s : offC t.cv [0, 3] = some 3 := by rw [t.cv_eq]; simp [Tn.api, csz_pV]
theorem g_a : getC t.cv [0] = some t.api := by rw [t.cv_eq]; simp
theorem o_a : offC t.cv [0] = some 0 := by rw [t.cv_eq]; simp
theorem g_x : getC t.cv [1] = some (.arr 32 .u8 (dI t.hash)) := by rw [t.cv_eq]; simp
theorem o_x : offC t.cv [1] = some 68 := by rw [t.cv_eq]; simp [csz_api]
theorem g_l : getC t.cv [2] = some t.lp := by rw [t.cv_eq]; simp
theorem o_l : offC t.cv [2] = some 100 := by rw [t.cv_eq]; simp [csz_api]
theorem g_r : getC t.cv [3] = some t.rp := by rw [t.cv_eq]; simp
theorem o_r : offC t.cv [3] = some 101 := by rw [t.cv_eq]; simp [csz_api, csz_lp]
end
attribute [simp] csz_pV cag_pV csz_lp cag_lp csz_rp cag_rp csz_api cag_api g_k o_k g_v o_v g_h o_h g_s o_s g_a o_a g_x o_x g_l o_l g_r o_r

/-! ### bytes -/
theorem eqg38 {b : Bool} : (cfg b).P.eqGuardType (cfg b).P.depth 38 = false := by kernel_rfl
theorem aeq38 {b : Bool} {x y : AV} : aeq (cfg b).P 12 38 x y = slEq x y := aeq_sl (e := 5) (by kernel_rfl)
theorem be38 {b lit : Bool} {x y : AV} {H : Heap} (h : isIS x y = false) : mBin (cfg b) 38 lit .eql x y H = eqH H false (slEq x y) := by rw [mBin_eqg eqg38 h, aeq38]

end Go.Fm


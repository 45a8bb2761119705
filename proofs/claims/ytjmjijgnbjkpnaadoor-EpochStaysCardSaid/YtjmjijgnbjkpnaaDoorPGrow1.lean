/-
  A part of the proof: PGrow1.
-/
import Derived.Test.YtjmjijgnbjkpnaaDoorPTree7
import Derived.Test.YtjmjijgnbjkpnaaDoorDRef05
import Derived.Test.YtjmjijgnbjkpnaaDoorDLaw14
set_option linter.all false
set_option autoImplicit true
/-
  The laws' calls, and pairs: Act.Key, PutPair, CutPair.
-/
set_option maxRecDepth 100000
set_option linter.unusedVariables false
set_option linter.unusedSimpArgs false
namespace Go.Fm
open Go Go.Proofs

theorem elemsOf_pV (H : Heap) (v : Option (List UInt8)) : elemsOf H 1 (.c (pV v)) = some (bytesAV (pB v)) := by cases v <;> simp [pV, pB, bytesAV]
attribute [simp] elemsOf_pV

theorem reachV_undef {d : Nat} {H : Heap} : reachV (d + 2) H AV.undef = [] := (rfl)
attribute [simp] reachV_undef
/-- A law's call. -/
structure ActL where
  kind : UInt8
  k : UInt8
  raw : Option (List UInt8)
  val : Option (List UInt8)
  deriving Inhabited
def ActL.cv (a : ActL) : CV := .agg [.int .u8 (a.kind.toNat : Int), .int .u8 (a.k.toNat : Int), pV a.raw, pV a.val]
def ActL.key (a : ActL) : List UInt8 := if 0 < (pB a.raw).length then pB a.raw else [107, byteOf (97 + (a.k.toNat : Int).tmod 26), byteOf (97 + IntKind.u8.wrap ((a.k.toNat : Int).tdiv 26))]
theorem ActL.key_ne (a : ActL) : a.key ≠ [] := by
  unfold ActL.key
  split
  · rename_i h; intro h2; rw [h2] at h; simp at h
  · simp
theorem iAdd_byte (x y : Int) : iAdd .u8 x y = ((byteOf (x + y)).toNat : Int) := by rw [← wrap_byte]; rfl
theorem pV_pB {v : Option (List UInt8)} (h : 0 < (pB v).length) : pV v = .sl 1 (bytesAV (pB v)) := by cases v <;> simp_all [pV, pB]
theorem key_fn (b : Bool) (a : ActL) : fnX (cfg b) An 35 [.c a.cv] [] = some (.c (.sl 1 (bytesAV a.key)), []) := by
  rw [fnX_eq, p35_eq]
  by_cases h : 0 < (pB a.raw).length
  · have e : a.key = pB a.raw := by simp [ActL.key, h]
    have e2 := pV_pB h
    rw [e, ← e2]
    simp [p35, ActL.cv, h]
  · have e : a.key = [107, byteOf (97 + (a.k.toNat : Int).tmod 26), byteOf (97 + IntKind.u8.wrap ((a.k.toNat : Int).tdiv 26))] := by simp only [ActL.key]; rw [if_neg h]
    rw [e]
    have e3 : bytesAV [107, byteOf (97 + (a.k.toNat : Int).tmod 26), byteOf (97 + IntKind.u8.wrap ((a.k.toNat : Int).tdiv 26))] = [.int .u8 107, .int .u8 ((byteOf (97 + (a.k.toNat : Int).tmod 26)).toNat : Int), .int .u8 ((byteOf (97 + IntKind.u8.wrap ((a.k.toNat : Int).tdiv 26))).toNat : Int)] := rfl
    rw [e3]
    simp [p35, ActL.cv, h, iAdd_byte]
theorem key_call (b : Bool) (a : ActL) (H : Heap) : callX (cfg b) An 35 [.c a.cv] H = some (.c (.sl 1 (bytesAV a.key)), H) := callX_pure (key_fn b a) rfl rfl (prim_none (by decide)) H

/-- Of a row of bytes the first ones. -/
def upto (n : Nat) (v : Option (List UInt8)) : Option (List UInt8) := v.map (List.take n)
theorem pB_upto (n : Nat) (v : Option (List UInt8)) : pB (upto n v) = (pB v).take n := by cases v <;> simp [upto, pB]
theorem upto_min (n : Nat) (v : Option (List UInt8)) : upto (min n (pB v).length) v = upto n v := by
  cases v with
  | none => rfl
  | some bs => simp only [upto, pB, Option.map_some]; rw [← List.take_eq_take_min]
theorem slice_pV (m : Nat) (v : Option (List UInt8)) (h : m ≤ (pB v).length) (H : Heap) : mSliceSl 1 (.c (pV v)) none (some (.c (.int .i64 (m : Int)))) H = some (.c (pV (upto m v)), H) := by
  cases v with
  | none =>
    simp only [pB, List.length_nil, Nat.le_zero_eq] at h
    subst h
    simp [upto, pV, mSliceSl_nil, natOf_s, natOf_none]
  | some bs =>
    simp only [pB] at h
    simp only [pV, upto, Option.map_some]
    rw [mSliceSl_sl]
    have : (bytesAV bs).take m = bytesAV (bs.take m) := by simp [bytesAV, List.map_take]
    simp [natOf_s, natOf_none, cutE_s, cutE2_s, h, this]
theorem slice_upto (n : Nat) (v : Option (List UInt8)) (H : Heap) : mSliceSl 1 (.c (pV v)) none (some (.c (.int .i64 ((min n (pB v).length : Nat) : Int)))) H = some (.c (pV (upto n v)), H) := by
  rw [slice_pV _ v (by omega), upto_min]
theorem minZ (n l : Nat) : (if n < l then (n : Int) else (l : Int)) = ((min n l : Nat) : Int) := by
  split <;> congr 1 <;> omega

/-! ### Pairs -/
abbrev Pr := List UInt8 × Option (List UInt8)
def prC (p : Pr) : CV := pairC p.1 p.2
def pairsC : List Pr → CV
  | [] => .nilsl
  | l => .sl 2 (l.map prC)
theorem pairsC_ne {l : List Pr} (h : l ≠ []) : pairsC l = .sl 2 (l.map prC) := by cases l <;> simp_all [pairsC]
theorem csz_pairsC (l : List Pr) : CV.size (pairsC l) = 1 := by cases l <;> rfl
theorem cag_pairsC (l : List Pr) : CV.isAgg (pairsC l) = false := by cases l <;> rfl
theorem lenOf_pairsC (l : List Pr) (H : Heap) : lenOf H (.c (pairsC l)) = some l.length := by cases l <;> simp [pairsC]
theorem elemsOf_pairsC (l : List Pr) (H : Heap) : elemsOf H 2 (.c (pairsC l)) = some (l.map prC) := by cases l <;> simp [pairsC]
theorem mIdxS_pairsC (l : List Pr) (i : Nat) (h : i < l.length) (H : Heap) : mIdxS 2 (.c (pairsC l)) (.c (.int .i64 (i : Int))) H = some (.c (.ptr (prC (l.getD i default)) [] 0), H) := by
  have hne : l ≠ [] := by intro h2; rw [h2] at h; simp at h
  rw [pairsC_ne hne, mIdxS_s]
  rw [if_pos ⟨⟨by omega, by simp; omega⟩, rfl⟩]
  rw [Int.toNat_natCast, nthC_map default h]
attribute [simp] csz_pairsC cag_pairsC lenOf_pairsC elemsOf_pairsC
section
variable (p : Pr)
theorem gp_k : getC (prC p) [0] = some (.sl 1 (bytesAV p.1)) := by simp [prC, pairC]
theorem op_k : offC (prC p) [0] = some 0 := by simp [prC, pairC]
theorem gp_v : getC (prC p) [1] = some (pV p.2) := by simp [prC, pairC]
theorem op_v : offC (prC p) [1] = some 1 := by simp [prC, pairC]
theorem csz_prC : CV.size (prC p) = 2 := by simp [prC, pairC]
theorem cag_prC : CV.isAgg (prC p) = true := rfl
end
attribute [simp] gp_k op_k gp_v op_v csz_prC cag_prC

/-- An accumulator: nil, or a row of one's own. -/
def acA {α : Type} : List α → AV
  | [] => .c .nilsl
  | _ => .os 0
def acH {α : Type} (t : TypeId) (sz : Nat) (f : α → CV) : List α → Heap
  | [] => []
  | l => [.row t sz (l.map f)]

def putP (k : List UInt8) (v : Option (List UInt8)) : List Pr → List Pr
  | [] => [(k, v)]
  | p :: r => if Op.bytesLess p.1 k = true then p :: putP k v r else if p.1 = k then (k, v) :: r else (k, v) :: p :: r
def cutP (k : List UInt8) (l : List Pr) : List Pr := l.filter fun p => p.1 != k
end Go.Fm


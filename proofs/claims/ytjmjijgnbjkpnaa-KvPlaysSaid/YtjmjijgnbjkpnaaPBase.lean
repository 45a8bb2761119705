/-
  A part of the proof: PBase.
-/
import Derived.Test.YtjmjijgnbjkpnaaFm46
import Derived.Test.YtjmjijgnbjkpnaaDAnn
import Derived.Test.YtjmjijgnbjkpnaaDKv
import Derived.Test.YtjmjijgnbjkpnaaDRef
set_option linter.all false
set_option autoImplicit true
/-
  Words that know of no program, out of the texts of the other seat.
-/
set_option autoImplicit false
set_option maxRecDepth 100000
set_option linter.unusedVariables false
set_option linter.unusedSimpArgs false
namespace Go.Fm
open Go Go.Proofs
theorem prim_none {b : Bool} {f : FuncId} (h : primSet f = false) : (cfg b).prim f = none := by
  simp only [primSet, Bool.or_eq_false_iff, beq_eq_false_iff_ne, ne_eq] at h
  simp [cfg, h]
theorem i64_small {z : Int} (h0 : 0 ≤ z) (h1 : z < 4611686018427387904) : IntKind.i64.wrap z = z := by
  unfold IntKind.wrap
  simp only [IntKind.bits, IntKind.signed]
  have : z % 2 ^ 64 = z := by omega
  simp [this]
  omega
theorem loopX_gc {k : Nat} {step : List AV → Heap → Option (LStep × Heap)} {s s1 : List AV} {H H1 : Heap} (h : gcL k s H = some (s1, H1)) (h1 : gcL k s1 H1 = some (s1, H1)) :
    loopX k step s H = loopX k step s1 H1 := by
  rw [loopX_eq, loopX_eq (s := s1), h, h1]
def pV : Option (List UInt8) → CV
  | none => .nilsl
  | some bs => .sl 1 (bytesAV bs)
def pB : Option (List UInt8) → List UInt8
  | none => []
  | some bs => bs
theorem big_max {n : Nat} (h : n ≤ 140737488355328) : n ≤ maxLen := by unfold maxLen; omega
def byteOf (z : Int) : UInt8 := UInt8.ofNat ((IntKind.u8.wrap z).toNat)
theorem wrap_byte (z : Int) : IntKind.u8.wrap z = ((byteOf z).toNat : Int) := by
  unfold byteOf IntKind.wrap
  simp [IntKind.bits, IntKind.signed]
  omega
def dI (bs : List UInt8) : List Int := bs.map fun x => (x.toNat : Int)
theorem csz_pV (v : Option (List UInt8)) : CV.size (pV v) = 1 := by cases v <;> rfl
theorem cag_pV (v : Option (List UInt8)) : CV.isAgg (pV v) = false := by cases v <;> rfl
theorem len_dI (l : List UInt8) : (dI l).length = l.length := by simp [dI]
theorem prim101e {b : Bool} : (cfg b).prim 45 = some compareP := rfl
theorem handCs_cs (b keep : Bool) (H : Heap) (vs : List AV) (h : vs.all AV.isC = true) : handCs (cfg b) keep H vs = some (vs, H) := handCs_c _ _ _ h
def cmpZ (x y : List UInt8) : Int := if Op.bytesLess x y then -1 else if x == y then 0 else 1
theorem compare_call (b : Bool) (x y : List UInt8) (H : Heap) : callX (cfg b) An 45 [.c (.sl 1 (bytesAV x)), .c (.sl 1 (bytesAV y))] H = some (.c (.int .i64 (cmpZ x y)), H) := by
  rw [callX_prim prim101e, handCs_cs _ _ _ _ rfl]
  simp only [compareP, bE, elemsOf, if_true, bytesC_av]
  rfl
theorem bytesLess_irr : ∀ (x : List UInt8), Op.bytesLess x x = false
  | [] => rfl
  | a :: x => by simp [Op.bytesLess, bytesLess_irr x]
theorem u64_small {z : Int} (h0 : 0 ≤ z) (h1 : z < 18446744073709551616) : IntKind.u64.wrap z = z := by
  unfold IntKind.wrap
  simp only [IntKind.bits, IntKind.signed]
  simp
  omega
theorem lenOf_pV (H : Heap) (v : Option (List UInt8)) : lenOf H (.c (pV v)) = some (pB v).length := by cases v <;> simp [pV, pB]
attribute [simp] lenOf_pV
theorem BA_toList (bs : List UInt8) : (⟨bs.toArray⟩ : ByteArray).toList = bs := by
  rw [ByteArray.toList_eq] 
theorem idx_add (i : Nat) (h : i < 4000000000000000000) : iAdd .i64 (i : Int) 1 = (i : Int) + 1 := by
  unfold iAdd
  rw [i64_small (by omega) (by omega)]
def pairC (k : List UInt8) (v : Option (List UInt8)) : CV := .agg [.sl 1 (bytesAV k), pV v]
theorem drawC_ns (H : Heap) (v : AV) (X : Heap) (h1 : v.all (fun i => decide (H.length ≤ i)) = true) (h2 : (X.all fun b => b.all fun i => decide (H.length ≤ i)) = true) :
    drawC H (some (v, deadL H ++ X)) = some ((v, (false, [], H.length, H.length + X.length)), H ++ X) := by
  have h : (deadL H ++ X).drop H.length = X := by rw [← deadL_len H, List.drop_left]
  simp only [drawC, h, List.length_append, deadL_len]
  simp [h1, h2]
attribute [simp] drawC_ns
theorem bl_ne {x y : List UInt8} (h : Op.bytesLess x y = true) : x ≠ y := fun e => by subst e; rw [bytesLess_irr] at h; cases h
attribute [simp] cag_pV csz_pV drawC_ns lenOf_pV
end Go.Fm

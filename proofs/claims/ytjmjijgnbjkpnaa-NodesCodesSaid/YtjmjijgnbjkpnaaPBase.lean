/-
  A part of the proof: PBase.
-/
import Derived.Test.YtjmjijgnbjkpnaaFm46
import Derived.Test.YtjmjijgnbjkpnaaDAnn
set_option linter.all false
set_option autoImplicit true
/-
  Words that know of no program, out of the texts of the other seat.
-/
set_option autoImplicit false
set_option maxRecDepth 100000
set_option linter.unusedVariables false
set_option linter.unusedSimpArgs false
namespace Go.Fm
open Go Go.Proofs
theorem i64_small {z : Int} (h0 : 0 ≤ z) (h1 : z < 4611686018427387904) : IntKind.i64.wrap z = z := by
  unfold IntKind.wrap
  simp only [IntKind.bits, IntKind.signed]
  have : z % 2 ^ 64 = z := by omega
  simp [this]
  omega
theorem loopX_gc {k : Nat} {step : List AV → Heap → Option (LStep × Heap)} {s s1 : List AV} {H H1 : Heap} (h : gcL k s H = some (s1, H1)) (h1 : gcL k s1 H1 = some (s1, H1)) :
    loopX k step s H = loopX k step s1 H1 := by
  rw [loopX_eq, loopX_eq (s := s1), h, h1]
def pV : Option (List UInt8) → CV
  | none => .nilsl
  | some bs => .sl 1 (bytesAV bs)
def pB : Option (List UInt8) → List UInt8
  | none => []
  | some bs => bs
theorem big_max {n : Nat} (h : n ≤ 140737488355328) : n ≤ maxLen := by unfold maxLen; omega
def byteOf (z : Int) : UInt8 := UInt8.ofNat ((IntKind.u8.wrap z).toNat)
theorem wrap_byte (z : Int) : IntKind.u8.wrap z = ((byteOf z).toNat : Int) := by
  unfold byteOf IntKind.wrap
  simp [IntKind.bits, IntKind.signed]
  omega
def lenBytes (z : Int) : List UInt8 := [byteOf (iShr .u64 z 56), byteOf (iShr .u64 z 48), byteOf (iShr .u64 z 40), byteOf (iShr .u64 z 32), byteOf (iShr .u64 z 24), byteOf (iShr .u64 z 16), byteOf (iShr .u64 z 8), byteOf (iShr .u64 z 0)]
def dI (bs : List UInt8) : List Int := bs.map fun x => (x.toNat : Int)
theorem csz_pV (v : Option (List UInt8)) : CV.size (pV v) = 1 := by cases v <;> rfl
theorem cag_pV (v : Option (List UInt8)) : CV.isAgg (pV v) = false := by cases v <;> rfl
theorem len_dI (l : List UInt8) : (dI l).length = l.length := by simp [dI]
theorem handCs_cs (b keep : Bool) (H : Heap) (vs : List AV) (h : vs.all AV.isC = true) : handCs (cfg b) keep H vs = some (vs, H) := handCs_c _ _ _ h
theorem dI_map (l : List UInt8) : (dI l).map (CV.int .u8) = bytesAV l := by simp [dI, bytesAV]
theorem take_av (l : List UInt8) (n : Nat) (h : l.length = n) : (bytesAV l).take n = bytesAV l := List.take_of_length_le (by simp [h])
theorem u64_small {z : Int} (h0 : 0 ≤ z) (h1 : z < 18446744073709551616) : IntKind.u64.wrap z = z := by
  unfold IntKind.wrap
  simp only [IntKind.bits, IntKind.signed]
  simp
  omega
theorem lenOf_pV (H : Heap) (v : Option (List UInt8)) : lenOf H (.c (pV v)) = some (pB v).length := by cases v <;> simp [pV, pB]
attribute [simp] lenOf_pV
theorem BA_toList (bs : List UInt8) : (⟨bs.toArray⟩ : ByteArray).toList = bs := by
  rw [ByteArray.toList_eq] 
theorem elemsOf_pV (H : Heap) (v : Option (List UInt8)) : elemsOf H 1 (.c (pV v)) = some (bytesAV (pB v)) := by cases v <;> simp [pV, pB, bytesAV]
attribute [simp] elemsOf_pV
theorem drawC_ns (H : Heap) (v : AV) (X : Heap) (h1 : v.all (fun i => decide (H.length ≤ i)) = true) (h2 : (X.all fun b => b.all fun i => decide (H.length ≤ i)) = true) :
    drawC H (some (v, deadL H ++ X)) = some ((v, (false, [], H.length, H.length + X.length)), H ++ X) := by
  have h : (deadL H ++ X).drop H.length = X := by rw [← deadL_len H, List.drop_left]
  simp only [drawC, h, List.length_append, deadL_len]
  simp [h1, h2]
attribute [simp] drawC_ns
theorem nthC0 (a : CV) (l : List CV) : nthC (a :: l) 0 = a := rfl
theorem nthC1 (a c : CV) (l : List CV) : nthC (a :: c :: l) 1 = c := rfl
theorem intsC_map (k : IntKind) : ∀ ns : List Int, intsC k (ns.map (CV.int k)) = some ns
  | [] => rfl
  | n :: r => by simp [intsC, intsC_map k r]
end Go.Fm

/-
  A part of the proof: Glue4.
-/
import Derived.Test.YtjmjijgnbjkpnaaDoorGlue2
import Derived.Test.YtjmjijgnbjkpnaaDoorPSeal
set_option linter.all false
set_option autoImplicit true
/-
  Shapes of arguments: sums, headers.
-/
set_option maxRecDepth 100000
set_option linter.unusedVariables false
set_option linter.unusedSimpArgs false
namespace Go.Fm
open Go Go.Proofs
theorem dI_of : ∀ {ns : List Int}, (∀ x ∈ ns, (Lit.int .u8 x).wf = true) → ∃ l : List UInt8, ns = dI l
  | [], _ => ⟨[], rfl⟩
  | n :: ns, h => by
    obtain ⟨l, hl⟩ := dI_of (ns := ns) fun x hx => h x (by simp [hx])
    have hn := h n (by simp)
    simp [Lit.wf, IntKind.min, IntKind.max, IntKind.signed, IntKind.bits] at hn
    refine ⟨UInt8.ofNat n.toNat :: l, ?_⟩
    have : (UInt8.ofNat n.toNat).toNat = n.toNat := by simp; omega
    have e : n = ((UInt8.ofNat n.toNat).toNat : Int) := by rw [this]; omega
    rw [hl]
    show n :: dI l = ((UInt8.ofNat n.toNat).toNat : Int) :: dI l
    rw [← e]
theorem is_hash {n : Nat} {v : CV} (h : Is (.arr n .u8) v) : ∃ l : List UInt8, v = .arr n .u8 (dI l) ∧ l.length = n := by
  cases h with
  | arr _ _ ns hl h =>
    obtain ⟨l, rfl⟩ := dI_of h
    exact ⟨l, rfl, by simpa [dI] using hl⟩
def shHdr : Sh := .st [.int .u64, .int .u64, .arr 32 .u8, .arr 32 .u8, .arr 32 .u8, .arr 32 .u8]
theorem is_hdr {v : CV} (h : Is shHdr v) : ∃ x : HdrL, v = x.cv ∧ x.Ok := by
  unfold shHdr at h
  cases h with
  | st _ vs hl h =>
    match vs, hl with
    | [v0, v1, v2, v3, v4, v5], _ =>
      obtain ⟨n, rfl, _⟩ := is_int (h 0 _ _ rfl rfl)
      obtain ⟨m, rfl, _⟩ := is_int (h 1 _ _ rfl rfl)
      obtain ⟨a, rfl, ha⟩ := is_hash (h 2 _ _ rfl rfl)
      obtain ⟨b, rfl, hb⟩ := is_hash (h 3 _ _ rfl rfl)
      obtain ⟨c, rfl, hc⟩ := is_hash (h 4 _ _ rfl rfl)
      obtain ⟨d, rfl, hd⟩ := is_hash (h 5 _ _ rfl rfl)
      exact ⟨⟨n, m, a, b, c, d⟩, rfl, ⟨ha, hb, hc, hd⟩⟩
end Go.Fm

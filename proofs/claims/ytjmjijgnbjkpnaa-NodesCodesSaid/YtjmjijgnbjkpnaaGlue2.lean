/-
  A part of the proof: Glue2.
-/
import Derived.Test.YtjmjijgnbjkpnaaGlue1
import Derived.Test.YtjmjijgnbjkpnaaPTurn
set_option linter.all false
set_option autoImplicit true
/-
  Shapes of arguments as the laws' contents (the plain seat).
-/
set_option maxRecDepth 100000
set_option linter.unusedVariables false
set_option linter.unusedSimpArgs false
namespace Go.Fm
open Go Go.Proofs
theorem is_u8 {v : CV} (h : Is (.int .u8) v) : ∃ x : UInt8, v = .int .u8 (x.toNat : Int) := by
  cases h with
  | int _ n hw =>
    simp [Lit.wf, IntKind.min, IntKind.max, IntKind.signed, IntKind.bits] at hw
    refine ⟨UInt8.ofNat n.toNat, ?_⟩
    have : (UInt8.ofNat n.toNat).toNat = n.toNat := by simp; omega
    rw [this]
    congr 1
    omega
theorem is_u8s : ∀ {es : List CV}, (∀ x ∈ es, Is (.int .u8) x) → ∃ bs : List UInt8, es = bytesAV bs
  | [], _ => ⟨[], rfl⟩
  | e :: es, h => by
    obtain ⟨x, rfl⟩ := is_u8 (h e (by simp))
    obtain ⟨bs, rfl⟩ := is_u8s (es := es) fun x hx => h x (by simp [hx])
    exact ⟨x :: bs, rfl⟩
theorem is_bytes {v : CV} (h : Is (.sl 1 (.int .u8)) v) : ∃ o : Option (List UInt8), v = pV o ∧ (pB o).length ≤ maxLen := by
  cases h with
  | nilsl => exact ⟨none, rfl, by simp [pB_n]⟩
  | sl _ _ es hl h =>
    obtain ⟨bs, rfl⟩ := is_u8s h
    exact ⟨some bs, rfl, by simpa [pB_s, bytesAV] using hl⟩
theorem is_int {k : IntKind} {v : CV} (h : Is (.int k) v) : ∃ n : Int, v = .int k n ∧ k.min ≤ n ∧ n ≤ k.max := by
  cases h with
  | int _ n hw => simp [Lit.wf] at hw; exact ⟨n, rfl, hw.1, hw.2⟩
theorem is_ints : ∀ {es : List CV}, (∀ x ∈ es, Is (.int .i64) x) → ∃ ns : List Int, intsC .i64 es = some ns
  | [], _ => ⟨[], rfl⟩
  | e :: es, h => by
    obtain ⟨x, rfl, _⟩ := is_int (h e (by simp))
    obtain ⟨ns, hn⟩ := is_ints (es := es) fun x hx => h x (by simp [hx])
    exact ⟨x :: ns, by simp [intsC, hn]⟩
theorem is_its {v : CV} (h : Is (.sl 1 (.int .i64)) v) : ∃ a, its64 v = some a := by
  cases h with
  | nilsl => exact ⟨[], rfl⟩
  | sl _ _ es hl h => exact is_ints h
theorem dI_of : ∀ {ns : List Int}, (∀ x ∈ ns, (Lit.int .u8 x).wf = true) → ∃ l : List UInt8, ns = dI l
  | [], _ => ⟨[], rfl⟩
  | n :: ns, h => by
    obtain ⟨l, hl⟩ := dI_of (ns := ns) fun x hx => h x (by simp [hx])
    have hn := h n (by simp)
    simp [Lit.wf, IntKind.min, IntKind.max, IntKind.signed, IntKind.bits] at hn
    refine ⟨UInt8.ofNat n.toNat :: l, ?_⟩
    have : (UInt8.ofNat n.toNat).toNat = n.toNat := by simp; omega
    have e : n = ((UInt8.ofNat n.toNat).toNat : Int) := by rw [this]; omega
    rw [hl]
    show n :: dI l = ((UInt8.ofNat n.toNat).toNat : Int) :: dI l
    rw [← e]
theorem is_hash {n : Nat} {v : CV} (h : Is (.arr n .u8) v) : ∃ l : List UInt8, v = .arr n .u8 (dI l) ∧ l.length = n := by
  cases h with
  | arr _ _ ns hl h =>
    obtain ⟨l, rfl⟩ := dI_of h
    exact ⟨l, rfl, by simpa [dI] using hl⟩
def shNd : Sh := .st [.sl 1 (.int .u8), .sl 1 (.int .u8), .int .i64, .int .u64, .arr 32 .u8, .arr 32 .u8]
theorem is_nd {v : CV} (h : Is shNd v) : ∃ n : Nd, v = n.cv ∧ n.l.length = 32 ∧ n.r.length = 32 ∧ (IntKind.i64.min ≤ n.h ∧ n.h ≤ IntKind.i64.max) ∧ (IntKind.u64.min ≤ n.z ∧ n.z ≤ IntKind.u64.max) := by
  unfold shNd at h
  cases h with
  | st _ vs hl h =>
    match vs, hl with
    | [v0, v1, v2, v3, v4, v5], _ =>
      obtain ⟨k, rfl, _⟩ := is_bytes (h 0 _ _ rfl rfl)
      obtain ⟨w, rfl, _⟩ := is_bytes (h 1 _ _ rfl rfl)
      obtain ⟨m, rfl, m1, m2⟩ := is_int (h 2 _ _ rfl rfl)
      obtain ⟨z, rfl, z1, z2⟩ := is_int (h 3 _ _ rfl rfl)
      obtain ⟨c, rfl, hc⟩ := is_hash (h 4 _ _ rfl rfl)
      obtain ⟨d, rfl, hd⟩ := is_hash (h 5 _ _ rfl rfl)
      exact ⟨⟨k, w, m, z, c, d⟩, rfl, hc, hd, ⟨m1, m2⟩, ⟨z1, z2⟩⟩
end Go.Fm

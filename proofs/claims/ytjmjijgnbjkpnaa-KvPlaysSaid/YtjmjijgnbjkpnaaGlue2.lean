/-
  A part of the proof: Glue2.
-/
import Derived.Test.YtjmjijgnbjkpnaaGlue1
import Derived.Test.YtjmjijgnbjkpnaaPLawA
set_option linter.all false
set_option autoImplicit true
/-
  Shapes of arguments as the laws' contents.
-/
set_option maxRecDepth 100000
set_option linter.unusedVariables false
set_option linter.unusedSimpArgs false
namespace Go.Fm
open Go Go.Proofs
theorem is_u8 {v : CV} (h : Is (.int .u8) v) : ∃ x : UInt8, v = .int .u8 (x.toNat : Int) := by
  cases h with
  | int _ n hw =>
    simp [Lit.wf, IntKind.min, IntKind.max, IntKind.signed, IntKind.bits] at hw
    refine ⟨UInt8.ofNat n.toNat, ?_⟩
    have : (UInt8.ofNat n.toNat).toNat = n.toNat := by simp; omega
    rw [this]
    congr 1
    omega
theorem is_u8s : ∀ {es : List CV}, (∀ x ∈ es, Is (.int .u8) x) → ∃ bs : List UInt8, es = bytesAV bs
  | [], _ => ⟨[], rfl⟩
  | e :: es, h => by
    obtain ⟨x, rfl⟩ := is_u8 (h e (by simp))
    obtain ⟨bs, rfl⟩ := is_u8s (es := es) fun x hx => h x (by simp [hx])
    exact ⟨x :: bs, rfl⟩
theorem is_bytes {v : CV} (h : Is (.sl 1 (.int .u8)) v) : ∃ o : Option (List UInt8), v = pV o ∧ (pB o).length ≤ reachBytes := by
  cases h with
  | nilsl => exact ⟨none, rfl, by simp [pB]⟩
  | sl _ _ es hl h =>
    obtain ⟨bs, rfl⟩ := is_u8s h
    exact ⟨some bs, rfl, by simpa [pB] using hl⟩
def shAct : Sh := .st [.int .u8, .int .u8, .sl 1 (.int .u8), .sl 1 (.int .u8)]
theorem is_act {v : CV} (h : Is shAct v) : ∃ a : ActL, v = a.cv ∧ (pB a.raw).length ≤ reachBytes ∧ (pB a.val).length ≤ reachBytes := by
  unfold shAct at h
  cases h with
  | st _ vs hl h =>
    match vs, hl with
    | [v0, v1, v2, v3], _ =>
      obtain ⟨x, rfl⟩ := is_u8 (h 0 _ _ rfl rfl)
      obtain ⟨y, rfl⟩ := is_u8 (h 1 _ _ rfl rfl)
      obtain ⟨r, rfl, hr⟩ := is_bytes (h 2 _ _ rfl rfl)
      obtain ⟨w, rfl, hw⟩ := is_bytes (h 3 _ _ rfl rfl)
      exact ⟨⟨x, y, r, w⟩, rfl, hr, hw⟩
theorem is_acts {v : CV} (h : Is (.sl 4 shAct) v) : ∃ o : Option (List ActL), v = actsC o ∧ ∀ a ∈ actsL o, (pB a.raw).length ≤ reachBytes ∧ (pB a.val).length ≤ reachBytes := by
  cases h with
  | nilsl => exact ⟨none, rfl, by simp [actsL]⟩
  | sl _ _ es hl h =>
    have : ∃ l : List ActL, es = l.map ActL.cv ∧ ∀ a ∈ l, (pB a.raw).length ≤ reachBytes ∧ (pB a.val).length ≤ reachBytes := by
      clear hl
      induction es with
      | nil => exact ⟨[], rfl, by simp⟩
      | cons e es ih =>
        obtain ⟨a, rfl, ha⟩ := is_act (h e (by simp))
        obtain ⟨l, rfl, hl⟩ := ih fun x hx => h x (by simp [hx])
        refine ⟨a :: l, rfl, fun c hc => ?_⟩
        rcases List.mem_cons.1 hc with rfl | hc
        · exact ha
        · exact hl c hc
    obtain ⟨l, rfl, hs⟩ := this
    exact ⟨some l, rfl, hs⟩
end Go.Fm

/-
  sha.Sum answers with a digest of the parts joined, part 8.
-/
import Derived.Test.YtjmjijgnbjkpnaaDoorPSha7
set_option linter.all false
set_option autoImplicit true
/-
  sha: Sum as a whole.
-/
set_option maxRecDepth 100000
set_option linter.unusedVariables false
set_option linter.unusedSimpArgs false
namespace Go.Fm
open Go Go.Proofs

def ivW : St := ⟨1779033703, 3144134277, 1013904242, 2773480762, 1359893119, 2600822924, 528734635, 1541459225⟩
theorem ivW_v : ivW.v = .arr 8 .u32 [1779033703, 3144134277, 1013904242, 2773480762, 1359893119, 2600822924, 528734635, 1541459225] := rfl
def padN (l : Nat) : Nat := (119 - l % 64) % 64
def bitsZ (l : Nat) : Int := iMul .u64 (IntKind.u64.wrap (l : Int)) 8
def padded (m : List UInt8) : List UInt8 := m ++ [128] ++ List.replicate (padN m.length) 0 ++ lenBytes (bitsZ m.length)
theorem padded_len (m : List UInt8) : (padded m).length = m.length + 9 + padN m.length := by simp [padded, lenBytes]; omega
theorem padded_64 (m : List UInt8) : ∃ n, (padded m).length = 64 * (n + 1) := by
  rw [padded_len]; unfold padN
  refine ⟨(m.length + 9 + (119 - m.length % 64) % 64) / 64 - 1, ?_⟩
  omega
def zero32 : List UInt8 := List.replicate 32 0
def shaW (m : List UInt8) : List UInt8 := l8W (blocksW ((padded m).length / 64) (padded m) ivW) 32 0 zero32
theorem shaW_len (m : List UInt8) : (shaW m).length = 32 := by rw [shaW, l8W_len]; rfl
theorem joinO_some : ∀ (ps : List (Option (List UInt8))) (m : List UInt8), joinO ps (some m) = some (m ++ catP ps)
  | [], m => by simp [joinO, catP]
  | p :: ps, m => by rw [joinO, joinO_some]; simp [catP, pB]
theorem joinO_ne {ps : List (Option (List UInt8))} (h : ps ≠ []) : joinO ps none = some (catP ps) := by
  cases ps with
  | nil => exact absurd rfl h
  | cons p ps => rw [joinO, joinO_some]; simp [catP, pB]

set_option maxHeartbeats 4000000 in
theorem sum_fn (b : Bool) (ps : List (Option (List UInt8))) (hne : ps ≠ []) (hs : ps.length ≤ 1000000000) (hm : (catP ps).length ≤ 100000000000000) :
    fnX (cfg b) An 88 [.c (.sl 1 (ps.map pV))] [] = some (.c (.arr 32 .u8 (dI (shaW (catP ps)))), []) := by
  rw [fnX_eq, p88_eq]
  obtain ⟨A, hA⟩ : ∃ A, A = CV.arr 32 .u8 (List.replicate 32 0) := ⟨_, rfl⟩
  have e0 := s0_run b (callX (cfg b) An) A ps hs ps 0 none rfl (by simp [pB]; omega)
  rw [joinO_ne hne] at e0
  generalize catP ps = m at e0 hm ⊢
  obtain ⟨n, hn⟩ := padded_64 m
  have hpl := padded_len m
  have hp64 : padN m.length < 64 := by unfold padN; omega
  have hp56 : (m.length + 1 + padN m.length) % 64 = 56 := by unfold padN; omega
  have e2 := s2_run b (callX (cfg b) An) A (bitsZ m.length) (padN m.length) (m ++ [128]) hp64 (by simpa using hp56) (by simp; omega)
  have e4 := s4_run b (callX (cfg b) An) A (bitsZ m.length) (m ++ [128] ++ List.replicate (padN m.length) 0) (by simp; omega)
  rw [← padded] at e4
  have e6 := s6_all b A n (padded m) ivW hn (by omega)
  have hq : (padded m).length / 64 = n + 1 := by omega
  rw [← hq] at e6
  have e8 := s8_run b (callX (cfg b) An) A (blocksW ((padded m).length / 64) (padded m) ivW) 32 0 zero32 rfl rfl
  rw [← shaW] at e8
  have n0 : ((0 : Nat) : Int) = 0 := rfl
  have hz : dI zero32 = List.replicate 32 0 := by decide
  rw [n0] at e0 e8
  rw [hz] at e8
  have hb : IntKind.u64.wrap (m.length : Int) = (m.length : Int) := by
    unfold IntKind.wrap; simp [IntKind.bits, IntKind.signed]; omega
  have hb2 : iMul .u64 (m.length : Int) 8 = bitsZ m.length := by unfold bitsZ; rw [hb]
  have hx := big_max (n := m.length + 1) (by omega)
  have hx1 : m.length + 1 ≤ 140737488355328 := by omega
  have h128 : bytesAV m ++ [.int .u8 128] = bytesAV (m ++ [128]) := by simp [bytesAV]
  have hl : (dI (shaW m)).length = 32 := by simp [dI, shaW_len]
  generalize blocksW ((padded m).length / 64) (padded m) ivW = S at e6 e8
  generalize shaW m = out at e8 hl ⊢
  rw [← loopX_gc (s := [.ov 0 [] 0, .os 3, .c (.int .u64 (bitsZ m.length))]) (H := [.var 41 (.c A), .dead, .row 5 1 [.int .u8 128], .row 5 1 (bytesAV (m ++ [128]))]) (by simp [mH]) (by simp [mH])] at e2
  generalize m ++ [128] ++ List.replicate (padN m.length) 0 = m2 at e2 e4
  simp only [mA, mH, ivW_v] at e0 e2 e4 e6
  have hiv : ([1779033703, 3144134277, 1013904242, 2773480762, 1359893119, 2600822924, 528734635, 1541459225] : List Int) = ((((((((List.replicate 8 (0 : Int)).set 0 1779033703).set 1 3144134277).set 2 1013904242).set 3 2773480762).set 4 1359893119).set 5 2600822924).set 6 528734635).set 7 1541459225 := by decide
  rw [hiv] at e6
  subst hA
  simp [-List.reduceReplicate, p88, e0, e2, e4, e6, e8, hb, hb2, hx, hx1, h128, hl]
end Go.Fm


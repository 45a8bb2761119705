/-
  sha.Sum answers with a digest of the parts joined, part 5.
-/
import Derived.Test.YtjmjijgnbjkpnaaDoorPSha4
set_option linter.all false
set_option autoImplicit true
/-
  sha: Sum.
-/
set_option maxRecDepth 100000
set_option linter.unusedVariables false
set_option linter.unusedSimpArgs false
namespace Go.Fm
open Go Go.Proofs

def pV : Option (List UInt8) → CV
  | none => .nilsl
  | some bs => .sl 1 (bytesAV bs)
def pB : Option (List UInt8) → List UInt8
  | none => []
  | some bs => bs
def mA : Option (List UInt8) → AV
  | none => .c .nilsl
  | some _ => .os 1
def mH (A : AV) : Option (List UInt8) → Heap
  | none => [.var 41 A]
  | some m => [.var 41 A, .row 5 1 (bytesAV m)]
def big : Nat := 140737488355328
theorem big_max {n : Nat} (h : n ≤ 140737488355328) : n ≤ maxLen := by unfold maxLen; omega
theorem bytesAV_app (a b : List UInt8) : bytesAV a ++ bytesAV b = bytesAV (a ++ b) := by simp [bytesAV]
def app (m : Option (List UInt8)) (p : Option (List UInt8)) : Option (List UInt8) := some (pB m ++ pB p)

/-- The heap just after an append. -/
def mHx (A : AV) (q : List UInt8) : Option (List UInt8) → Heap
  | none => [.var 41 A, .row 5 1 (bytesAV q)]
  | some m => [.var 41 A, .dead, .row 5 1 (bytesAV (m ++ q))]

set_option maxHeartbeats 4000000 in
theorem s0_step (b : Bool) (cf : CallFn) (A : CV) (ps : List (Option (List UInt8))) (m p : Option (List UInt8)) (i : Nat) (hi : i < ps.length) (hs : ps.length ≤ 1000000000) (hp : ps.getD i none = p)
    (hm : (pB m).length + (pB p).length ≤ 140737488355328) :
    p88_l0 b cf 0 [.ov 0 [] 0, mA m, .c (.sl 1 (ps.map pV)), .c (.int .i64 (ps.length : Int)), .c (.int .i64 i)] (mH (.c A) m) =
      some (.cont [.ov 0 [] 0, .os (mH (.c A) m).length, .c (.sl 1 (ps.map pV)), .c (.int .i64 (ps.length : Int)), .c (.int .i64 ((i + 1 : Nat) : Int))], mHx (.c A) (pB p) m) := by
  have c0 : decide ((i : Int) < (ps.length : Int)) = true := by simp; omega
  have a4 : iAdd .i64 (i : Int) 1 = ((i + 1 : Nat) : Int) := by
    unfold iAdd; rw [i64_small (by omega) (by omega)]; omega
  have di : (i : Int) < (ps.length : Int) := by omega
  have hg : nthC (ps.map pV) i = pV p := hp ▸ nthC_map none hi
  have ho : bytesAV [] = [] := rfl
  cases p with
  | none =>
    have hg' : nthC (ps.map pV) i = .nilsl := hg
    cases m with
    | none => simp [p88_l0, mA, mH, mHx, c0, a4, di, hi, hg', pB, ho]
    | some m =>
      have hm' : m.length ≤ 140737488355328 := by simpa [pB] using hm
      have hx := big_max hm'
      simp [p88_l0, mA, mH, mHx, c0, a4, di, hi, hg', pB, hm', hx]
  | some bs =>
    have hg' : nthC (ps.map pV) i = .sl 1 (bytesAV bs) := hg
    cases m with
    | none =>
      have hm' : bs.length ≤ 140737488355328 := by simpa [pB] using hm
      have hx := big_max hm'
      simp [p88_l0, mA, mH, mHx, c0, a4, di, hi, hg', pB, hm', hx]
    | some m =>
      have hm' : m.length + bs.length ≤ 140737488355328 := by simpa [pB] using hm
      have hx := big_max hm'
      simp [p88_l0, mA, mH, mHx, c0, a4, di, hi, hg', pB, hm', hx, bytesAV_app]

/-- The parts in one. -/
def joinO : List (Option (List UInt8)) → Option (List UInt8) → Option (List UInt8)
  | [], m => m
  | p :: ps, m => joinO ps (some (pB m ++ pB p))
def catP : List (Option (List UInt8)) → List UInt8
  | [] => []
  | p :: ps => pB p ++ catP ps
theorem joinO_cat : ∀ (ps : List (Option (List UInt8))) (m : Option (List UInt8)), pB (joinO ps m) = pB m ++ catP ps
  | [], m => by simp [joinO, catP]
  | p :: ps, m => by rw [joinO, joinO_cat]; simp [catP, pB]

theorem gc_m (A : CV) (q : List UInt8) (m : Option (List UInt8)) (vs : List AV) (hvs : AV.idss vs = []) (ho : ∀ r, AV.maps r vs = vs) :
    gcL 0 (.ov 0 [] 0 :: .os (mH (.c A) m).length :: vs) (mHx (.c A) q m) = some (.ov 0 [] 0 :: .os 1 :: vs, mH (.c A) (some (pB m ++ q))) := by
  cases m with
  | none => simp [mHx, mH, pB, hvs, ho]
  | some m => simp [mHx, mH, pB, hvs, ho]
theorem gc_m1 (A : CV) (m : List UInt8) (vs : List AV) (hvs : AV.idss vs = []) (ho : ∀ r, AV.maps r vs = vs) :
    gcL 0 (.ov 0 [] 0 :: .os 1 :: vs) (mH (.c A) (some m)) = some (.ov 0 [] 0 :: .os 1 :: vs, mH (.c A) (some m)) := by
  simp [mH, hvs, ho]
theorem s0_run (b : Bool) (cf : CallFn) (A : CV) (ps0 : List (Option (List UInt8))) (hs : ps0.length ≤ 1000000000) : ∀ (ps : List (Option (List UInt8))) (i : Nat) (m : Option (List UInt8)), ps0.drop i = ps → (pB m).length + (catP ps).length ≤ 140737488355328 →
    loopX 0 (p88_l0 b cf 0) [.ov 0 [] 0, mA m, .c (.sl 1 (ps0.map pV)), .c (.int .i64 (ps0.length : Int)), .c (.int .i64 i)] (mH (.c A) m) =
      some (.exit 0 [.ov 0 [] 0, mA (joinO ps m)], mH (.c A) (joinO ps m))
  | [], i, m, hd, hm => by
    rw [loopX_eq]
    have hl : ps0.length ≤ i := by simpa using hd
    have c0 : decide ((i : Int) < (ps0.length : Int)) = false := by simp; omega
    have n0 : ¬ i < ps0.length := by omega
    cases m <;> simp [p88_l0, n0, joinO, mA, mH]
  | p :: ps, i, m, hd, hm => by
    have hi : i < ps0.length := by
      apply Nat.lt_of_not_le; intro h; rw [List.drop_of_length_le h] at hd; cases hd
    have hp : ps0.getD i none = p := by
      have : (ps0.drop i)[0]? = some p := by rw [hd]; rfl
      rw [List.getElem?_drop] at this
      rw [List.getD_eq_getElem?_getD]; simp at this; simp [this]
    have hd' : ps0.drop (i + 1) = ps := by rw [← List.drop_drop, hd]; rfl
    have hm' : (pB m).length + (pB p).length + (catP ps).length ≤ 140737488355328 := by simpa [catP, Nat.add_assoc] using hm
    have st := s0_step b cf A ps0 m p i hi hs hp (by omega)
    rw [loopX_eq]
    have hg : gcL 0 [.ov 0 [] 0, mA m, .c (.sl 1 (ps0.map pV)), .c (.int .i64 (ps0.length : Int)), .c (.int .i64 i)] (mH (.c A) m) = some ([.ov 0 [] 0, mA m, .c (.sl 1 (ps0.map pV)), .c (.int .i64 (ps0.length : Int)), .c (.int .i64 i)], mH (.c A) m) := by
      cases m <;> simp [mA, mH]
    simp only [hg, st]
    rw [loopX_gc (gc_m A (pB p) m _ (by simp) (by simp)) (gc_m1 A _ _ (by simp) (by simp))]
    exact s0_run b cf A ps0 hs ps (i + 1) (some (pB m ++ pB p)) hd' (by simp [pB] at hm' ⊢; omega)
end Go.Fm


/-
  A part of the proof: PRfB.
-/
import Derived.Test.YtjmjijgnbjkpnaaPRfA
set_option linter.all false
set_option autoImplicit true
/-
  ferrymanref01: piece, Value, Parse; ferrymanref05.sum (the plain seat).
-/
set_option autoImplicit false
set_option maxRecDepth 100000
set_option linter.unusedVariables false
set_option linter.unusedSimpArgs false
namespace Go.Fm
open Go Go.Proofs
theorem add_hl (hi lo : Nat) (h1 : hi < 256) (h2 : lo < 256) : iAdd .i64 (iMul .i64 (hi : Int) 256) (lo : Int) = ((hi * 256 + lo : Nat) : Int) := by
  unfold iAdd iMul
  rw [i64_small (z := (hi : Int) * 256) (by omega) (by omega), i64_small (by omega) (by omega)]
  omega
theorem i64_big {z : Int} (h0 : 0 ≤ z) (h1 : z ≤ 9223372036854775807) : IntKind.i64.wrap z = z := by
  unfold IntKind.wrap
  simp [IntKind.bits, IntKind.signed]
  omega
theorem reachV_un24 (H : Heap) : reachV 24 H AV.undef = [] := rfl
def rpieceV (l : List UInt8) : AV := match pieceL l with
  | some (v, r) => .tup [.c (.sl 1 (bytesAV v)), .c (.sl 1 (bytesAV r)), .c (.bool true)]
  | none => .tup [.c .nilsl, .c .nilsl, .c (.bool false)]
/-! CF -/
set_option maxHeartbeats 4000000 in
theorem rpiece_fn (b : Bool) (l : List UInt8) (hL : l.length ≤ 9223372036854775807) : fnX (cfg b) An 42 [.c (.sl 1 (bytesAV l))] [] = some (rpieceV l, []) := by
  rw [fnX_eq, p42_eq]
  match l with
  | [] => simp [p42, p42_d0, bytesAV, rpieceV, pieceL, reachV_un24]
  | [a] => simp [p42, p42_d0, bytesAV, rpieceV, pieceL, reachV_un24]
  | a :: c :: r =>
    have o := add_hl a.toNat c.toNat a.toNat_lt c.toNat_lt
    have hb : bytesAV (a :: c :: r) = .int .u8 (a.toNat : Int) :: .int .u8 (c.toNat : Int) :: bytesAV r := rfl
    have w0 : IntKind.i64.wrap (a.toNat : Int) = (a.toNat : Int) := i64_small (by omega) (by have := a.toNat_lt; omega)
    have w1 : IntKind.i64.wrap (c.toNat : Int) = (c.toNat : Int) := i64_small (by omega) (by have := c.toNat_lt; omega)
    rw [hb]
    have ha := a.toNat_lt
    have hcl := c.toNat_lt
    obtain ⟨n, hn⟩ : ∃ n, n = a.toNat * 256 + c.toNat := ⟨_, rfl⟩
    rw [← hn] at o
    have hn6 : n < 65536 := by omega
    have hr : r.length + 2 ≤ 9223372036854775807 := by simpa using hL
    have s1 : iSub .i64 ((r.length : Int) + 1 + 1) 2 = (r.length : Int) := by
      unfold iSub
      rw [i64_big (by omega) (by omega)]; omega
    have a1 : iAdd .i64 2 (n : Int) = (n : Int) + 2 := by unfold iAdd; rw [i64_small (by omega) (by omega)]; omega
    have g1 : ¬ ((r.length : Int) + 1 + 1 < 2) := by omega
    have g3 : (0 : Int) < (r.length : Int) + 1 + 1 := by omega
    have g4 : (1 : Int) < (r.length : Int) + 1 + 1 := by omega
    have g5 : 0 < r.length + 1 + 1 := by omega
    have g6 : 1 < r.length + 1 + 1 := by omega
    have g7 : (2 : Int) ≤ (r.length : Int) + 1 + 1 := by omega
    have g8 : 2 ≤ r.length + 1 + 1 := by omega
    have t3 : List.take r.length (bytesAV r) = bytesAV r := List.take_of_length_le (by simp)
    have q1 : (2 : Int) ≤ (n : Int) + 2 := by omega
    have q3 : n ≤ n + 2 := by omega
    by_cases hc : n ≤ r.length
    · have g2 : ¬ ((r.length : Int) < (n : Int)) := by omega
      have q2 : (n : Int) + 2 ≤ (r.length : Int) + 1 + 1 := by omega
      have q0 : (0 : Int) ≤ (n : Int) + 2 := by omega
      have q4 : ((n : Int) + 2).toNat = n + 2 := by omega
      have g9 : (n : Int) ≤ (r.length : Int) := by omega
      have t1 : (bytesAV r).take n = bytesAV (r.take n) := by simp [bytesAV, List.map_take]
      have t2 : (bytesAV r).drop n = bytesAV (r.drop n) := by simp [bytesAV]
      have t4 : List.take (r.length - n) (bytesAV (r.drop n)) = bytesAV (r.drop n) := List.take_of_length_le (by simp)
      have e : rpieceV (a :: c :: r) = .tup [.c (.sl 1 (bytesAV (r.take n))), .c (.sl 1 (bytesAV (r.drop n))), .c (.bool true)] := by
        unfold rpieceV pieceL; simp only [← hn, if_pos hc]
      rw [e]
      simp (maxSteps := 1000000) [p42, p42_d0, p42_d1, p42_d2, s1, a1, g1, g2, g3, g4, g5, g6, g7, g8, g9, hc, q0, q1, q2, q3, q4, t1, t2, t3, t4, w0, w1, nthC0, nthC1, o]
    · have g2 : ((r.length : Int) < (n : Int)) := by omega
      have e : rpieceV (a :: c :: r) = .tup [.c .nilsl, .c .nilsl, .c (.bool false)] := by
        unfold rpieceV pieceL; simp only [← hn, if_neg hc]
      rw [e]
      simp (maxSteps := 1000000) [p42, p42_d0, s1, g1, g2, g3, g4, g5, g6, g7, g8, t3, w0, w1, nthC0, nthC1, o]
end Go.Fm

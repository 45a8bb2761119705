/-
  A part of the proof: PParse.
-/
import Derived.Test.YtjmjijgnbjkpnaaPEnc2
import Derived.Test.YtjmjijgnbjkpnaaDDec
set_option linter.all false
set_option autoImplicit true
/-
  tlv.piece, tlv.Parse of any bytes (the plain seat).
-/
set_option autoImplicit false
set_option maxRecDepth 100000
set_option linter.unusedVariables false
set_option linter.unusedSimpArgs false
namespace Go.Fm
open Go Go.Proofs
theorem or_hl (k : IntKind) (hk : k = .i64 ∨ k = .u64) (hi lo : Nat) (h1 : hi < 256) (h2 : lo < 256) : iOr k (iShl k (hi : Int) 8) (lo : Int) = ((hi * 256 + lo : Nat) : Int) := by
  have hs : iShl k (hi : Int) 8 = ((hi * 256 : Nat) : Int) := by
    unfold iShl
    have : (hi : Int) * 2 ^ (min (8 : Int).toNat k.bits) = ((hi * 256 : Nat) : Int) := by
      rcases hk with rfl | rfl
      · show (hi : Int) * 2 ^ 8 = _; omega
      · show (hi : Int) * 2 ^ 8 = _; omega
    rw [this]
    rcases hk with rfl | rfl
    · exact i64_small (by omega) (by omega)
    · exact u64_small (by omega) (by omega)
  rw [hs]
  have e : ((BitVec.ofInt 64 ((hi * 256 : Nat) : Int)) ||| (BitVec.ofInt 64 (lo : Int))).toNat = hi * 256 + lo := by
    have ofI (n : Nat) : BitVec.ofInt 64 (n : Int) = BitVec.ofNat 64 n := by simp
    have e1 := ofI (hi * 256)
    have e2 := ofI lo
    rw [e1, e2, BitVec.toNat_or, BitVec.toNat_ofNat, BitVec.toNat_ofNat, Nat.mod_eq_of_lt (by omega), Nat.mod_eq_of_lt (by omega)]
    have := Nat.two_pow_add_eq_or_of_lt (i := 8) (b := lo) (by omega) hi
    rw [Nat.mul_comm hi 256]
    exact this.symm
  unfold iOr
  rcases hk with rfl | rfl
  · show IntKind.i64.wrap (((BitVec.ofInt 64 ((hi * 256 : Nat) : Int)) ||| (BitVec.ofInt 64 (lo : Int))).toNat : Int) = _
    rw [e]; exact i64_small (by omega) (by omega)
  · show IntKind.u64.wrap (((BitVec.ofInt 64 ((hi * 256 : Nat) : Int)) ||| (BitVec.ofInt 64 (lo : Int))).toNat : Int) = _
    rw [e]; exact u64_small (by omega) (by omega)
/-- Bytes with their length ahead. -/
def pieceL : List UInt8 → Option (List UInt8 × List UInt8)
  | a :: c :: r => if a.toNat * 256 + c.toNat ≤ r.length then some (r.take (a.toNat * 256 + c.toNat), r.drop (a.toNat * 256 + c.toNat)) else none
  | _ => none
def pieceV (l : List UInt8) : AV := match pieceL l with
  | some (v, r) => .tup [.c (.sl 1 (bytesAV v)), .c (.sl 1 (bytesAV r)), .c (.int .i64 0)]
  | none => .tup [.c .nilsl, .c .nilsl, .c (.int .i64 4)]
/-! CF -/
set_option maxHeartbeats 4000000 in
theorem piece_fn (b : Bool) (l : List UInt8) : fnX (cfg b) An 41 [.c (.sl 1 (bytesAV l))] [] = some (pieceV l, []) := by
  rw [fnX_eq, p41_eq]
  match l with
  | [] => simp [p41, bytesAV, pieceV, pieceL]
  | [a] => simp [p41, bytesAV, pieceV, pieceL]
  | a :: c :: r =>
    have o := or_hl .i64 (.inl rfl) a.toNat c.toNat a.toNat_lt c.toNat_lt
    have hb : bytesAV (a :: c :: r) = .int .u8 (a.toNat : Int) :: .int .u8 (c.toNat : Int) :: bytesAV r := rfl
    have w0 : IntKind.i64.wrap (a.toNat : Int) = (a.toNat : Int) := i64_small (by omega) (by have := a.toNat_lt; omega)
    have w1 : IntKind.i64.wrap (c.toNat : Int) = (c.toNat : Int) := i64_small (by omega) (by have := c.toNat_lt; omega)
    rw [hb]
    obtain ⟨n, hn⟩ : ∃ n, n = a.toNat * 256 + c.toNat := ⟨_, rfl⟩
    rw [← hn] at o
    have g1 : ¬ ((r.length : Int) + 1 + 1 < 2) := by omega
    have g3 : (0 : Int) < (r.length : Int) + 1 + 1 := by omega
    have g4 : (1 : Int) < (r.length : Int) + 1 + 1 := by omega
    have g5 : 0 < r.length + 1 + 1 := by omega
    have g6 : 1 < r.length + 1 + 1 := by omega
    have g7 : (2 : Int) ≤ (r.length : Int) + 1 + 1 := by omega
    have g8 : 2 ≤ r.length + 1 + 1 := by omega
    have t3 : List.take r.length (bytesAV r) = bytesAV r := List.take_of_length_le (by simp)
    by_cases hc : n ≤ r.length
    · have g2 : ¬ ((r.length : Int) < (n : Int)) := by omega
      have g9 : (n : Int) ≤ (r.length : Int) := by omega
      have t1 : (bytesAV r).take n = bytesAV (r.take n) := by simp [bytesAV, List.map_take]
      have t2 : (bytesAV r).drop n = bytesAV (r.drop n) := by simp [bytesAV]
      have t4 : List.take (r.length - n) (bytesAV (r.drop n)) = bytesAV (r.drop n) := List.take_of_length_le (by simp)
      have e : pieceV (a :: c :: r) = .tup [.c (.sl 1 (bytesAV (r.take n))), .c (.sl 1 (bytesAV (r.drop n))), .c (.int .i64 0)] := by
        unfold pieceV pieceL; simp only [← hn, if_pos hc]
      rw [e]
      simp (maxSteps := 1000000) [p41, p41_d0, p41_d1, g1, g2, g3, g4, g5, g6, g7, g8, g9, hc, t1, t2, t3, t4, w0, w1, nthC0, nthC1, o]
    · have g2 : ((r.length : Int) < (n : Int)) := by omega
      have e : pieceV (a :: c :: r) = .tup [.c .nilsl, .c .nilsl, .c (.int .i64 4)] := by
        unfold pieceV pieceL; simp only [← hn, if_neg hc]
      rw [e]
      simp (maxSteps := 1000000) [p41, p41_d0, p41_d1, g1, g2, g3, g4, g5, g6, g7, g8, t3, w0, w1, nthC0, nthC1, o]
end Go.Fm

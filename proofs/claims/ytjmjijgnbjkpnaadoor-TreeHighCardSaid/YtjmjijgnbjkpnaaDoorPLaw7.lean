/-
  A part of the proof: PLaw7.
-/
import Derived.Test.YtjmjijgnbjkpnaaDoorPLaw14
import Derived.Test.YtjmjijgnbjkpnaaDoorPApi
import Derived.Test.YtjmjijgnbjkpnaaDoorPLawT1
import Derived.Test.YtjmjijgnbjkpnaaDoorDLaw7
set_option linter.all false
set_option autoImplicit true
/-
  TreeHigh: what the law's function gives.
-/
set_option maxRecDepth 100000
set_option linter.unusedVariables false
set_option linter.unusedSimpArgs false
namespace Go.Fm
open Go Go.Proofs

/-! CF -/
theorem shl1 : ∀ d : Nat, d < 60 → iShl .i64 1 (d : Int) = ((2 ^ d : Nat) : Int) := by decide
def thS (l : List Pr) (ok : Bool) (d : Int) : List AV := [.c (pairsC l), .ov 0 [] 0, .c (.bool ok), .c (.int .i64 d)]
theorem th_loop (b : Bool) (cf : CallFn) (l : List Pr) (x : CV) (ok : Bool) (D : Nat) (hD : D < 60) (h1 : l.length ≤ 2 ^ D) : ∀ (n d : Nat), d + n = D → (∀ e, e < D → ¬ l.length ≤ 2 ^ e) →
    loopX 0 (p7_l0 b cf 0) (thS l ok (d : Int)) [.var 66 (.c x)] = some (.exit 0 (thS l ok (D : Int)), [.var 66 (.c x)])
  | 0, d, h, hm => by
    have hd : d = D := by omega
    subst hd
    have hs := shl1 d hD
    have hc : ¬ 2 ^ d < l.length := by omega
    have hcI : ¬ ((2 ^ d : Nat) : Int) < (l.length : Int) := by omega
    rw [loopX_eq]
    have hd0 : ¬ (d : Int) < 0 := by omega
    generalize (2 ^ d : Nat) = w at *
    simp [thS, p7_l0, hs, hd0, hc, hcI]
  | n + 1, d, h, hm => by
    have hs := shl1 d (by omega)
    have hc : 2 ^ d < l.length := by have := hm d (by omega); omega
    have ha := idx_add d (by omega)
    have ih := th_loop b cf l x ok D hD h1 n (d + 1) (by omega) hm
    have e : (((d + 1 : Nat)) : Int) = (d : Int) + 1 := by simp
    rw [e] at ih
    rw [← ih, loopX_eq]
    have hd0 : ¬ (d : Int) < 0 := by omega
    generalize (2 ^ d : Nat) = w at *
    simp [thS, p7_l0, hs, hd0, hc, ha]
theorem least_of (n : Nat) : ∀ m, n ≤ 2 ^ m → ∃ D, D ≤ m ∧ n ≤ 2 ^ D ∧ ∀ e, e < D → ¬ n ≤ 2 ^ e
  | 0, h => ⟨0, Nat.le_refl _, h, fun e he => by omega⟩
  | m + 1, h => by
    by_cases h2 : n ≤ 2 ^ m
    · obtain ⟨D, h3, h4, h5⟩ := least_of n m h2
      exact ⟨D, by omega, h4, h5⟩
    · refine ⟨m + 1, Nat.le_refl _, h, fun e he h3 => h2 (Nat.le_trans h3 (Nat.pow_le_pow_right (by omega) (by omega)))⟩
theorem leaveso_len (t : Option Tn) : (Tn.leaveso t).length = Tn.szo t := by cases t <;> simp [Tn.leaveso, Tn.szo, Tn.leaves_sz]
theorem mul_i64 (a c : Nat) (h : a * c < 4000000000000000000) : iMul .i64 (a : Int) (c : Int) = ((a * c : Nat) : Int) := by
  unfold iMul
  rw [← Int.natCast_mul, i64_small (by omega) (by omega)]
theorem treeHigh_fn (b : Bool) (o : Option (List ActL)) : fnX (cfg b) An 7 [.c (actsC o)] [] = some (.c (.bool true), []) := by
  rw [fnX_eq, p7_eq]
  have c0 := awake05_call b
  have gc := grow_call b 200 (by decide) o
  have hok := grown_ok 200 o
  have hlaw := grown_law 200 o
  generalize grown 200 o = g at *
  obtain ⟨t, l⟩ := g
  have hlv := hlaw.leaves
  have hb := hlaw.bal
  have hsz := hok.sz
  have hft := hok.fit
  simp only at hlv hb hsz hft gc
  have hll : l.length = Tn.szo t := by rw [← hlv, leaveso_len]
  have n200 : ((200 : Nat) : Int) = 200 := rfl
  rw [n200] at gc
  cases t with
  | none =>
    have hl0 : l = [] := List.length_eq_zero_iff.1 hll
    subst hl0
    have nd : ∀ H, callX (cfg b) An 45 [.c (tC none), .c .nilsl] H = _ := callX_pure (Node_root0 b) rfl rfl (prim_none (by decide))
    simp only [api0] at nd
    simp [p7, c0, gc, nd, pairsC_nil]
  | some t =>
    simp only [Tn.szo] at hll hsz
    have hfit := hft t rfl
    have nd : ∀ H, callX (cfg b) An 45 [.c (tC (some t)), .c .nilsl] H = _ := callX_pure (Node_root b t hfit) rfl rfl (prim_none (by decide))
    obtain ⟨D, hD, h1, h2⟩ := least_of l.length 10 (by omega)
    have e := th_loop b (callX (cfg b) An) l t.api true D (by omega) h1 D 0 (by omega) h2
    have hN := Tn.N_sz t (hb t rfl)
    have hP := Tn.N_pow t.ht D (by omega)
    have hp := t.sz_pos
    have hl0 : ((l.length : Int) == 0) = false := by simp only [beq_eq_false_iff_ne, ne_eq]; omega
    have hht := t.ht_lt
    have hz0 : ((t.sz : Int) == 0) = false := by simp only [beq_eq_false_iff_ne, ne_eq]; omega
    have m1 := mul_i64 2 t.ht (by omega)
    have m2 := mul_i64 3 D (by omega)
    have a1 : iAdd .i64 ((3 * D : Nat) : Int) 2 = ((3 * D + 2 : Nat) : Int) := by
      unfold iAdd
      rw [i64_small (by omega) (by omega)]
      omega
    have w1 : IntKind.i64.wrap (t.sz : Int) = (t.sz : Int) := i64_small (by omega) (by omega)
    have hle : ((2 * t.ht : Nat) : Int) ≤ ((3 * D + 2 : Nat) : Int) := by omega
    have e1 : ((t.sz : Int) == (l.length : Int)) = true := by simp only [beq_iff_eq]; omega
    have n2 : ((2 : Nat) : Int) = 2 := rfl
    have n3 : ((3 : Nat) : Int) = 3 := rfl
    rw [n2] at m1
    rw [n3] at m2
    generalize ((2 * t.ht : Nat) : Int) = X at *
    generalize ((3 * D + 2 : Nat) : Int) = Y at *
    generalize ((3 * D : Nat) : Int) = Z at *
    simp only [thS, Int.natCast_zero, Int.ofNat_zero] at e
    simp [p7, c0, gc, nd, hl0, hz0, e, w1, hll, m1, m2, a1, hle]
end Go.Fm


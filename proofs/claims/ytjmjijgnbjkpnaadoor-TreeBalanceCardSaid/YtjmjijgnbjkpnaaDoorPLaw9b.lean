/-
  A part of the proof: PLaw9b.
-/
import Derived.Test.YtjmjijgnbjkpnaaDoorPLaw9
set_option linter.all false
set_option autoImplicit true
/-
  TreeBalance, second part.
-/
set_option maxRecDepth 100000
set_option linter.unusedVariables false
set_option linter.unusedSimpArgs false
namespace Go.Fm
open Go Go.Proofs

/-! CF -/
theorem tb_exit (b : Bool) (t : Tn) (l : List Pr) (n : Int) : loopX 0 (p9_l0 b (callX (cfg b) An) 0) (tbS t l n) (tbH []) = some (.exit 0 [.any, .c (tC (some t)), .c (pairsC l), .c (.int .i64 n)], tbH []) := by
  rw [loopX_eq]
  simp [tbS, tbH, p9_l0]
abbrev QE := List Bool × Tn
def qW (qs : List QE) : Nat := (qs.map fun p => 2 * p.2.sz - 1).sum
def qS (qs : List QE) : Nat := (qs.map fun p => p.2.sz).sum
theorem qS_len (qs : List QE) : qs.length ≤ qS qs := by
  induction qs with
  | nil => simp
  | cons p qs ih => have := p.2.sz_pos; simp only [qS, List.map_cons, List.sum_cons, List.length_cons] at ih ⊢; omega
theorem tb_loop (b : Bool) (t : Tn) (hf : t.fit) (hB : t.B) (hsz : t.sz ≤ 100000) (l : List Pr) (hl : l ≠ []) : ∀ (m : Nat) (qs : List QE) (n : Nat), qW qs ≤ m → (∀ p ∈ qs, Tn.go p.1 t = some p.2) → n + qS qs = t.sz →
    loopX 0 (p9_l0 b (callX (cfg b) An) 0) (tbS t l (n : Int)) (tbH (qs.map (·.1))) = some (.exit 0 [.any, .c (tC (some t)), .c (pairsC l), .c (.int .i64 (t.sz : Int))], tbH [])
  | m, [], n, hW, hq, hs => by
    simp only [qS, List.map_nil, List.sum_nil, Nat.add_zero] at hs
    rw [List.map_nil, tb_exit, hs]
  | 0, (w, u) :: qs, n, hW, hq, hs => by
    have := u.sz_pos
    simp only [qW, List.map_cons, List.sum_cons] at hW
    omega
  | m + 1, (w, u) :: qs, n, hW, hq, hs => by
    have hgo := hq (w, u) (by simp)
    have hlen := qS_len qs
    simp only [qW, List.map_cons, List.sum_cons] at hW
    simp only [qS, List.map_cons, List.sum_cons] at hs
    have hqs : qS qs = (qs.map fun p => p.2.sz).sum := rfl
    have hup := u.sz_pos
    rw [List.map_cons]
    cases u with
    | leaf k v =>
      have hw := (go_sz w t _ hgo).2
      have := t.ht_lt
      rw [tb_leaf b t hf l hl w _ (by omega) k v hgo n (by omega)]
      have e : (n : Int) + 1 = ((n + 1 : Nat) : Int) := by simp
      rw [e]
      refine tb_loop b t hf hB hsz l hl m qs (n + 1) ?_ (fun p hp => hq p (by simp [hp])) ?_
      · simp only [Tn.sz] at hW; simp only [qW]; omega
      · simp only [Tn.sz] at hs; omega
    | node x y =>
      rw [tb_node b t hf hB (by omega) l hl w _ (by rw [List.length_map]; omega) x y hgo n (by omega)]
      have e : qs.map (·.1) ++ [w ++ [false], w ++ [true]] = (qs ++ [(w ++ [false], x), (w ++ [true], y)]).map (·.1) := by simp
      rw [e]
      have h1 := x.sz_pos
      have h2 := y.sz_pos
      refine tb_loop b t hf hB hsz l hl m _ n ?_ (fun p hp => ?_) ?_
      · simp only [Tn.sz] at hW; simp only [qW, List.map_append, List.map_cons, List.map_nil, List.sum_append, List.sum_cons, List.sum_nil]; omega
      · rcases List.mem_append.1 hp with hp | hp
        · exact hq p (by simp [hp])
        · simp only [List.mem_cons, List.not_mem_nil, or_false] at hp
          rcases hp with rfl | rfl
          · exact go_snoc w t x y false hgo
          · exact go_snoc w t x y true hgo
      · simp only [Tn.sz] at hs; simp only [qS, List.map_append, List.map_cons, List.map_nil, List.sum_append, List.sum_cons, List.sum_nil]; omega
theorem treeBalance_fn (b : Bool) (o : Option (List ActL)) : fnX (cfg b) An 9 [.c (actsC o)] [] = some (.c (.bool true), []) := by
  rw [fnX_eq, p9_eq]
  have c0 := awake05_call b
  have gc := grow_call b 80 (by decide) o
  have hok := grown_ok 80 o
  have hlaw := grown_law 80 o
  generalize grown 80 o = g at *
  obtain ⟨t, l⟩ := g
  have hlv := hlaw.leaves
  have hB := hlaw.bal
  have hsz := hok.sz
  have hft := hok.fit
  have hl80 := hok.len
  simp only at hlv hB hsz hft gc hl80
  have n80 : ((80 : Nat) : Int) = 80 := rfl
  rw [n80] at gc
  have hll : Tn.szo t = l.length := by rw [← leaveso_len, hlv]
  have ac := All_call b t hft (by omega)
  rw [hlv] at ac
  have sp := samePairs_call b l l (by omega) (Same.refl l)
  cases t with
  | none =>
    have hl0 : l = [] := List.length_eq_zero_iff.1 hll.symm
    subst hl0
    have e : loopX 0 (p9_l0 b (callX (cfg b) An) 0) [.c (tC none), .c (pairsC []), .os 0, .c (.int .i64 0)] [.row 53 1 [.nilsl]] = some (.exit 0 [.any, .c (tC none), .c (pairsC []), .c (.int .i64 0)], [.row 53 1 [.nilsl]]) := by
      rw [loopX_eq]
      simp [p9_l0]
    simp [p9, c0, gc, e, ac, sp]
  | some t =>
    simp only [Tn.szo] at hll hsz
    have hl0 : l ≠ [] := by rw [← hlv]; exact t.leaves_ne
    have e := tb_loop b t (hft t rfl) (hB t rfl) (by omega) l hl0 (2 * t.sz) [([], t)] 0 (by simp [qW]) (by simp [Tn.go]) (by simp [qS])
    simp only [tbS, tbH, List.map_cons, List.map_nil, Int.natCast_zero, Int.ofNat_zero, wayC, if_true] at e
    simp [p9, c0, gc, e, ac, sp, hll]
end Go.Fm


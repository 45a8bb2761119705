/-
  A part of the proof: PLaw22.
-/
import Derived.Test.YtjmjijgnbjkpnaaDoorPNod
set_option linter.all false
set_option autoImplicit true
/-
  Law 22, NodesNil.
-/
set_option maxRecDepth 100000
set_option linter.unusedVariables false
set_option linter.unusedSimpArgs false
namespace Go.Fm
open Go Go.Proofs

theorem v84 {b : Bool} {H : Heap} {vs : List AV} : callX (cfg b) An 84 vs H = cvw (fnX (cfg b) An 84) (handCs (cfg b) false H vs) := callX_v (prim_none (by decide))
theorem v85 {b : Bool} {H : Heap} {vs : List AV} : callX (cfg b) An 85 vs H = cvw (fnX (cfg b) An 85) (handCs (cfg b) false H vs) := callX_v (prim_none (by decide))
theorem v86 {b : Bool} {H : Heap} {vs : List AV} : callX (cfg b) An 86 vs H = cvw (fnX (cfg b) An 86) (handCs (cfg b) false H vs) := callX_v (prim_none (by decide))
theorem eqg4n {b : Bool} : (cfg b).P.eqGuardType (cfg b).P.depth 4 = false := by kernel_rfl
theorem aeq4n {b : Bool} {x y : AV} : aeq (cfg b).P 12 4 x y = boolEq x y := aeq_bool (by kernel_rfl)
theorem be4n {b lit : Bool} {x y : AV} {H : Heap} (h : isIS x y = false) : mBin (cfg b) 4 lit .eql x y H = eqH H false (boolEq x y) := by rw [mBin_eqg eqg4n h, aeq4n]
def n22 (T P : CV) (n : Nat) (i : Int) : List AV := [.ov 0 [] 0, .c .nilp, .ov 1 [] 0, .c (.int .i64 1), .c .nilsl, .c (.bool false), .ov 2 [] 0, .ov 3 [] 0, .c (.int .i64 1), .c T, .c P, .os 4, .c (.int .i64 (n : Int)), .c (.int .i64 i)]
def h22 (hs : List Int) (M : List (CV × CV)) (N : List CV) : Heap := [.var 41 (.c (.arr 32 .u8 hs)), .var 41 (.c (.arr 32 .u8 (List.replicate 32 0))), .var 164 (.agg [.mp 5]), .var 41 (.c (.arr 32 .u8 (List.replicate 32 0))), .row 5 1 N, .mp M]
/-! CF -/
set_option maxHeartbeats 4000000 in
theorem l22 (b : Bool) (T P : CV) (hs : List Int) (M : List (CV × CV)) (n : Nat) (hn : n ≤ 100000) : ∀ (k i : Nat) (ns : List Int), ns.length = n → i + k = n →
    ∃ N, loopX 0 (p22_l0 b (callX (cfg b) An) 0) (n22 T P n (i : Int)) (h22 hs M (ns.map (CV.int .u8))) = some (.exit 0 [.ov 0 [] 0, .c .nilp, .ov 1 [] 0, .c (.int .i64 1), .c .nilsl, .c (.bool false), .ov 2 [] 0, .ov 3 [] 0, .c (.int .i64 1), .c T, .c P], h22 hs M N)
  | 0, i, ns, hl, hk => by
    have hi : i = n := by omega
    subst hi
    refine ⟨ns.map (CV.int .u8), ?_⟩
    rw [loopX_eq]
    simp only [n22, h22, List.reduceReplicate]
    simp [p22_l0]
  | k + 1, i, ns, hl, hk => by
    have hi : i < n := by omega
    have hI : (i : Int) < (n : Int) := by omega
    have ha := idx_add i (by omega)
    have hg : nthC (ns.map (CV.int .u8)) i = .int .u8 (ns.getD i 0) := nthC_map 0 (by omega)
    have hset : (ns.map (CV.int .u8)).set i (.int .u8 (iXor .u8 (ns.getD i 0) 255)) = (ns.set i (iXor .u8 (ns.getD i 0) 255)).map (CV.int .u8) := by simp
    obtain ⟨N2, ih⟩ := l22 b T P hs M n hn k (i + 1) (ns.set i (iXor .u8 (ns.getD i 0) 255)) (by simp [hl]) (by omega)
    have e1 : (((i + 1 : Nat)) : Int) = (i : Int) + 1 := by omega
    rw [e1] at ih
    refine ⟨N2, ?_⟩
    rw [← ih, ← hset, loopX_eq]
    have hM : (ns.map (CV.int .u8)).length = n := by simp [hl]
    clear ih hset
    generalize ns.map (CV.int .u8) = N at *
    generalize ns.getD i 0 = x at *
    simp only [n22, h22, List.reduceReplicate]
    simp [p22_l0, hM, hi, hI, hg, ha]
set_option maxHeartbeats 32000000 in
theorem nil_core (b : Bool) (o : Option (List ActL)) (hs : List Int) (hhs : hs.length = 32) (t : Option Tn) (m : Mp) (R : List Int) (hR : R.length = 32) (w : List UInt8) (hw : w.length ≤ 100000) (is : Bool) (N : CV) (hN : N.isAgg = true) (hN2 : N.size = 68) (g : Int) (l : List Pr) (hL : (is = true ∧ 0 < l.length ∧ g = 0) ∨ (is = false ∧ l = []))
    (gc : ∀ H, callX (cfg b) An 39 [.c (actsC o), .c (.int .i64 20)] H = some (.tup [.c (tC t), .c (pairsC l)], H))
    (s1 : fnX (cfg b) An 70 [.ov 0 [] 0, .c (tC t)] (baH []) = some (.tup [.c (.arr 32 .u8 R), .c (.int .i64 0)], baH m))
    (rc : ∀ H, callX (cfg b) An 37 [.c (tC t)] H = some (.c (.arr 32 .u8 R), H))
    (dc : fnX (cfg b) An 85 [.c (.sl 1 (bytesAV w))] [] = some (.tup [.c N, .c (.int .i64 g)], []))
    (ge : fnX (cfg b) An 84 [.ov 0 [] 0, .c (.arr 32 .u8 R)] (baH m) = some (.tup [.os 2, .c (.bool is)], baH m ++ [.row 5 1 (bytesAV w)])) :
    fnX (cfg b) An 22 [.c (actsC o), .c (.arr 32 .u8 hs)] [] = some (.c (.bool true), []) := by
  rw [fnX_eq, p22_eq]
  have c0 := awake07_call b
  have nw := bnew_fn b
  have nt : ∀ H, callX (cfg b) An 26 [] H = some (.c (tC none), H) := callX_pure (new_tree b) rfl rfl (prim_none (by decide))
  have sn := save_none b (tC none)
  have sz := save_nilt b []
  have gn := get_nil b hs
  have bn := blen_nil b
  have kn := fun x => keep_nil b x
  simp only [baH] at nw s1 ge sz
  generalize tC t = T at *
  generalize tC none = T0 at *
  generalize mC m = M1 at *
  simp (maxSteps := 1000000) [p22, c0, nt, v69, v70, v71, v84, v85, v86, nw, sn, sz, gn, s1, gc, rc, ge, hR, hhs, frz164, frz41n, frz66, keepR84]
  rw [loopX_gc (s1 := n22 T (pairsC l) w.length 0) (H1 := h22 hs M1 (bytesAV w)) (by simp [n22, h22]) (by simp [n22, h22])]
  obtain ⟨N', lp⟩ := l22 b T (pairsC l) hs M1 w.length hw w.length 0 (dI w) (by rw [len_dI]) (by omega)
  rw [dI_map, show ((0 : Nat) : Int) = 0 from rfl] at lp
  rw [lp]
  simp only [h22, List.reduceReplicate]
  have hp := fun H => lenOf_pairsC l H
  have f1 : mBin (cfg b) 41 false .eql (.c (.arr 32 .u8 (List.replicate 32 0))) (.c (.arr 32 .u8 (List.replicate 32 0))) = fun H => some (.c (.bool true), H) := by funext H; simp [be41]
  rcases hL with ⟨h1, h2, h3⟩ | ⟨h1, h2⟩
  · subst h1; subst h3
    have h2I : (0 : Int) < (l.length : Int) := by omega
    simp (maxSteps := 1000000) [rc, v84, ge, hR, v85, dc, v71, v86, bn, kn, hN, hN2, hp, h2, h2I, be41, be4n, frz66, frz41n, frz164, keepR84]
  · subst h1
    have h2I : l.length = 0 := by rw [h2]; rfl
    simp (maxSteps := 1000000) [rc, v84, ge, hR, v85, dc, v71, v86, bn, kn, hN, hN2, hp, h2I, be41, be4n, frz66, frz41n, frz164, keepR84]
theorem growS_val (most : Nat) : ∀ (l : List ActL) (i : Nat) (s : GS), (∀ p ∈ s.2, 0 < p.1.length ∧ p.1.length ≤ 96 ∧ (pB p.2).length < 256) → ∀ p ∈ (growS most l i s).2, 0 < p.1.length ∧ p.1.length ≤ 96 ∧ (pB p.2).length < 256
  | [], i, s, h => h
  | a :: r, i, s, h => by
    unfold growS
    split
    · exact h
    · rename_i hc
      have hk : 0 < a.key.length := List.length_pos_iff.2 a.key_ne
      have hv : (pB (upto 100 a.val)).length ≤ 100 := by rw [pB_upto, List.length_take]; omega
      refine growS_val most r (i + 1) _ ?_
      split
      · intro p hp
        rcases putP_mem hp with rfl | hp
        · exact ⟨hk, by simp only; omega, by simp only; omega⟩
        · exact h p hp
      · intro p hp
        exact h p (List.mem_filter.1 hp).1
theorem lkM_keep {h e : List UInt8} {m n : Mp} (hm : lkM h m = some e) : lkM h (m ++ n) = some e := by
  induction m with
  | nil => simp [lkM] at hm
  | cons p r ih =>
    simp only [lkM, List.cons_append] at hm ⊢
    split
    · rename_i hp; simpa [hp] using hm
    · rename_i hne
      simp only [hne, if_false] at hm
      exact ih hm
theorem saveM_lk {h e : List UInt8} : ∀ (l : List Tn) (m : Mp), lkM h m = some e → lkM h (saveM l m) = some e
  | [], m, hm => hm
  | n :: l, m, hm => by
    refine saveM_lk l (sv1 m n) ?_
    unfold sv1
    split
    · exact hm
    · exact lkM_keep hm
theorem lk_root (t : Tn) : lkM t.hash (saveM t.nodesL []) = some t.enc := by
  obtain ⟨r, hr⟩ : ∃ r, t.nodesL = t :: r := by cases t <;> exact ⟨_, rfl⟩
  rw [hr]
  refine saveM_lk r (sv1 [] t) ?_
  simp [sv1, lkM]
theorem flat_len : ∀ l : List It, (∀ p ∈ l, p.2.length < 256) → (flat l).length ≤ l.length * 300
  | [], _ => by simp [flat]
  | p :: r, h => by
    have ih := flat_len r fun q hq => h q (by simp [hq])
    have h0 := h p (by simp)
    have e : flat (p :: r) = itB p ++ flat r := rfl
    rw [e, List.length_append]
    simp only [itB, List.length_cons]
    omega
theorem nodesNil_fn (b : Bool) (o : Option (List ActL)) (hs : List Int) (hhs : hs.length = 32) : fnX (cfg b) An 22 [.c (actsC o), .c (.arr 32 .u8 hs)] [] = some (.c (.bool true), []) := by
  have gc := grow_call b 20 (by decide) o
  have hok := grown_ok 20 o
  have hlaw := grown_law 20 o
  have hnd := growS_ndok 20 (actsL o) 0 (none, []) (fun p hp => by simp at hp)
  have hnd' := growS_val 20 (actsL o) 0 (none, []) (fun p hp => by simp at hp)
  have hg : growS 20 (actsL o) 0 (none, []) = grown 20 o := rfl
  rw [hg] at hnd hnd'
  have n20 : ((20 : Nat) : Int) = 20 := rfl
  rw [n20] at gc
  generalize grown 20 o = g at *
  obtain ⟨t, l⟩ := g
  have hlv := hlaw.leaves
  have hsz := hok.sz
  have hft := hok.fit
  simp only at hlv hsz hft gc hnd hnd'
  have T1 : TrOk b t := ⟨hft, by omega, by rw [hlv]; exact hnd⟩
  have s1 := save_fn b t T1 []
  have rc := Root_call b t
  have hlR : (Tn.hasho t).length = 32 := by
    cases t with
    | none => exact shaW_len _
    | some t => exact t.hash_len
  have hdR : (dI (Tn.hasho t)).length = 32 := by rw [len_dI, hlR]
  cases t with
  | none =>
    have hl0 : l = [] := by rw [← hlv]; rfl
    have e : saveM (Tn.nodesO none) [] = [] := rfl
    rw [e] at s1
    have ge := get_fn b (Tn.hasho none) hlR [] (by simp [gtB, lkM, pB])
    exact nil_core b o hs hhs none [] (dI (Tn.hasho none)) hdR [] (by simp) false apiZ rfl rfl 10 l (.inr ⟨rfl, hl0⟩) gc s1 rc (dec_nil b) ge
  | some t =>
    simp only [Tn.szo] at hsz
    have hsm : Small t := by
      cases t with
      | leaf k v =>
        obtain ⟨h0, h1, h2⟩ := T1.ok (k, v) (by simp [Tn.leaveso, Tn.leaves])
        obtain ⟨h3, h4, h5⟩ := hnd' (k, v) (by rw [← hlv]; simp [Tn.leaveso, Tn.leaves])
        exact ⟨h0, h1, h5⟩
      | node a c =>
        obtain ⟨v, q, e⟩ := Tn.leaves_head c
        obtain ⟨h0, h1, _⟩ := T1.ok (c.least, v) (by simp only [Tn.leaveso, Tn.leaves]; rw [e]; simp)
        exact ⟨h0, h1, by omega⟩
    have hl0 : 0 < l.length := by
      rw [← hlv]
      exact List.length_pos_iff.2 t.leaves_ne
    have hlk := lk_root t
    have hen : t.enc.length ≤ 100000 := by
      rw [enc_flat t hsm]
      have h1 := flat_len t.its fun p hp => ((its_ok t hsm).2 p hp).2
      have h2 : t.its.length ≤ 5 := by cases t with | leaf k v => simp only [Tn.its]; split <;> simp | node l r => simp [Tn.its]
      omega
    have ge := get_fn b t.hash hlR (saveM t.nodesL []) (by simp only [gtB, hlk, pB]; exact hen)
    simp only [gtB, hlk, pB, Option.isSome_some] at ge
    obtain ⟨u, hu⟩ := dec_ok b t hsm
    exact nil_core b o hs hhs (some t) (saveM t.nodesL []) (dI t.hash) hdR t.enc hen true u.api (cag_api u) (csz_api u) 0 l (.inl ⟨rfl, hl0, rfl⟩) gc s1 rc hu ge
end Go.Fm


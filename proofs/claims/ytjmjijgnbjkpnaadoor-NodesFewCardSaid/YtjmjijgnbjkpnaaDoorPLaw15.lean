/-
  A part of the proof: PLaw15.
-/
import Derived.Test.YtjmjijgnbjkpnaaDoorPFew
import Derived.Test.YtjmjijgnbjkpnaaDoorPTree
import Derived.Test.YtjmjijgnbjkpnaaDoorPGrow
import Derived.Test.YtjmjijgnbjkpnaaDoorDLaw15
set_option linter.all false
set_option autoImplicit true
/-
  Law 15, NodesFew.
-/
set_option maxRecDepth 100000
set_option linter.unusedVariables false
set_option linter.unusedSimpArgs false
namespace Go.Fm
open Go Go.Proofs

theorem v106 {b : Bool} {H : Heap} {vs : List AV} : callX (cfg b) An 106 vs H = cvw (fnX (cfg b) An 106) (handCs (cfg b) false H vs) := callX_v (prim_none (by decide))
theorem v69 {b : Bool} {H : Heap} {vs : List AV} : callX (cfg b) An 69 vs H = cvw (fnX (cfg b) An 69) (handCs (cfg b) false H vs) := callX_v (prim_none (by decide))
theorem v70 {b : Bool} {H : Heap} {vs : List AV} : callX (cfg b) An 70 vs H = cvw (fnX (cfg b) An 70) (handCs (cfg b) false H vs) := callX_v (prim_none (by decide))
theorem v71 {b : Bool} {H : Heap} {vs : List AV} : callX (cfg b) An 71 vs H = cvw (fnX (cfg b) An 71) (handCs (cfg b) false H vs) := callX_v (prim_none (by decide))
theorem v36 {b : Bool} {H : Heap} {vs : List AV} : callX (cfg b) An 36 vs H = cvw (fnX (cfg b) An 36) (handCs (cfg b) false H vs) := callX_v (prim_none (by decide))
theorem enc_ax : (Tn.leaf [97] (some [120])).enc = [1, 0, 1, 97, 2, 0, 1, 120] := by decide
theorem api_ax : (Tn.leaf [97] (some [120])).api = .agg [.sl 1 (bytesAV [97]), .sl 1 (bytesAV [120]), .int .i64 0, .int .u64 1, .arr 32 .u8 (List.replicate 32 0), .arr 32 .u8 (List.replicate 32 0)] := by rw [api_leaf, zero32_dI]; rfl
theorem cf_PLaw15_95c318ad : clashFree [0, 1, 3, 7, 7, 31, 63, 127, 255, 511, 255, 2047, 4095, 8191, 16383, 32767, 16383, 16383, 147455, 409599, 999423, 2047999, 4194303, 8388607, 16777215] [(false, [], 4, 4), (false, [], 4, 4), (false, [], 4, 4), (false, [], 4, 4), (false, [], 4, 4), (false, [], 4, 4), (false, [], 4, 4), (false, [], 4, 4), (false, [], 4, 4), (true, [0, 1], 4, 4), (false, [], 4, 4), (false, [], 4, 4), (false, [], 4, 4), (false, [], 4, 4), (false, [], 4, 4), (true, [0, 1], 4, 4), (false, [], 4, 4), (false, [3], 4, 4), (false, [3], 4, 4), (false, [], 4, 4), (false, [], 4, 4), (false, [], 4, 4), (false, [], 4, 4), (false, [], 4, 4), (false, [], 4, 4)] = true := by decide
attribute [simp] cf_PLaw15_95c318ad
/-! CF -/
theorem awake07_fn (b : Bool) : fnX (cfg b) An 68 [] [] = some (.c (.bool true), []) := by
  rw [fnX_eq, p68_eq]
  have e := enc_leaf b [97] (some [120]) (by decide) (by decide) (by decide)
  rw [enc_ax, api_ax] at e
  have b1 : bytesAV [97] = [.int .u8 97] := rfl
  have b2 : bytesAV [120] = [.int .u8 120] := rfl
  have b3 : bytesAV [1, 0, 1, 97, 2, 0, 1, 120] = [.int .u8 1, .int .u8 0, .int .u8 1, .int .u8 97, .int .u8 2, .int .u8 0, .int .u8 1, .int .u8 120] := rfl
  rw [b1, b2, b3] at e
  have b4 : bytesC [.int .u8 1, .int .u8 0, .int .u8 1, .int .u8 97, .int .u8 2, .int .u8 0, .int .u8 1, .int .u8 120] = some [1, 0, 1, 97, 2, 0, 1, 120] := rfl
  simp only [List.reduceReplicate] at e
  simp [p68, v106, e, b4, frz38, frz66]
theorem awake07_call (b : Bool) : ∀ H, callX (cfg b) An 68 [] H = some (.c (.bool true), H) := callX_pure (awake07_fn b) rfl rfl (prim_none (by decide))
theorem growS_ndok (most : Nat) : ∀ (l : List ActL) (i : Nat) (s : GS), (∀ p ∈ s.2, NdOk p) → ∀ p ∈ (growS most l i s).2, NdOk p
  | [], i, s, h => h
  | a :: r, i, s, h => by
    unfold growS
    split
    · exact h
    · rename_i hc
      have hk : 0 < a.key.length := List.length_pos_iff.2 a.key_ne
      have hv : (pB (upto 100 a.val)).length ≤ 100 := by rw [pB_upto, List.length_take]; omega
      refine growS_ndok most r (i + 1) _ ?_
      split
      · intro p hp
        rcases putP_mem hp with rfl | hp
        · exact ⟨hk, by simp only; omega, by simp only; omega⟩
        · exact h p hp
      · intro p hp
        exact h p (List.mem_filter.1 hp).1
theorem api_form (t : Tn) : ∃ a b z d e, t.api = .agg [.sl 1 a, b, .int .i64 (t.ht : Int), .int .u64 z, .arr 32 .u8 d, .arr 32 .u8 e] ∧ b.size = 1 ∧ b.isAgg = false ∧ d.length = 32 ∧ e.length = 32 := by
  cases t with
  | leaf k v => exact ⟨_, _, _, _, _, rfl, csz_pV v, cag_pV v, by rw [len_dI]; rfl, by rw [len_dI]; rfl⟩
  | node l r => exact ⟨_, _, _, _, _, rfl, rfl, rfl, by rw [len_dI]; exact l.hash_len, by rw [len_dI]; exact r.hash_len⟩
set_option maxHeartbeats 8000000 in
theorem few_core (b : Bool) (o : Option (List ActL)) (P : CV) (k : List UInt8) (h0 : 0 < k.length) (h1 : k.length ≤ 96) (t : Option Tn) (u : Tn) (m1 m2 : Mp) (N1 N2 ht : Nat) (n1 : m1.length = N1) (n2 : m2.length = N2)
    (h12 : N1 ≤ N2) (hle : N2 ≤ N1 + 3 * ht + 3) (hN : N1 ≤ 1000000) (hh : ht ≤ 1000000) (R U : List Int) (hR : R.length = 32) (hU : U.length = 32) (A : List CV) (B : CV) (C : Int) (D E : List Int) (hB : B.size = 1) (hB2 : B.isAgg = false) (hD : D.length = 32) (hE : E.length = 32)
    (gc : ∀ H, callX (cfg b) An 39 [.c (actsC o), .c (.int .i64 60)] H = some (.tup [.c (tC t), .c P], H))
    (s1 : fnX (cfg b) An 70 [.ov 0 [] 0, .c (tC t)] (baH []) = some (.tup [.c (.arr 32 .u8 R), .c (.int .i64 0)], baH m1))
    (s2 : fnX (cfg b) An 70 [.ov 0 [] 0, .c (tC t)] (baH m1) = some (.tup [.c (.arr 32 .u8 R), .c (.int .i64 0)], baH m1))
    (s3 : fnX (cfg b) An 70 [.ov 0 [] 0, .c (tC (some u))] (baH m1) = some (.tup [.c (.arr 32 .u8 U), .c (.int .i64 0)], baH m2))
    (pc : fnX (cfg b) An 36 [.c (tC t), .c (.sl 1 (bytesAV k)), .c (.sl 1 [.int .u8 120])] [] = some (.tup [.c (tC (some u)), .c (.int .i64 0)], []))
    (nr : ∀ H, callX (cfg b) An 45 [.c (tC (some u)), .c .nilsl] H = some (.tup [.c (.agg [.sl 1 A, B, .int .i64 (ht : Int), .int .u64 C, .arr 32 .u8 D, .arr 32 .u8 E]), .c (.bool true)], H)) :
    fnX (cfg b) An 15 [.c (actsC o), .c (.sl 1 (bytesAV k))] [] = some (.c (.bool true), []) := by
  rw [fnX_eq, p15_eq]
  have c0 := awake07_call b
  have nw := bnew_fn b
  have l1 := blen_fn b m1
  have l2 := blen_fn b m2
  rw [n1] at l1
  rw [n2] at l2
  have hk0 : ¬ k.length = 0 := by omega
  have hk0' : ¬ k = [] := by intro h; subst h; simp at h0
  have hk1 : ¬ (96 : Int) < (k.length : Int) := by omega
  have h12I : (N1 : Int) ≤ (N2 : Int) := by omega
  have m3 : iMul .i64 3 (ht : Int) = ((3 * ht : Nat) : Int) := by
    unfold iMul; rw [i64_small (by omega) (by omega)]; omega
  have a1 : iAdd .i64 (N1 : Int) ((3 * ht : Nat) : Int) = ((N1 + 3 * ht : Nat) : Int) := by
    unfold iAdd; rw [i64_small (by omega) (by omega)]; omega
  have a2 : iAdd .i64 ((N1 + 3 * ht : Nat) : Int) 3 = ((N1 + 3 * ht + 3 : Nat) : Int) := by
    unfold iAdd; rw [i64_small (by omega) (by omega)]; omega
  have hleI : (N2 : Int) ≤ ((N1 + 3 * ht + 3 : Nat) : Int) := by omega
  simp only [baH] at nw l1 l2 s1 s2 s3
  generalize ((N1 + 3 * ht + 3 : Nat) : Int) = X3 at *
  generalize ((N1 + 3 * ht : Nat) : Int) = X2 at *
  generalize ((3 * ht : Nat) : Int) = X1 at *
  generalize tC t = T at *
  generalize tC (some u) = T2 at *
  generalize mC m1 = M1 at *
  generalize mC m2 = M2 at *
  simp (maxSteps := 1000000) [p15, p15_d0, c0, v69, v70, v71, v36, nw, l1, l2, s1, s2, s3, pc, nr, gc, hR, hU, hB, hB2, hD, hE, hk0, hk0', hk1, h12I, m3, a1, a2, hleI, frz164, frz38, frz66]
theorem few_bad (b : Bool) (o : Option (List ActL)) (k : Option (List UInt8)) (hk : (pB k).length = 0 ∨ 96 < (pB k).length) : fnX (cfg b) An 15 [.c (actsC o), .c (pV k)] [] = some (.c (.bool true), []) := by
  rw [fnX_eq, p15_eq]
  have c0 := awake07_call b
  have gc := grow_call b 60 (by decide) o
  have n60 : ((60 : Nat) : Int) = 60 := rfl
  rw [n60] at gc
  have lk := fun H => lenOf_pV H k
  rcases hk with hk | hk
  · have hkI : ((pB k).length : Int) = 0 := by omega
    have hk' : pB k = [] := List.length_eq_zero_iff.1 hk
    simp [p15, c0, gc, lk, hk, hk', hkI]
  · have hkI : (96 : Int) < ((pB k).length : Int) := by omega
    have hk2 : ¬ (pB k).length = 0 := by omega
    have hk3 : ¬ pB k = [] := by intro h; rw [h] at hk2; simp at hk2
    simp [p15, c0, gc, lk, hk, hk2, hk3, hkI]
theorem nodesFew_fn (b : Bool) (o : Option (List ActL)) (k : Option (List UInt8)) : fnX (cfg b) An 15 [.c (actsC o), .c (pV k)] [] = some (.c (.bool true), []) := by
  by_cases hk : (pB k).length = 0 ∨ 96 < (pB k).length
  · exact few_bad b o k hk
  · cases k with
    | none => exact absurd (.inl rfl) hk
    | some k =>
      have h0 : 0 < k.length := by simp only [pB_s] at hk; omega
      have h1 : k.length ≤ 96 := by simp only [pB_s] at hk; omega
      have gc := grow_call b 60 (by decide) o
      have hok := grown_ok 60 o
      have hlaw := grown_law 60 o
      have hnd := growS_ndok 60 (actsL o) 0 (none, []) (fun p hp => by simp at hp)
      have hg : growS 60 (actsL o) 0 (none, []) = grown 60 o := rfl
      rw [hg] at hnd
      have n60 : ((60 : Nat) : Int) = 60 := rfl
      rw [n60] at gc
      generalize grown 60 o = g at *
      obtain ⟨t, l⟩ := g
      have hlv := hlaw.leaves
      have hB0 := hlaw.bal
      have hsz := hok.sz
      have hft := hok.fit
      have hl60 := hok.len
      simp only at hlv hB0 hsz hft hl60 gc hnd
      have T1 : TrOk b t := ⟨hft, by omega, by rw [hlv]; exact hnd⟩
      obtain ⟨u, hu⟩ : ∃ u, u = Tn.puto k (some [120]) t := ⟨_, rfl⟩
      have hfu : ∀ x, some u = some x → x.fit := by
        intro x hx
        simp only [Option.some.injEq] at hx
        rw [← hx, hu]
        cases t with
        | none => exact ⟨by omega, by decide⟩
        | some t => exact Tn.fit_put (by omega) (by decide) t (hft t rfl)
      have hsu : Tn.szo (some u) ≤ 61 := by
        rw [hu]
        cases t with
        | none => simp [Tn.puto, Tn.szo, Tn.sz]
        | some t =>
          have := Tn.sz_put k (some [120]) t
          simp only [Tn.szo, Tn.puto] at hsz ⊢
          omega
      have hlu : ∀ p ∈ Tn.leaveso (some u), NdOk p := by
        intro p hp
        have hq : p = (k, some [120]) ∨ p ∈ Tn.leaveso t := by
          rw [hu] at hp
          cases t with
          | none => simp only [Tn.puto, Tn.leaveso, Tn.leaves, List.mem_singleton] at hp; exact .inl hp
          | some t =>
            simp only [Tn.puto, Tn.leaveso] at hp
            have hr : Rise t.leaves := by have := hlaw.rise; rw [← hlaw.leaves] at this; exact this
            rw [Tn.leaves_put _ _ _ hr] at hp
            exact putP_mem hp
        rcases hq with rfl | hq
        · exact ⟨h0, h1, (by decide : (pB (some [120])).length ≤ 256)⟩
        · rw [hlv] at hq; exact hnd p hq
      have T2 : TrOk b (some u) := ⟨hfu, by omega, hlu⟩
      have s1 := save_fn b t T1 []
      have s2 := save_fn b t T1 (saveM (Tn.nodesO t) [])
      rw [saveM_same _ _ (saveM_has _ _)] at s2
      have s3 := save_fn b (some u) T2 (saveM (Tn.nodesO t) [])
      have pc := Put_fn b k (some [120]) (List.length_pos_iff.1 h0) h1 (by decide) t (by intro x hx; rw [hx] at hsz; simp only [Tn.szo] at hsz; omega)
      rw [← hu] at pc
      have nr : ∀ H, callX (cfg b) An 45 [.c (tC (some u)), .c .nilsl] H = _ := callX_pure (Node_root b u (hfu u rfl)) rfl rfl (prim_none (by decide))
      obtain ⟨A, B, C, D, E, ha, hB, hB2, hD, hE⟩ := api_form u
      rw [ha] at nr
      have hf := few k (some [120]) t (fun x hx => hB0 x hx)
      rw [← hu] at hf
      have hht := Tn.ht_lt u
      have hm := saveM_all (Tn.nodesO t)
      have hl2 := saveM_len (Tn.nodesO (some u)) (saveM (Tn.nodesO t) [])
      have hnl : (Tn.nodesO t).length ≤ 2 * Tn.szo t := by
        cases t with
        | none => simp [Tn.nodesO, Tn.szo]
        | some t => have := t.nodesL_len; simp only [Tn.nodesO, Tn.szo]; omega
      have hlR : (dI (Tn.hasho t)).length = 32 := by
        rw [len_dI]
        cases t with
        | none => exact shaW_len _
        | some t => exact t.hash_len
      have hlU : (dI (Tn.hasho (some u))).length = 32 := by rw [len_dI]; exact u.hash_len
      simp only [Tn.szo] at hsu
      exact few_core b o _ k h0 h1 t u _ _ _ _ u.ht rfl rfl hl2.1 hf (by omega) (by omega) _ _ hlR hlU A B C D E hB hB2 hD hE gc s1 s2 s3 pc nr
end Go.Fm


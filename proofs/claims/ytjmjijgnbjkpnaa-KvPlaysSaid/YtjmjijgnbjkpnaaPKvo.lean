/-
  A part of the proof: PKvo.
-/
import Derived.Test.YtjmjijgnbjkpnaaPKv4
set_option linter.all false
set_option autoImplicit true
/-
  A store's Put of a key that stays the caller's.
-/
set_option autoImplicit false
set_option maxRecDepth 100000
set_option linter.unusedVariables false
set_option linter.unusedSimpArgs false
namespace Go.Fm
open Go Go.Proofs
theorem hcO1 {b : Bool} {H : Heap} {id : Nat} : handCs (cfg b) true H [.os id] = some ([.os id], H) := by simp [handCs, handC]
theorem hcO2 {b : Bool} {H : Heap} {id : Nat} {v : CV} : handCs (cfg b) true H [.c v, .os id] = some ([.c v, .os id], H) := by simp [handCs, handC]
theorem clone_o {b : Bool} {k : List UInt8} {id : Nat} {H : Heap} {t : TypeId} (hk : k.length ≤ 140737488355328) (h : H[id]? = some (.row t 1 (bytesAV k))) : callX (cfg b) An 35 [.os id] H = some (.c (.sl 1 (bytesAV k)), H) := by
  rw [callX_prim (p := cloneP) (by rfl), show (cfg b).keepA 35 = true from rfl, hcO1]
  have hl : (bytesAV k).length ≤ 140737488355328 := by simpa [bytesAV] using hk
  simp [cloneP, elemsOf, rowOf, h, bytesC_av, hl, hk]
theorem clone_o1 (b : Bool) (k : List UInt8) (hk : k.length ≤ 140737488355328) (x : Blk) (R : Heap) : callX (cfg b) An 35 [.os 1] (x :: .row 5 1 (bytesAV k) :: R) = some (.c (.sl 1 (bytesAV k)), x :: .row 5 1 (bytesAV k) :: R) := clone_o hk rfl
theorem clone_o2 (b : Bool) (k : List UInt8) (hk : k.length ≤ 140737488355328) (x y : Blk) (R : Heap) : callX (cfg b) An 35 [.os 2] (x :: y :: .row 5 1 (bytesAV k) :: R) = some (.c (.sl 1 (bytesAV k)), x :: y :: .row 5 1 (bytesAV k) :: R) := clone_o hk rfl
theorem compare_o0 (b : Bool) (x y : List UInt8) (R : Heap) : callX (cfg b) An 45 [.c (.sl 1 (bytesAV x)), .os 0] (.row 5 1 (bytesAV y) :: R) = some (.c (.int .i64 (cmpZ x y)), .row 5 1 (bytesAV y) :: R) := by
  rw [callX_prim (p := compareP) (by rfl), show (cfg b).keepA 45 = true from rfl, hcO2]
  simp only [compareP, bE, elemsOf, rowOf, if_true, bytesC_av, List.getElem?_cons_zero]
  rfl
theorem v44 {b : Bool} {H : Heap} {vs : List AV} : callX (cfg b) An 44 vs H = cvw (fnX (cfg b) An 44) (handCs (cfg b) true H vs) := callX_v (prim_none (by decide))
theorem len_av (k : List UInt8) : (bytesAV k).length = k.length := by simp [bytesAV]
theorem cf_PKvo_772949e4 : clashFree [0, 0, 2, 6, 14, 0, 0, 64, 254, 511, 1023, 2047] [(false, [], 3, 3), (false, [], 3, 3), (false, [0], 3, 3), (false, [0], 3, 3), (false, [0], 3, 3), (false, [], 3, 3), (false, [2], 3, 3), (false, [], 3, 4), (true, [3], 4, 5), (false, [0], 5, 5), (false, [0], 5, 5), (true, [0, 4], 5, 5)] = true := by decide
attribute [simp] cf_PKvo_772949e4
theorem cf_PKvo_9501ece9 : clashFree [0, 0, 2, 6, 14, 0, 0, 64, 254, 511, 1023, 2047] [(false, [], 4, 4), (false, [], 4, 4), (false, [0, 2], 4, 4), (false, [0, 2], 4, 4), (false, [0, 2], 4, 4), (false, [], 4, 4), (false, [3], 4, 4), (false, [], 4, 5), (true, [2, 4], 5, 6), (false, [0, 2], 6, 6), (false, [0, 2], 6, 6), (true, [0, 2, 5], 6, 6)] = true := by decide
attribute [simp] cf_PKvo_9501ece9
theorem cf_PKvo_35157108 : clashFree [0, 0, 2, 6, 14, 0, 0, 64, 254, 511, 1023, 2047] [(false, [], 4, 4), (false, [], 4, 4), (false, [0], 4, 4), (false, [0], 4, 4), (false, [0], 4, 4), (false, [], 4, 4), (false, [3], 4, 4), (false, [], 4, 5), (true, [4], 5, 6), (false, [0], 6, 6), (false, [0], 6, 6), (true, [0, 5], 6, 6)] = true := by decide
attribute [simp] cf_PKvo_35157108
theorem cf_PKvo_472b128e : clashFree [0, 0, 2, 6, 14, 0, 0, 64, 254, 511, 1023, 2047] [(false, [], 5, 5), (false, [], 5, 5), (false, [0, 3], 5, 5), (false, [0, 3], 5, 5), (false, [0, 3], 5, 5), (false, [], 5, 5), (false, [4], 5, 5), (false, [], 5, 6), (true, [3, 5], 6, 7), (false, [0, 3], 7, 7), (false, [0, 3], 7, 7), (true, [0, 3, 6], 7, 7)] = true := by decide
attribute [simp] cf_PKvo_472b128e
/-! CF -/
theorem cmpO_fn (b : Bool) (p : Pr) (k : List UInt8) : fnX (cfg b) An 44 [.c (prC p), .os 0] [.row 5 1 (bytesAV k)] = some (.c (.int .i64 (cmpZ p.1 k)), [.row 5 1 (bytesAV k)]) := by
  rw [fnX_eq, p44_eq]
  have cc := compare_o0 b p.1 k
  simp [p44, cc, gp_k, op_k, csz_prC, cag_prC]
def seSO (l : List Pr) (k : List UInt8) (i j : Int) : List AV := [.os 0, .os 1, .c (.fn 44), .c (.int .i64 (l.length : Int)), .c (.int .i64 i), .c (.int .i64 j)]
def seHO (l : List Pr) (k : List UInt8) : Heap := [.row 59 2 (l.map prC), .row 5 1 (bytesAV k)]
theorem seO_step (b : Bool) (l : List Pr) (k : List UInt8) (hm : l.length ≤ 1000000) (hr : Rise l) (i j : Nat) (hij : i < j) (hj : j ≤ l.length) :
    loopX 2 (p43_l0 b (callX (cfg b) An) 2) (seSO l k i j) (seHO l k) =
      if (i + j) / 2 < posK k l then loopX 2 (p43_l0 b (callX (cfg b) An) 2) (seSO l k (((i + j) / 2 + 1 : Nat) : Int) j) (seHO l k) else loopX 2 (p43_l0 b (callX (cfg b) An) 2) (seSO l k i (((i + j) / 2 : Nat) : Int)) (seHO l k) := by
  obtain ⟨h, hh⟩ : ∃ h, h = (i + j) / 2 := ⟨_, rfl⟩
  have hlt : h < l.length := by omega
  obtain ⟨s, hs⟩ : ∃ s, s = i + j := ⟨_, rfl⟩
  have e1 : iAdd .i64 (i : Int) (j : Int) = (s : Int) := by unfold iAdd; rw [i64_small (by omega) (by omega)]; omega
  have e2 := mid_eq s (by omega)
  rw [hs, ← hh] at e2
  rw [← hs] at e2
  have e3 : iAdd .i64 (h : Int) 1 = ((h + 1 : Nat) : Int) := by unfold iAdd; rw [i64_small (by omega) (by omega)]; omega
  have hn : nthC (l.map prC) h = prC (l.getD h default) := nthC_map default hlt
  have hat := posK_at k hr h hlt
  have cc := cmpO_fn b (l.getD h default) k
  have hlt' := cmpZ_lt (l.getD h default).1 k
  have hijI : (i : Int) < (j : Int) := by omega
  have hhI : (h : Int) < (l.length : Int) := by omega
  unfold ltk at hat
  rw [hat] at hlt'
  rw [← hh, loopX_eq]
  generalize l.getD h default = q at *
  by_cases hp : h < posK k l
  · rw [if_pos hp]
    have hc : cmpZ q.1 k < 0 := by simpa [hp] using hlt'
    simp only [seSO, seHO]
    simp [p43_l0, hijI, e1, e2, e3, hlt, hhI, hn, csz_prC, cag_prC, v44, cc, hc]
  · rw [if_neg hp]
    have hc : ¬ cmpZ q.1 k < 0 := by simpa [hp] using hlt'
    simp only [seSO, seHO]
    simp [p43_l0, hijI, e1, e2, e3, hlt, hhI, hn, csz_prC, cag_prC, v44, cc, hc]
theorem seO_loop (b : Bool) (l : List Pr) (k : List UInt8) (hm : l.length ≤ 1000000) (hr : Rise l) : ∀ (n i j : Nat), j - i ≤ n → i ≤ posK k l → posK k l ≤ j → j ≤ l.length →
    loopX 2 (p43_l0 b (callX (cfg b) An) 2) (seSO l k i j) (seHO l k) = some (.exit 0 [.os 0, .os 1, .c (.fn 44), .c (.int .i64 (l.length : Int)), .c (.int .i64 (posK k l : Int))], seHO l k)
  | n, i, j, hn, h1, h2, h3 => by
    by_cases hij : i < j
    · rw [seO_step b l k hm hr i j hij h3]
      cases n with
      | zero => omega
      | succ n =>
        by_cases hp : (i + j) / 2 < posK k l
        · rw [if_pos hp]
          exact seO_loop b l k hm hr n ((i + j) / 2 + 1) j (by omega) (by omega) h2 h3
        · rw [if_neg hp]
          exact seO_loop b l k hm hr n i ((i + j) / 2) (by omega) h1 (by omega) (by omega)
    · have : i = posK k l := by omega
      have hj : j = posK k l := by omega
      subst this
      rw [hj]
      rw [loopX_eq]
      simp only [seSO, seHO]
      simp [p43_l0]
theorem searchO_fn (b : Bool) (l : List Pr) (k : List UInt8) (hm : l.length ≤ 1000000) (hr : Rise l) :
    fnX (cfg b) An 43 [.os 0, .os 1, .c (.fn 44)] (seHO l k) = some (.tup [.c (.int .i64 (posK k l : Int)), .c (.bool (isK k l))], seHO l k) := by
  rw [fnX_eq, p43_eq]
  have lp := seO_loop b l k hm hr l.length 0 l.length (by omega) (by omega) (posK_le k l) (Nat.le_refl _)
  have z0 : ((0 : Nat) : Int) = 0 := rfl
  rw [z0] at lp
  have hcz := cmpZ_eq (l.getD (posK k l) default).1 k
  unfold isK
  by_cases h : posK k l < l.length
  · have hI : (posK k l : Int) < (l.length : Int) := by omega
    have hn : nthC (l.map prC) (posK k l) = prC (l.getD (posK k l) default) := nthC_map default h
    have cc := cmpO_fn b (l.getD (posK k l) default) k
    generalize l.getD (posK k l) default = q at *
    simp only [seSO, seHO] at lp ⊢
    simp [p43, lp, h, hI, hn, v44, cc, csz_prC, cag_prC, hcz]
  · have hI : ¬ (posK k l : Int) < (l.length : Int) := by omega
    simp only [seSO, seHO] at lp ⊢
    simp [p43, lp, h, hI]
theorem searchO_nil (b : Bool) (k : List UInt8) : fnX (cfg b) An 43 [.c .nilsl, .os 0, .c (.fn 44)] [.row 5 1 (bytesAV k)] = some (.tup [.c (.int .i64 0), .c (.bool false)], [.row 5 1 (bytesAV k)]) := by
  rw [fnX_eq, p43_eq]
  have lp : loopX 1 (p43_l0 b (callX (cfg b) An) 1) [.c .nilsl, .os 0, .c (.fn 44), .c (.int .i64 0), .c (.int .i64 0), .c (.int .i64 0)] [.row 5 1 (bytesAV k)] = some (.exit 0 [.c .nilsl, .os 0, .c (.fn 44), .c (.int .i64 0), .c (.int .i64 0)], [.row 5 1 (bytesAV k)]) := by
    rw [loopX_eq]
    simp [p43_l0]
  simp [p43, lp]
def kvEO (R : Heap) : Heap := .var 82 (.c (.agg [.nilsl])) :: R
def kvHO (j : Nat) (R : Heap) (l : List Pr) : Heap := .var 82 (.agg [.os j]) :: (R ++ [.row 59 2 (l.map prC)])
def kvDO (j : Nat) (R : Heap) (l : List Pr) : Heap := .var 82 (.agg [.os (j + 1)]) :: (R ++ [.dead, .row 59 2 (l.map prC)])
theorem kfindO_fn (b : Bool) (l : List Pr) (k : List UInt8) (hm : l.length ≤ 1000000) (hr : Rise l) :
    fnX (cfg b) An 36 [.ov 0 [] 0, .os 1] (kvHO 2 [.row 5 1 (bytesAV k)] l) = some (.tup [.c (.int .i64 (posK k l : Int)), .c (.bool (isK k l))], kvHO 2 [.row 5 1 (bytesAV k)] l) := by
  rw [fnX_eq, p36_eq]
  have se := searchO_fn b l k hm hr
  simp only [seHO, kvHO, List.cons_append, List.nil_append] at se ⊢
  simp [p36, v43, se, frz82]
theorem kfindO_nil (b : Bool) (k : List UInt8) : fnX (cfg b) An 36 [.ov 0 [] 0, .os 1] (kvEO [.row 5 1 (bytesAV k)]) = some (.tup [.c (.int .i64 0), .c (.bool false)], kvEO [.row 5 1 (bytesAV k)]) := by
  rw [fnX_eq, p36_eq]
  have se := searchO_nil b k
  simp only [kvEO] at se ⊢
  simp [p36, v43, se, frz82]
set_option maxHeartbeats 8000000 in
theorem kvputO_nil (b : Bool) (k : List UInt8) (v : Option (List UInt8)) (h1 : 0 < k.length) (h2 : k.length ≤ 96) (h3 : (pB v).length ≤ 256) :
    fnX (cfg b) An 17 [.ov 0 [] 0, .os 1, .c (pV v)] (kvEO [.row 5 1 (bytesAV k)]) = some (.c (.int .i64 0), .var 82 (.agg [.os 2]) :: ([.row 5 1 (bytesAV k)] ++ [.row 59 2 [prC (k, v)]])) := by
  rw [fnX_eq, p17_eq]
  have fd := kfindO_nil b k
  have hk0 : ¬ k.length = 0 := by omega
  have hk1 : ¬ (96 : Int) < (k.length : Int) := by omega
  have hv1 : ¬ (256 : Int) < ((pB v).length : Int) := by omega
  have c1 := clone_o1 b k (by omega)
  have c2 := clone_call b v (by omega)
  have hp : prC (k, v) = .agg [.sl 1 (bytesAV k), pV v] := rfl
  have m1 : 1 ≤ maxLen := big_max (by decide)
  have hk2 : ¬ k = [] := by intro h; subst h; simp at h1
  simp only [kvEO, List.cons_append, List.nil_append, hp] at fd ⊢
  simp [p17, p17_d0, p17_d1, be45, hk0, hk1, hk2, hv1, c1, c2, v36, fd, v37, lenOf_pV, csz_pV, cag_pV, len_av, frz82, frz59, m1]
set_option maxHeartbeats 8000000 in
theorem kvputO_set (b : Bool) (l : List Pr) (hm : l.length ≤ 1000000) (hr : Rise l) (k : List UInt8) (v : Option (List UInt8)) (h1 : 0 < k.length) (h2 : k.length ≤ 96) (h3 : (pB v).length ≤ 256) (hk : isK k l = true) :
    fnX (cfg b) An 17 [.ov 0 [] 0, .os 1, .c (pV v)] (kvHO 2 [.row 5 1 (bytesAV k)] l) = some (.c (.int .i64 0), kvHO 2 [.row 5 1 (bytesAV k)] (putP k v l)) := by
  rw [fnX_eq, p17_eq]
  have fd := kfindO_fn b l k hm hr
  rw [hk] at fd
  have hk0 : ¬ k.length = 0 := by omega
  have hk1 : ¬ (96 : Int) < (k.length : Int) := by omega
  have hv1 : ¬ (256 : Int) < ((pB v).length : Int) := by omega
  have c1 := clone_o1 b k (by omega)
  have c2 := clone_call b v (by omega)
  have hp : prC (k, v) = .agg [.sl 1 (bytesAV k), pV v] := rfl
  have hk2 : ¬ k = [] := by intro h; subst h; simp at h1
  obtain ⟨q, r, hd, hq, hlt⟩ := isK_split hk
  have hI : (posK k l : Int) < (l.length : Int) := by omega
  have hn : nthC (l.map prC) (posK k l) = prC (l.getD (posK k l) default) := nthC_map default hlt
  have hset : (l.map prC).set (posK k l) (.agg [.sl 1 (bytesAV k), pV v]) = (putP k v l).map prC := by rw [putP_set hk, List.map_set, hp]
  generalize posK k l = n at *
  generalize putP k v l = L at *
  generalize l.getD n default = q' at *
  simp only [kvHO, List.cons_append, List.nil_append] at fd ⊢
  simp [p17, p17_d0, p17_d1, be45, hk0, hk1, hk2, hv1, c1, c2, v36, fd, hlt, hI, hn, hset, csz_prC, cag_prC, lenOf_pV, csz_pV, cag_pV, len_av, frz82, frz59]
set_option maxHeartbeats 8000000 in
theorem kvputO_ins (b : Bool) (l : List Pr) (hm : l.length ≤ 1000000) (hr : Rise l) (k : List UInt8) (v : Option (List UInt8)) (h1 : 0 < k.length) (h2 : k.length ≤ 96) (h3 : (pB v).length ≤ 256) (hk : isK k l = false) :
    fnX (cfg b) An 17 [.ov 0 [] 0, .os 1, .c (pV v)] (kvHO 2 [.row 5 1 (bytesAV k)] l) = some (.c (.int .i64 0), kvDO 2 [.row 5 1 (bytesAV k)] (putP k v l)) := by
  rw [fnX_eq, p17_eq]
  have fd := kfindO_fn b l k hm hr
  rw [hk] at fd
  have hk0 : ¬ k.length = 0 := by omega
  have hk1 : ¬ (96 : Int) < (k.length : Int) := by omega
  have hv1 : ¬ (256 : Int) < ((pB v).length : Int) := by omega
  have c1 := clone_o1 b k (by omega)
  have c2 := clone_call b v (by omega)
  have hp : prC (k, v) = .agg [.sl 1 (bytesAV k), pV v] := rfl
  have hk2 : ¬ k = [] := by intro h; subst h; simp at h1
  have hle := posK_le k l
  have hI : (posK k l : Int) ≤ (l.length : Int) := by omega
  have m1 : l.length + 1 ≤ maxLen := big_max (by omega)
  have m2 : (l.length + 1) * 48 ≤ 140737488355328 := by omega
  have hset : (l.map prC).take (posK k l) ++ CV.agg [.sl 1 (bytesAV k), pV v] :: (l.map prC).drop (posK k l) = (putP k v l).map prC := by rw [putP_ins hk, List.map_append, List.map_cons, List.map_take, List.map_drop, hp]
  generalize posK k l = n at *
  generalize putP k v l = L at *
  simp only [kvHO, kvDO, List.cons_append, List.nil_append] at fd ⊢
  generalize hM : l.map prC = M at *
  have hMl : M.length = l.length := by rw [← hM]; simp
  simp [p17, p17_d0, p17_d1, be45, hk0, hk1, hk2, hv1, c1, c2, v36, v37, fd, hle, hI, hMl, hset, m1, m2, lenOf_pV, csz_pV, cag_pV, len_av, frz82, frz59]
set_option maxHeartbeats 8000000 in
theorem kvputP_nil (b : Bool) (k : List UInt8) (w : List UInt8) (h1 : 0 < k.length) (h2 : k.length ≤ 96) (h3 : w.length ≤ 256) :
    fnX (cfg b) An 17 [.ov 0 [] 0, .os 1, .os 2] (kvEO [.row 5 1 (bytesAV k), .row 5 1 (bytesAV w)]) = some (.c (.int .i64 0), .var 82 (.agg [.os 3]) :: ([.row 5 1 (bytesAV k), .row 5 1 (bytesAV w)] ++ [.row 59 2 [prC (k, (some w))]])) := by
  rw [fnX_eq, p17_eq]
  have fd := kfindO_nil b k
  have hk0 : ¬ k.length = 0 := by omega
  have hk1 : ¬ (96 : Int) < (k.length : Int) := by omega
  have hv1 : ¬ (256 : Int) < (w.length : Int) := by omega
  have c1 := clone_o1 b k (by omega)
  have c2 := clone_o2 b w (by omega)
  have hp : prC (k, some w) = .agg [.sl 1 (bytesAV k), .sl 1 (bytesAV w)] := rfl
  have m1 : 1 ≤ maxLen := big_max (by decide)
  have hk2 : ¬ k = [] := by intro h; subst h; simp at h1
  simp only [kvEO, List.cons_append, List.nil_append, hp] at fd ⊢
  simp [p17, p17_d0, p17_d1, be45, hk0, hk1, hk2, hv1, c1, c2, v36, fd, v37, lenOf_pV, csz_pV, cag_pV, len_av, frz82, frz59, m1]
set_option maxHeartbeats 8000000 in
theorem kvputP_ins (b : Bool) (l : List Pr) (hm : l.length ≤ 1000000) (hr : Rise l) (k : List UInt8) (w : List UInt8) (h1 : 0 < k.length) (h2 : k.length ≤ 96) (h3 : w.length ≤ 256) (hk : isK k l = false) :
    fnX (cfg b) An 17 [.ov 0 [] 0, .os 1, .os 2] (kvHO 3 [.row 5 1 (bytesAV k), .row 5 1 (bytesAV w)] l) = some (.c (.int .i64 0), kvDO 3 [.row 5 1 (bytesAV k), .row 5 1 (bytesAV w)] (putP k (some w) l)) := by
  rw [fnX_eq, p17_eq]
  have fd := kfindO_fn b l k hm hr
  rw [hk] at fd
  have hk0 : ¬ k.length = 0 := by omega
  have hk1 : ¬ (96 : Int) < (k.length : Int) := by omega
  have hv1 : ¬ (256 : Int) < (w.length : Int) := by omega
  have c1 := clone_o1 b k (by omega)
  have c2 := clone_o2 b w (by omega)
  have hp : prC (k, some w) = .agg [.sl 1 (bytesAV k), .sl 1 (bytesAV w)] := rfl
  have hk2 : ¬ k = [] := by intro h; subst h; simp at h1
  have hle := posK_le k l
  have hI : (posK k l : Int) ≤ (l.length : Int) := by omega
  have m1 : l.length + 1 ≤ maxLen := big_max (by omega)
  have m2 : (l.length + 1) * 48 ≤ 140737488355328 := by omega
  have hset : (l.map prC).take (posK k l) ++ CV.agg [.sl 1 (bytesAV k), .sl 1 (bytesAV w)] :: (l.map prC).drop (posK k l) = (putP k (some w) l).map prC := by rw [putP_ins hk, List.map_append, List.map_cons, List.map_take, List.map_drop, hp]
  generalize posK k l = n at *
  generalize putP k (some w) l = L at *
  simp only [kvHO, kvDO, List.cons_append, List.nil_append] at fd ⊢
  generalize hM : l.map prC = M at *
  have hMl : M.length = l.length := by rw [← hM]; simp
  simp [p17, p17_d0, p17_d1, be45, hk0, hk1, hk2, hv1, c1, c2, v36, v37, fd, hle, hI, hMl, hset, m1, m2, lenOf_pV, csz_pV, cag_pV, len_av, frz82, frz59]
end Go.Fm

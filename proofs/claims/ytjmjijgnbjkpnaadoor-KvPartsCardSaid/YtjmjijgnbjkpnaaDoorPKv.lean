/-
  A part of the proof: PKv.
-/
import Derived.Test.YtjmjijgnbjkpnaaDoorPRefs
import Derived.Test.YtjmjijgnbjkpnaaDoorPLawT1
import Derived.Test.YtjmjijgnbjkpnaaDoorDMisc2
import Derived.Test.YtjmjijgnbjkpnaaDoorPWords
import Derived.Test.YtjmjijgnbjkpnaaDoorPLaw14
set_option linter.all false
set_option autoImplicit true
/-
  kv: where a key stands.
-/
set_option maxRecDepth 100000
set_option linter.unusedVariables false
set_option linter.unusedSimpArgs false
namespace Go.Fm
open Go Go.Proofs

theorem cmp_fn (b : Bool) (p : Pr) (k : List UInt8) : fnX (cfg b) An 135 [.c (prC p), .c (.sl 1 (bytesAV k))] [] = some (.c (.int .i64 (cmpZ p.1 k)), []) := by
  rw [fnX_eq, p135_eq]
  have cc := compare_call b p.1 k
  simp [p135, cc, gp_k, op_k, csz_prC, cag_prC]
theorem cmp_call (b : Bool) (p : Pr) (k : List UInt8) (H : Heap) : callX (cfg b) An 135 [.c (prC p), .c (.sl 1 (bytesAV k))] H = some (.c (.int .i64 (cmpZ p.1 k)), H) := callX_pure (cmp_fn b p k) rfl rfl (prim_none (by decide)) H
def posK (k : List UInt8) (l : List Pr) : Nat := (l.takeWhile (ltk k)).length
theorem posK_le (k : List UInt8) (l : List Pr) : posK k l ≤ l.length := (List.takeWhile_sublist _).length_le
theorem posK_at (k : List UInt8) : ∀ {l : List Pr}, Rise l → ∀ i, i < l.length → ltk k (l.getD i default) = decide (i < posK k l)
  | [], _, i, h => by simp at h
  | p :: l, hr, i, h => by
    have hr' : Rise l := (List.pairwise_cons.1 hr).2
    have hall := (List.pairwise_cons.1 hr).1
    unfold posK
    by_cases hp : ltk k p = true
    · rw [List.takeWhile_cons_of_pos hp]
      cases i with
      | zero => simp [hp]
      | succ i =>
        have := posK_at k hr' i (by simpa using h)
        simp only [List.getD_cons_succ, List.length_cons, this]
        unfold posK
        by_cases hi : i < (l.takeWhile (ltk k)).length
        · simp [hi]
        · simp [hi]
    · rw [List.takeWhile_cons_of_neg hp]
      have hp' : ltk k p = false := by simpa using hp
      cases i with
      | zero => simp [hp']
      | succ i =>
        have hi : i < l.length := by simpa using h
        have hm : l.getD i default ∈ l := by rw [List.getD_eq_getElem?_getD, List.getElem?_eq_getElem hi]; exact List.getElem_mem _
        simp only [List.getD_cons_succ, List.length_nil, Nat.not_lt_zero, decide_false]
        have h1 := hall _ hm
        unfold ltk at hp' ⊢
        cases hc : Op.bytesLess (l.getD i default).1 k with
        | false => rfl
        | true => rw [bl_trans h1 hc] at hp'; cases hp'
def seS (l : List Pr) (k : List UInt8) (i j : Int) : List AV := [.os 0, .c (.sl 1 (bytesAV k)), .c (.fn 135), .c (.int .i64 (l.length : Int)), .c (.int .i64 i), .c (.int .i64 j)]
def seH (l : List Pr) : Heap := [.row 97 2 (l.map prC)]
theorem mid_eq (n : Nat) (h : n < 4000000) : IntKind.i64.wrap (iShr .u64 (IntKind.u64.wrap (n : Int)) 1) = ((n / 2 : Nat) : Int) := by
  rw [u64_small (by omega) (by omega)]
  unfold iShr
  have e : (2 : Int) ^ (min (1 : Int).toNat IntKind.u64.bits) = 2 := by decide
  rw [e, Int.fdiv_eq_ediv_of_nonneg _ (by decide)]
  have : ((n : Int)) / 2 = ((n / 2 : Nat) : Int) := by omega
  rw [this]
  exact i64_small (by omega) (by omega)
theorem se_step (b : Bool) (l : List Pr) (k : List UInt8) (hm : l.length ≤ 1000000) (hr : Rise l) (i j : Nat) (hij : i < j) (hj : j ≤ l.length) :
    loopX 1 (p134_l0 b (callX (cfg b) An) 1) (seS l k i j) (seH l) =
      if (i + j) / 2 < posK k l then loopX 1 (p134_l0 b (callX (cfg b) An) 1) (seS l k (((i + j) / 2 + 1 : Nat) : Int) j) (seH l) else loopX 1 (p134_l0 b (callX (cfg b) An) 1) (seS l k i (((i + j) / 2 : Nat) : Int)) (seH l) := by
  obtain ⟨h, hh⟩ : ∃ h, h = (i + j) / 2 := ⟨_, rfl⟩
  have hlt : h < l.length := by omega
  obtain ⟨s, hs⟩ : ∃ s, s = i + j := ⟨_, rfl⟩
  have e1 : iAdd .i64 (i : Int) (j : Int) = (s : Int) := by unfold iAdd; rw [i64_small (by omega) (by omega)]; omega
  have e2 := mid_eq s (by omega)
  rw [hs, ← hh] at e2
  rw [← hs] at e2
  have e3 : iAdd .i64 (h : Int) 1 = ((h + 1 : Nat) : Int) := by unfold iAdd; rw [i64_small (by omega) (by omega)]; omega
  have hn : nthC (l.map prC) h = prC (l.getD h default) := nthC_map default hlt
  have hat := posK_at k hr h hlt
  have cc := cmp_call b (l.getD h default) k
  have hlt' := cmpZ_lt (l.getD h default).1 k
  have hijI : (i : Int) < (j : Int) := by omega
  have hhI : (h : Int) < (l.length : Int) := by omega
  unfold ltk at hat
  rw [hat] at hlt'
  rw [← hh, loopX_eq]
  generalize l.getD h default = q at *
  by_cases hp : h < posK k l
  · rw [if_pos hp]
    have hc : cmpZ q.1 k < 0 := by simpa [hp] using hlt'
    simp only [seS, seH]
    simp [p134_l0, hijI, e1, e2, e3, hlt, hhI, hn, csz_prC, cag_prC, cc, hc]
  · rw [if_neg hp]
    have hc : ¬ cmpZ q.1 k < 0 := by simpa [hp] using hlt'
    simp only [seS, seH]
    simp [p134_l0, hijI, e1, e2, e3, hlt, hhI, hn, csz_prC, cag_prC, cc, hc]
theorem se_loop (b : Bool) (l : List Pr) (k : List UInt8) (hm : l.length ≤ 1000000) (hr : Rise l) : ∀ (n i j : Nat), j - i ≤ n → i ≤ posK k l → posK k l ≤ j → j ≤ l.length →
    loopX 1 (p134_l0 b (callX (cfg b) An) 1) (seS l k i j) (seH l) = some (.exit 0 [.os 0, .c (.sl 1 (bytesAV k)), .c (.fn 135), .c (.int .i64 (l.length : Int)), .c (.int .i64 (posK k l : Int))], seH l)
  | n, i, j, hn, h1, h2, h3 => by
    by_cases hij : i < j
    · rw [se_step b l k hm hr i j hij h3]
      cases n with
      | zero => omega
      | succ n =>
        by_cases hp : (i + j) / 2 < posK k l
        · rw [if_pos hp]
          exact se_loop b l k hm hr n ((i + j) / 2 + 1) j (by omega) (by omega) h2 h3
        · rw [if_neg hp]
          exact se_loop b l k hm hr n i ((i + j) / 2) (by omega) h1 (by omega) (by omega)
    · have : i = posK k l := by omega
      have hj : j = posK k l := by omega
      subst this
      rw [hj]
      rw [loopX_eq]
      simp only [seS, seH]
      simp [p134_l0]
/-- Does a key stand where it would? -/
def isK (k : List UInt8) (l : List Pr) : Bool := decide (posK k l < l.length) && ((l.getD (posK k l) default).1 == k)
theorem cmpZ_eq (x y : List UInt8) : (cmpZ x y == 0) = (x == y) := by
  unfold cmpZ
  by_cases h1 : Op.bytesLess x y = true
  · have hne : x ≠ y := bl_ne h1
    simp [h1, hne]
  · by_cases h2 : x = y
    · subst h2; simp [h1]
    · simp [h1, h2]
theorem search_fn (b : Bool) (l : List Pr) (k : List UInt8) (hm : l.length ≤ 1000000) (hr : Rise l) :
    fnX (cfg b) An 134 [.os 0, .c (.sl 1 (bytesAV k)), .c (.fn 135)] (seH l) = some (.tup [.c (.int .i64 (posK k l : Int)), .c (.bool (isK k l))], seH l) := by
  rw [fnX_eq, p134_eq]
  have lp := se_loop b l k hm hr l.length 0 l.length (by omega) (by omega) (posK_le k l) (Nat.le_refl _)
  have z0 : ((0 : Nat) : Int) = 0 := rfl
  rw [z0] at lp
  have hcz := cmpZ_eq (l.getD (posK k l) default).1 k
  unfold isK
  by_cases h : posK k l < l.length
  · have hI : (posK k l : Int) < (l.length : Int) := by omega
    have hn : nthC (l.map prC) (posK k l) = prC (l.getD (posK k l) default) := nthC_map default h
    have cc := cmp_call b (l.getD (posK k l) default) k
    generalize l.getD (posK k l) default = q at *
    simp only [seS, seH] at lp ⊢
    simp [p134, lp, h, hI, hn, cc, csz_prC, cag_prC, hcz]
  · have hI : ¬ (posK k l : Int) < (l.length : Int) := by omega
    simp only [seS, seH] at lp ⊢
    simp [p134, lp, h, hI]
theorem search_nil (b : Bool) (k : List UInt8) : fnX (cfg b) An 134 [.c .nilsl, .c (.sl 1 (bytesAV k)), .c (.fn 135)] [] = some (.tup [.c (.int .i64 0), .c (.bool false)], []) := by
  rw [fnX_eq, p134_eq]
  have lp : loopX 0 (p134_l0 b (callX (cfg b) An) 0) [.c .nilsl, .c (.sl 1 (bytesAV k)), .c (.fn 135), .c (.int .i64 0), .c (.int .i64 0), .c (.int .i64 0)] [] = some (.exit 0 [.c .nilsl, .c (.sl 1 (bytesAV k)), .c (.fn 135), .c (.int .i64 0), .c (.int .i64 0)], []) := by
    rw [loopX_eq]
    simp [p134_l0]
  simp [p134, lp]
theorem v134 {b : Bool} {H : Heap} {vs : List AV} : callX (cfg b) An 134 vs H = cvw (fnX (cfg b) An 134) (handCs (cfg b) true H vs) := callX_v (prim_none (by decide))
theorem frz177 {b : Bool} : (cfg b).frz 177 = false := rfl
theorem frz97 {b : Bool} : (cfg b).frz 97 = false := rfl
/-- A store. -/
def kvE : Heap := [.var 177 (.c (.agg [.nilsl]))]
def kvH (l : List Pr) : Heap := [.var 177 (.agg [.os 1]), .row 97 2 (l.map prC)]
theorem kfind_fn (b : Bool) (l : List Pr) (k : List UInt8) (hm : l.length ≤ 1000000) (hr : Rise l) :
    fnX (cfg b) An 112 [.ov 0 [] 0, .c (.sl 1 (bytesAV k))] (kvH l) = some (.tup [.c (.int .i64 (posK k l : Int)), .c (.bool (isK k l))], kvH l) := by
  rw [fnX_eq, p112_eq]
  have se := search_fn b l k hm hr
  simp only [seH, kvH] at se ⊢
  simp [p112, v134, se, frz177]
theorem kfind_nil (b : Bool) (k : List UInt8) : fnX (cfg b) An 112 [.ov 0 [] 0, .c (.sl 1 (bytesAV k))] kvE = some (.tup [.c (.int .i64 0), .c (.bool false)], kvE) := by
  rw [fnX_eq, p112_eq]
  have se := search_nil b k
  simp only [kvE] at se ⊢
  simp [p112, v134, se, frz177]
end Go.Fm

/-
  kv.Store: Put.
-/
set_option maxRecDepth 100000
set_option linter.unusedVariables false
set_option linter.unusedSimpArgs false
namespace Go.Fm
open Go Go.Proofs

def cvp (p : List AV → Heap → Option (AV × Heap)) : Option (List AV × Heap) → Option (AV × Heap)
  | some (xs, H) => p xs H
  | none => none
theorem cvp_s {p : List AV → Heap → Option (AV × Heap)} {xs : List AV} {H : Heap} : cvp p (some (xs, H)) = p xs H := (rfl)
theorem v113 {b : Bool} {H : Heap} {vs : List AV} : callX (cfg b) An 113 vs H = cvp insP (handCs (cfg b) true H vs) := by
  rw [callX_prim (p := insP) (by rfl)]
  have hk : (cfg b).keepA 113 = true := rfl
  rw [hk]
  cases handCs (cfg b) true H vs <;> rfl
theorem v115 {b : Bool} {H : Heap} {vs : List AV} : callX (cfg b) An 115 vs H = cvp delP (handCs (cfg b) true H vs) := by
  rw [callX_prim (p := delP) (by rfl)]
  have hk : (cfg b).keepA 115 = true := rfl
  rw [hk]
  cases handCs (cfg b) true H vs <;> rfl
section
variable {s : AV} {c d : Int} {x i : Nat} {v : CV} {H : Heap} {t : TypeId} {es : List CV}
def insZ (c : Int) (i x : Nat) (v : CV) (H : Heap) : Option Blk → Option (AV × Heap)
  | some (.row t sz es) => if (sz = 2 ∧ t = 97) ∧ i ≠ x ∧ (0 ≤ c ∧ c ≤ (es.length : Int)) ∧ (es.length + 1) * 48 ≤ 140737488355328 ∧ es.length + 1 ≤ maxLen then
              some (.os H.length, H.set i .dead ++ [.row 97 2 (es.take c.toNat ++ v :: es.drop c.toNat)]) else none
  | _ => none
def insY (s : AV) (c : Int) (x : Nat) (v : CV) (H : Heap) : Option (AV × Heap) := match s with
  | .c .nilsl => if c = 0 then some (.os H.length, H ++ [.row 97 2 [v]]) else none
  | .os i => insZ c i x v H H[i]?
  | _ => none
def insX (s : AV) (c : Int) (x : Nat) (H : Heap) : Option Blk → Option (AV × Heap)
  | some (.row _ sz' [v]) => if sz' = 2 then insY s c x v H else none
  | _ => none
theorem insP_e : insP [s, .c (.int .i64 c), .os x] H = insX s c x H H[x]? := by
  unfold insP
  simp only []
  generalize hq : H[x]? = q
  cases q with
  | none => rfl
  | some b => cases b with
    | row t sz es => cases es with
      | nil => rfl
      | cons v r => cases r with
        | nil =>
          simp only [insX, insY, insZ]
          by_cases h2 : sz = 2
          · rw [if_pos h2, if_pos h2]
            cases s with
            | c w => cases w <;> rfl
            | os i =>
              simp only []
              cases H[i]? with
              | none => rfl
              | some b => cases b <;> rfl
            | _ => rfl
          · rw [if_neg h2, if_neg h2]
        | cons _ _ => rfl
    | _ => rfl
theorem insX_s : insX s c x H (some (.row t 2 [v])) = insY s c x v H := (rfl)
theorem insY_n : insY (.c .nilsl) c x v H = if c = 0 then some (.os H.length, H ++ [.row 97 2 [v]]) else none := (rfl)
theorem insY_o : insY (.os i) c x v H = insZ c i x v H H[i]? := (rfl)
theorem insZ_s : insZ c i x v H (some (.row 97 2 es)) = if i ≠ x ∧ (0 ≤ c ∧ c ≤ (es.length : Int)) ∧ (es.length + 1) * 48 ≤ 140737488355328 ∧ es.length + 1 ≤ maxLen then
              some (.os H.length, H.set i .dead ++ [.row 97 2 (es.take c.toNat ++ v :: es.drop c.toNat)]) else none := by
  simp [insZ]
def delZ (c d : Int) (i : Nat) (H : Heap) : Option Blk → Option (AV × Heap)
  | some (.row t sz es) => if (sz = 2 ∧ t = 97) ∧ (0 ≤ c ∧ c < (es.length : Int)) ∧ d = c + 1 then
        some (.os H.length, H.set i .dead ++ [.row 97 2 (es.take c.toNat ++ es.drop (c.toNat + 1))]) else none
  | _ => none
theorem delP_e : delP [.os i, .c (.int .i64 c), .c (.int .i64 d)] H = delZ c d i H H[i]? := by
  unfold delP delZ
  simp only []
  cases H[i]? with
  | none => rfl
  | some b => cases b <;> rfl
theorem delZ_s : delZ c d i H (some (.row 97 2 es)) = if (0 ≤ c ∧ c < (es.length : Int)) ∧ d = c + 1 then
        some (.os H.length, H.set i .dead ++ [.row 97 2 (es.take c.toNat ++ es.drop (c.toNat + 1))]) else none := by
  simp [delZ]
end
attribute [simp] cvp_s insP_e insX_s insY_n insY_o insZ_s delP_e delZ_s
theorem eqg115 {b : Bool} : (cfg b).P.eqGuardType (cfg b).P.depth 115 = false := by kernel_rfl
theorem aeq115 {b : Bool} {x y : AV} : aeq (cfg b).P 12 115 x y = ptrEq x y := aeq_ptr (e := 177) (by kernel_rfl)
theorem be115 {b lit : Bool} {x y : AV} {H : Heap} (h : isIS x y = false) : mBin (cfg b) 115 lit .eql x y H = eqH H false (ptrEq x y) := by rw [mBin_eqg eqg115 h, aeq115]
theorem v112 {b : Bool} {H : Heap} {vs : List AV} : callX (cfg b) An 112 vs H = cvw (fnX (cfg b) An 112) (handCs (cfg b) false H vs) := callX_v (prim_none (by decide))
theorem kvnew_fn (b : Bool) : fnX (cfg b) An 75 [] [] = some (.ov 0 [] 0, kvE) := by
  rw [fnX_eq, p75_eq]
  simp only [kvE]
  simp [p75, frz177]
def kvD (l : List Pr) : Heap := [.var 177 (.agg [.os 2]), .dead, .row 97 2 (l.map prC)]
theorem cf_PKv2_aca0c1f6 : clashFree [0, 0, 2, 6, 14, 0, 0, 64, 254, 511, 1023, 2047] [(false, [], 2, 2), (false, [], 2, 2), (false, [0], 2, 2), (false, [0], 2, 2), (false, [0], 2, 2), (false, [], 2, 2), (false, [1], 2, 2), (false, [], 2, 3), (true, [2], 3, 4), (false, [0], 4, 4), (false, [0], 4, 4), (true, [0, 3], 4, 4)] = true := by decide
attribute [simp] cf_PKv2_aca0c1f6
theorem cf_PKv2_cf5db1de : clashFree [0, 0, 2, 6, 14, 0, 0, 64, 254, 511, 1023, 2047] [(false, [], 3, 3), (false, [], 3, 3), (false, [0, 1], 3, 3), (false, [0, 1], 3, 3), (false, [0, 1], 3, 3), (false, [], 3, 3), (false, [2], 3, 3), (false, [], 3, 4), (true, [1, 3], 4, 5), (false, [0, 1], 5, 5), (false, [0, 1], 5, 5), (true, [0, 1, 4], 5, 5)] = true := by decide
attribute [simp] cf_PKv2_cf5db1de
/-! CF -/
set_option maxHeartbeats 8000000 in
theorem kvput_nil (b : Bool) (k : List UInt8) (v : Option (List UInt8)) (h1 : 0 < k.length) (h2 : k.length ≤ 96) (h3 : (pB v).length ≤ 256) :
    fnX (cfg b) An 76 [.ov 0 [] 0, .c (.sl 1 (bytesAV k)), .c (pV v)] kvE = some (.c (.int .i64 0), kvH [(k, v)]) := by
  rw [fnX_eq, p76_eq]
  have fd := kfind_nil b k
  have hk0 : ¬ k.length = 0 := by omega
  have hk1 : ¬ (96 : Int) < (k.length : Int) := by omega
  have hv1 : ¬ (256 : Int) < ((pB v).length : Int) := by omega
  have c1 := clone_sl b k (by omega)
  have c2 := clone_call b v (by omega)
  have hp : prC (k, v) = .agg [.sl 1 (bytesAV k), pV v] := rfl
  have m1 : 1 ≤ maxLen := big_max (by decide)
  have hk2 : ¬ k = [] := by intro h; subst h; simp at h1
  simp only [kvE, kvH, List.map_cons, List.map_nil, hp] at fd ⊢
  simp [p76, p76_d0, p76_d1, be115, hk0, hk1, hk2, hv1, c1, c2, v112, fd, v113, lenOf_pV, csz_pV, cag_pV, frz177, frz97, m1]

theorem split_pos (k : List UInt8) (l : List Pr) : l.takeWhile (ltk k) = l.take (posK k l) ∧ l.dropWhile (ltk k) = l.drop (posK k l) := by
  have key : ∀ (A B : List Pr), A ++ B = l → A = l.take A.length ∧ B = l.drop A.length := by rintro A B rfl; simp
  exact key _ _ List.takeWhile_append_dropWhile
theorem isK_split {k : List UInt8} {l : List Pr} (h : isK k l = true) : ∃ q r, l.drop (posK k l) = q :: r ∧ q.1 = k ∧ posK k l < l.length := by
  unfold isK at h
  simp only [Bool.and_eq_true, decide_eq_true_eq, beq_iff_eq] at h
  obtain ⟨h1, h2⟩ := h
  refine ⟨l[posK k l], l.drop (posK k l + 1), List.drop_eq_getElem_cons h1, ?_, h1⟩
  rw [List.getD_eq_getElem?_getD, List.getElem?_eq_getElem h1] at h2
  exact h2
theorem putP_set {k : List UInt8} {v : Option (List UInt8)} {l : List Pr} (h : isK k l = true) : putP k v l = l.set (posK k l) (k, v) := by
  obtain ⟨q, r, h1, h2, h3⟩ := isK_split h
  obtain ⟨e1, e2⟩ := split_pos k l
  rw [putP_eq, e1, e2, h1]
  simp only [tailP, h2, if_true]
  have hs : l.set (posK k l) (k, v) = (l.take (posK k l) ++ l.drop (posK k l)).set (posK k l) (k, v) := by rw [List.take_append_drop]
  have hl : (l.take (posK k l)).length = posK k l := by rw [List.length_take]; omega
  rw [hs, List.set_append_right _ _ (by omega), hl, Nat.sub_self, h1]
  rfl
theorem putP_ins {k : List UInt8} {v : Option (List UInt8)} {l : List Pr} (h : isK k l = false) : putP k v l = l.take (posK k l) ++ (k, v) :: l.drop (posK k l) := by
  obtain ⟨e1, e2⟩ := split_pos k l
  rw [putP_eq, e1, e2]
  congr 2
  cases hd : l.drop (posK k l) with
  | nil => rfl
  | cons q r =>
    have hlt : posK k l < l.length := by
      rcases Nat.lt_or_ge (posK k l) l.length with h | h
      · exact h
      · rw [List.drop_eq_nil_of_le h] at hd; cases hd
    have hq : l.getD (posK k l) default = q := by
      rw [List.drop_eq_getElem_cons hlt] at hd
      injection hd with hd _
      rw [List.getD_eq_getElem?_getD, List.getElem?_eq_getElem hlt]
      exact hd
    unfold isK at h
    rw [hq] at h
    simp only [hlt, decide_true, Bool.true_and] at h
    have : q.1 ≠ k := by simpa using h
    simp [tailP, this]
set_option maxHeartbeats 8000000 in
theorem kvput_set (b : Bool) (l : List Pr) (hm : l.length ≤ 1000000) (hr : Rise l) (k : List UInt8) (v : Option (List UInt8)) (h1 : 0 < k.length) (h2 : k.length ≤ 96) (h3 : (pB v).length ≤ 256) (hk : isK k l = true) :
    fnX (cfg b) An 76 [.ov 0 [] 0, .c (.sl 1 (bytesAV k)), .c (pV v)] (kvH l) = some (.c (.int .i64 0), kvH (putP k v l)) := by
  rw [fnX_eq, p76_eq]
  have fd := kfind_fn b l k hm hr
  rw [hk] at fd
  have hk0 : ¬ k.length = 0 := by omega
  have hk1 : ¬ (96 : Int) < (k.length : Int) := by omega
  have hv1 : ¬ (256 : Int) < ((pB v).length : Int) := by omega
  have c1 := clone_sl b k (by omega)
  have c2 := clone_call b v (by omega)
  have hp : prC (k, v) = .agg [.sl 1 (bytesAV k), pV v] := rfl
  have hk2 : ¬ k = [] := by intro h; subst h; simp at h1
  obtain ⟨q, r, hd, hq, hlt⟩ := isK_split hk
  have hI : (posK k l : Int) < (l.length : Int) := by omega
  have hn : nthC (l.map prC) (posK k l) = prC (l.getD (posK k l) default) := nthC_map default hlt
  have hset : (l.map prC).set (posK k l) (.agg [.sl 1 (bytesAV k), pV v]) = (putP k v l).map prC := by rw [putP_set hk, List.map_set, hp]
  generalize posK k l = n at *
  generalize putP k v l = L at *
  generalize l.getD n default = q' at *
  simp only [kvH] at fd ⊢
  simp [p76, p76_d0, p76_d1, be115, hk0, hk1, hk2, hv1, c1, c2, v112, fd, hlt, hI, hn, hset, csz_prC, cag_prC, lenOf_pV, csz_pV, cag_pV, frz177, frz97]
set_option maxHeartbeats 8000000 in
theorem kvput_ins (b : Bool) (l : List Pr) (hm : l.length ≤ 1000000) (hr : Rise l) (k : List UInt8) (v : Option (List UInt8)) (h1 : 0 < k.length) (h2 : k.length ≤ 96) (h3 : (pB v).length ≤ 256) (hk : isK k l = false) :
    fnX (cfg b) An 76 [.ov 0 [] 0, .c (.sl 1 (bytesAV k)), .c (pV v)] (kvH l) = some (.c (.int .i64 0), kvD (putP k v l)) := by
  rw [fnX_eq, p76_eq]
  have fd := kfind_fn b l k hm hr
  rw [hk] at fd
  have hk0 : ¬ k.length = 0 := by omega
  have hk1 : ¬ (96 : Int) < (k.length : Int) := by omega
  have hv1 : ¬ (256 : Int) < ((pB v).length : Int) := by omega
  have c1 := clone_sl b k (by omega)
  have c2 := clone_call b v (by omega)
  have hp : prC (k, v) = .agg [.sl 1 (bytesAV k), pV v] := rfl
  have hk2 : ¬ k = [] := by intro h; subst h; simp at h1
  have hle := posK_le k l
  have hI : (posK k l : Int) ≤ (l.length : Int) := by omega
  have m1 : l.length + 1 ≤ maxLen := big_max (by omega)
  have m2 : (l.length + 1) * 48 ≤ 140737488355328 := by omega
  have hset : (l.map prC).take (posK k l) ++ CV.agg [.sl 1 (bytesAV k), pV v] :: (l.map prC).drop (posK k l) = (putP k v l).map prC := by rw [putP_ins hk, List.map_append, List.map_cons, List.map_take, List.map_drop, hp]
  generalize posK k l = n at *
  generalize putP k v l = L at *
  simp only [kvH, kvD] at fd ⊢
  generalize hM : l.map prC = M at *
  have hMl : M.length = l.length := by rw [← hM]; simp
  simp [p76, p76_d0, p76_d1, be115, hk0, hk1, hk2, hv1, c1, c2, v112, v113, fd, hle, hI, hMl, hset, m1, m2, lenOf_pV, csz_pV, cag_pV, frz177, frz97]
end Go.Fm

/-
  kv.Store: List, Tree, Cut.
-/
set_option maxRecDepth 100000
set_option linter.unusedVariables false
set_option linter.unusedSimpArgs false
namespace Go.Fm
open Go Go.Proofs

/-- The tree of pairs, put in their order. -/
def treeOf (l : List Pr) (t : Option Tn) : Option Tn := l.foldl (fun t p => some (Tn.puto p.1 p.2 t)) t
structure PrOk (p : Pr) : Prop where
  ne : p.1 ≠ []
  k : p.1.length ≤ 96
  v : (pB p.2).length ≤ 256
theorem szo_puto (k : List UInt8) (v : Option (List UInt8)) (t : Option Tn) : Tn.szo (some (Tn.puto k v t)) ≤ Tn.szo t + 1 := by
  cases t with
  | none => simp [Tn.puto, Tn.szo, Tn.sz]
  | some t => have := Tn.sz_put k v t; simpa [Tn.puto, Tn.szo] using this
def trS (l : List Pr) (t : Option Tn) (i : Int) : List AV := [.c (tC t), .os 1, .c (.int .i64 (l.length : Int)), .c (.int .i64 i)]
theorem csz_tC (t : Option Tn) : CV.size (tC t) = 1 := rfl
theorem tr_loop (b : Bool) (l : List Pr) (hm : l.length ≤ 1000000) (hok : ∀ p ∈ l, PrOk p) : ∀ (rest pre : List Pr) (t : Option Tn), l = pre ++ rest → Tn.szo t ≤ pre.length →
    loopX 2 (p79_l0 b (callX (cfg b) An) 2) (trS l t (pre.length : Int)) (kvH l) = some (.exit 0 [.c (tC (treeOf rest t))], kvH l)
  | [], pre, t, h, hs => by
    rw [List.append_nil] at h
    subst h
    rw [loopX_eq]
    simp only [trS, kvH]
    simp [p79_l0, treeOf]
  | p :: rest, pre, t, h, hs => by
    have hl : pre.length < l.length := by subst h; simp
    have hpo := hok p (by subst h; simp)
    have hg : l.getD pre.length default = p := by rw [h]; exact getD_app pre rest p
    have hn : nthC (l.map prC) pre.length = prC p := by rw [nthC_map default hl, hg]
    have hI : (pre.length : Int) < (l.length : Int) := by omega
    have e1 : iAdd .i64 (pre.length : Int) 1 = ((pre.length + 1 : Nat) : Int) := by unfold iAdd; rw [i64_small (by omega) (by omega)]; omega
    have pc := Put_call b p.1 p.2 hpo.ne hpo.k hpo.v t (by omega)
    have ih := tr_loop b l hm hok rest (pre ++ [p]) (some (Tn.puto p.1 p.2 t)) (by rw [h]; simp) (by have := szo_puto p.1 p.2 t; simp; omega)
    rw [loopX_eq]
    have hlen : ((pre ++ [p]).length : Int) = ((pre.length + 1 : Nat) : Int) := by simp
    rw [hlen] at ih
    have ht : treeOf (p :: rest) t = treeOf rest (some (Tn.puto p.1 p.2 t)) := rfl
    rw [ht, ← ih]
    have hp : prC p = .agg [.sl 1 (bytesAV p.1), pV p.2] := rfl
    generalize pre.length = n at *
    rw [hp] at hn
    simp only [trS, kvH]
    simp [p79_l0, hl, hI, hn, e1, pc, csz_pV, cag_pV, frz97, frz177]
    exact loopX_gc (by simp) (by simp)
theorem ktree_fn (b : Bool) (l : List Pr) (hm : l.length ≤ 1000000) (hok : ∀ p ∈ l, PrOk p) : fnX (cfg b) An 79 [.ov 0 [] 0] (kvH l) = some (.c (tC (treeOf l none)), kvH l) := by
  rw [fnX_eq, p79_eq]
  have lp := tr_loop b l hm hok l [] none rfl (by simp [Tn.szo])
  have nc := new_call b
  have z0 : ((([] : List Pr).length : Nat) : Int) = 0 := rfl
  rw [z0] at lp
  simp only [trS, kvH] at lp ⊢
  simp [p79, nc, be115, lp, frz177]
theorem ktree_nil (b : Bool) : fnX (cfg b) An 79 [.ov 0 [] 0] kvE = some (.c (tC none), kvE) := by
  rw [fnX_eq, p79_eq]
  have nc := new_call b
  have lp : loopX 1 (p79_l0 b (callX (cfg b) An) 1) [.c (tC none), .c .nilsl, .c (.int .i64 0), .c (.int .i64 0)] kvE = some (.exit 0 [.c (tC none)], kvE) := by
    rw [loopX_eq]
    simp [p79_l0, kvE]
  simp only [kvE] at lp ⊢
  simp [p79, nc, be115, lp, frz177]
theorem ktree_none (b : Bool) : fnX (cfg b) An 79 [.c .nilp] [] = some (.c (tC none), []) := by
  rw [fnX_eq, p79_eq]
  have nc := new_call b
  simp [p79, nc, be115]
end Go.Fm

/-
  kv.Store: List.
-/
set_option maxRecDepth 100000
set_option linter.unusedVariables false
set_option linter.unusedSimpArgs false
namespace Go.Fm
open Go Go.Proofs

theorem equal_pV (b : Bool) (x : List UInt8) (y : Option (List UInt8)) : fnX (cfg b) An 102 [.c (.sl 1 (bytesAV x)), .c (pV y)] [] = some (.c (.bool (x == pB y)), []) := by
  rw [fnX_eq, p102_eq]
  have e := elemsOf_pV [] y
  simp [p102, BA_toList, e]
theorem equal_callV (b : Bool) (x : List UInt8) (y : Option (List UInt8)) (H : Heap) : callX (cfg b) An 102 [.c (.sl 1 (bytesAV x)), .c (pV y)] H = some (.c (.bool (x == pB y)), H) := callX_pure (equal_pV b x y) rfl rfl (prim_none (by decide)) H
/-- Does a key begin so? -/
def preB (q k : List UInt8) : Bool := decide (q.length ≤ k.length) && (k.take q.length == q)
theorem hasPre_fn (b : Bool) (k : List UInt8) (q : Option (List UInt8)) : fnX (cfg b) An 114 [.c (.sl 1 (bytesAV k)), .c (pV q)] [] = some (.c (.bool (preB (pB q) k)), []) := by
  rw [fnX_eq, p114_eq]
  have hl := fun H => lenOf_pV H q
  unfold preB
  by_cases h : (pB q).length ≤ k.length
  · have hI : ((pB q).length : Int) ≤ (k.length : Int) := by omega
    have sl := fun H => slice_pV (pB q).length (some k) h H
    have ec := equal_callV b (k.take (pB q).length) q
    have e1 : pV (some k) = .sl 1 (bytesAV k) := rfl
    have e2 : pV (upto (pB q).length (some k)) = .sl 1 (bytesAV (k.take (pB q).length)) := rfl
    rw [e1, e2] at sl
    simp [p114, hl, h, hI, sl, ec]
  · have hI : ¬ ((pB q).length : Int) ≤ (k.length : Int) := by omega
    simp [p114, hl, h, hI]
theorem hasPre_call (b : Bool) (k : List UInt8) (q : Option (List UInt8)) (H : Heap) : callX (cfg b) An 114 [.c (.sl 1 (bytesAV k)), .c (pV q)] H = some (.c (.bool (preB (pB q) k)), H) := callX_pure (hasPre_fn b k q) rfl rfl (prim_none (by decide)) H
def loA : List Pr → AV
  | [] => .c .nilsl
  | _ => .os 2
def loH (l acc : List Pr) : Heap := [.var 177 (.agg [.os 1]), .row 97 2 (l.map prC)] ++ acH 97 2 prC acc
def loS (l : List Pr) (q : Option (List UInt8)) (acc : List Pr) (i : Int) : List AV := [.c (pV q), loA acc, .os 1, .c (.int .i64 (l.length : Int)), .c (.int .i64 i)]
/-! CF -/
set_option maxHeartbeats 4000000 in
theorem lo_step (b : Bool) (l : List Pr) (hm : l.length ≤ 1000000) (hok : ∀ p ∈ l, PrOk p) (q : Option (List UInt8)) (p : Pr) (rest pre acc : List Pr) (h : l = pre ++ p :: rest) (ha : acc.length ≤ pre.length) :
    loopX 2 (p77_l0 b (callX (cfg b) An) 2) (loS l q acc (pre.length : Int)) (loH l acc) =
      loopX 2 (p77_l0 b (callX (cfg b) An) 2) (loS l q (if preB (pB q) p.1 = true then acc ++ [p] else acc) ((pre.length + 1 : Nat) : Int)) (loH l (if preB (pB q) p.1 = true then acc ++ [p] else acc)) := by
  have hl : pre.length < l.length := by subst h; simp
  have hpo := hok p (by subst h; simp)
  have hg : l.getD pre.length default = p := by rw [h]; exact getD_app pre rest p
  have hn : nthC (l.map prC) pre.length = prC p := by rw [nthC_map default hl, hg]
  have hI : (pre.length : Int) < (l.length : Int) := by omega
  have e1 : iAdd .i64 (pre.length : Int) 1 = ((pre.length + 1 : Nat) : Int) := by unfold iAdd; rw [i64_small (by omega) (by omega)]; omega
  have hp : prC p = .agg [.sl 1 (bytesAV p.1), pV p.2] := rfl
  have pc := hasPre_call b p.1 q
  have k1 := hpo.k
  have k2 := hpo.v
  have c1 := clone_sl b p.1 (by omega)
  have c2 := clone_call b p.2 (by omega)
  have m1 : 1 ≤ maxLen := big_max (by decide)
  rw [hp] at hn
  have hac : acc.length ≤ 1000000 := by omega
  clear ha h hg
  generalize pre.length = n at *
  rw [loopX_eq]
  cases hb : preB (pB q) p.1 with
  | false =>
    rw [hb] at pc
    simp only [Bool.false_eq_true, if_false]
    cases acc with
    | nil =>
      simp only [loS, loH, loA, acH, List.append_nil]
      simp [p77_l0, hl, hI, hn, e1, pc, csz_pV, cag_pV, frz97, frz177]
      exact loopX_gc (by simp) (by simp)
    | cons a acc =>
      simp only [loS, loH, loA, acH, List.append_nil, List.cons_append, List.nil_append]
      simp [p77_l0, hl, hI, hn, e1, pc, csz_pV, cag_pV, frz97, frz177]
      exact loopX_gc (by simp) (by simp)
  | true =>
    rw [hb] at pc
    simp only [if_true]
    cases acc with
    | nil =>
      simp only [loS, loH, loA, acH, List.append_nil, List.nil_append, List.map_cons, List.map_nil, hp]
      simp [p77_l0, p77_l0_d0, hl, hI, hn, e1, pc, c1, c2, m1, csz_pV, cag_pV, frz97, frz177]
      exact loopX_gc (by simp) (by simp)
    | cons a acc =>
      have m2 : acc.length + 1 + 1 ≤ maxLen := big_max (by simp at hac; omega)
      have m3 : (acc.length + 1 + 1) * 48 ≤ 140737488355328 := by simp at hac; omega
      simp only [loS, loH, loA, acH, List.append_nil, List.cons_append, List.nil_append, List.map_cons, List.map_append, List.map_nil, hp]
      simp [p77_l0, p77_l0_d0, hl, hI, hn, e1, pc, c1, c2, m1, m2, m3, csz_pV, cag_pV, frz97, frz177]
      exact loopX_gc (by simp) (by simp)
theorem lo_loop (b : Bool) (l : List Pr) (hm : l.length ≤ 1000000) (hok : ∀ p ∈ l, PrOk p) (q : Option (List UInt8)) : ∀ (rest pre acc : List Pr), l = pre ++ rest → acc.length ≤ pre.length →
    loopX 2 (p77_l0 b (callX (cfg b) An) 2) (loS l q acc (pre.length : Int)) (loH l acc) = some (.exit 0 [loA (acc ++ rest.filter fun p => preB (pB q) p.1)], loH l (acc ++ rest.filter fun p => preB (pB q) p.1))
  | [], pre, acc, h, ha => by
    rw [List.append_nil] at h
    subst h
    rw [loopX_eq]
    cases acc with
    | nil =>
      simp only [loS, loH, loA, acH, List.append_nil, List.filter_nil]
      simp [p77_l0]
    | cons a acc =>
      simp only [loS, loH, loA, acH, List.append_nil, List.filter_nil, List.cons_append, List.nil_append]
      simp [p77_l0]
  | p :: rest, pre, acc, h, ha => by
    rw [lo_step b l hm hok q p rest pre acc h ha]
    have hlen : ((pre.length + 1 : Nat) : Int) = ((pre ++ [p]).length : Int) := by simp
    rw [hlen]
    rw [lo_loop b l hm hok q rest (pre ++ [p]) _ (by rw [h]; simp) (by split <;> simp <;> omega)]
    by_cases hb : preB (pB q) p.1 = true
    · simp [hb]
    · simp [hb]
/-- The pairs that begin so. -/
def begP (q : Option (List UInt8)) (l : List Pr) : List Pr := l.filter fun p => preB (pB q) p.1
theorem klist_fn (b : Bool) (l : List Pr) (hm : l.length ≤ 1000000) (hok : ∀ p ∈ l, PrOk p) (q : Option (List UInt8)) : fnX (cfg b) An 77 [.ov 0 [] 0, .c (pV q)] (kvH l) = some (.c (pairsC (begP q l)), kvH l) := by
  rw [fnX_eq, p77_eq]
  have lp := lo_loop b l hm hok q l [] [] rfl (Nat.le_refl _)
  have z0 : ((([] : List Pr).length : Nat) : Int) = 0 := rfl
  rw [z0, List.nil_append] at lp
  have hb : (l.filter fun p => preB (pB q) p.1) = begP q l := rfl
  rw [hb] at lp
  cases hq : begP q l with
  | nil =>
    rw [hq] at lp
    simp only [loS, loH, loA, acH, kvH, List.append_nil, pairsC] at lp ⊢
    simp [p77, be115, lp, frz177]
  | cons a r =>
    rw [hq] at lp
    simp only [loS, loH, loA, acH, kvH, List.append_nil, List.cons_append, List.nil_append, pairsC] at lp ⊢
    simp [p77, be115, lp, frz177]
theorem klist_nil (b : Bool) (q : Option (List UInt8)) : fnX (cfg b) An 77 [.ov 0 [] 0, .c (pV q)] kvE = some (.c .nilsl, kvE) := by
  rw [fnX_eq, p77_eq]
  have lp : loopX 1 (p77_l0 b (callX (cfg b) An) 1) [.c (pV q), .c .nilsl, .c .nilsl, .c (.int .i64 0), .c (.int .i64 0)] kvE = some (.exit 0 [.c .nilsl], kvE) := by
    rw [loopX_eq]
    simp only [kvE]
    simp [p77_l0]
  simp only [kvE] at lp ⊢
  simp [p77, be115, lp, frz177]
theorem klist_none (b : Bool) (q : Option (List UInt8)) : fnX (cfg b) An 77 [.c .nilp, .c (pV q)] [] = some (.c .nilsl, []) := by
  rw [fnX_eq, p77_eq]
  simp [p77, be115]
theorem v75 {b : Bool} {H : Heap} {vs : List AV} : callX (cfg b) An 75 vs H = cvw (fnX (cfg b) An 75) (handCs (cfg b) false H vs) := callX_v (prim_none (by decide))
theorem v76 {b : Bool} {H : Heap} {vs : List AV} : callX (cfg b) An 76 vs H = cvw (fnX (cfg b) An 76) (handCs (cfg b) false H vs) := callX_v (prim_none (by decide))
theorem v77 {b : Bool} {H : Heap} {vs : List AV} : callX (cfg b) An 77 vs H = cvw (fnX (cfg b) An 77) (handCs (cfg b) false H vs) := callX_v (prim_none (by decide))
theorem v79 {b : Bool} {H : Heap} {vs : List AV} : callX (cfg b) An 79 vs H = cvw (fnX (cfg b) An 79) (handCs (cfg b) false H vs) := callX_v (prim_none (by decide))
theorem v81 {b : Bool} {H : Heap} {vs : List AV} : callX (cfg b) An 81 vs H = cvw (fnX (cfg b) An 81) (handCs (cfg b) false H vs) := callX_v (prim_none (by decide))
theorem nthC_z {v : CV} {l : List CV} : nthC (v :: l) 0 = v := (rfl)
theorem nthC_o {v w : CV} {l : List CV} : nthC (v :: w :: l) 1 = w := (rfl)
set_option maxHeartbeats 4000000 in
theorem awake16 (b : Bool) : fnX (cfg b) An 74 [] [] = some (.c (.bool true), []) := by
  rw [fnX_eq, p74_eq]
  have nw := kvnew_fn b
  have p1 := kvput_nil b [98] (some [50]) (by decide) (by decide) (by decide)
  have p2 := kvput_ins b [([98], some [50])] (by decide) (by simp [Rise]) [97] (some [49]) (by decide) (by decide) (by decide) (by decide)
  have ls := klist_fn b (putP [97] (some [49]) [([98], some [50])]) (by decide) (fun p hp => by
    have : p = ([97], some [49]) ∨ p = ([98], some [50]) := by simpa [putP, Op.bytesLess] using hp
    rcases this with rfl | rfl <;> exact ⟨by simp, by decide, by decide⟩) none
  have e1 : putP [97] (some [49]) [([98], some [50])] = [([97], some [49]), ([98], some [50])] := by decide
  have e2 : begP none [([97], some [49]), ([98], some [50])] = [([97], some [49]), ([98], some [50])] := by decide
  rw [e1] at p2 ls
  rw [e2] at ls
  simp only [kvE, kvH, kvD, pV, pairsC, prC, pairC, List.map_cons, List.map_nil, bytesAV] at nw p1 p2 ls
  simp at nw p1 p2 ls
  have m1 : 1 ≤ maxLen := big_max (by decide)
  simp [p74, v75, nw, v76, p1, p2, v77, ls, frz177, m1, nthC_z, nthC_o, bytesC, BA_toList]
theorem awake16_call (b : Bool) (H : Heap) : callX (cfg b) An 74 [] H = some (.c (.bool true), H) := callX_pure (awake16 b) rfl rfl (prim_none (by decide)) H
end Go.Fm

/-
  kv: a store, and the tree of its pairs.
-/
set_option maxRecDepth 100000
set_option linter.unusedVariables false
set_option linter.unusedSimpArgs false
namespace Go.Fm
open Go Go.Proofs

/-- A store, with or without a row. -/
def kvS : Option (List Pr) → Heap
  | none => kvE
  | some l => kvH l
def kvL : Option (List Pr) → List Pr
  | none => []
  | some l => l
structure KvOk (s : Option (List Pr)) (n : Nat) : Prop where
  len : (kvL s).length ≤ n
  rise : Rise (kvL s)
  ok : ∀ p ∈ kvL s, PrOk p
theorem KvOk.none : KvOk Option.none 0 := ⟨by simp [kvL], List.Pairwise.nil, fun p hp => by simp [kvL] at hp⟩
theorem KvOk.put {s : Option (List Pr)} {n : Nat} (h : KvOk s n) {k : List UInt8} {v : Option (List UInt8)} (h1 : 0 < k.length) (h2 : k.length ≤ 96) (h3 : (pB v).length ≤ 256) : KvOk (some (putP k v (kvL s))) (n + 1) where
  len := by have := putP_len k v (kvL s); have := h.len; simp only [kvL] at *; omega
  rise := h.rise.put
  ok := fun p hp => by
    rcases putP_mem hp with rfl | hp
    · exact ⟨by intro e; simp only at e; rw [e] at h1; simp at h1, h2, h3⟩
    · exact h.ok p hp
theorem kvput_any (b : Bool) {s : Option (List Pr)} {n : Nat} (h : KvOk s n) (hn : n ≤ 1000000) {k : List UInt8} {v : Option (List UInt8)} (h1 : 0 < k.length) (h2 : k.length ≤ 96) (h3 : (pB v).length ≤ 256) :
    fnX (cfg b) An 76 [.ov 0 [] 0, .c (.sl 1 (bytesAV k)), .c (pV v)] (kvS s) = some (.c (.int .i64 0), kvH (putP k v (kvL s))) ∨
      (∃ l, s = some l ∧ fnX (cfg b) An 76 [.ov 0 [] 0, .c (.sl 1 (bytesAV k)), .c (pV v)] (kvS s) = some (.c (.int .i64 0), kvD (putP k v (kvL s)))) := by
  have hl := h.len
  cases s with
  | none => exact .inl (kvput_nil b k v h1 h2 h3)
  | some l =>
    simp only [kvL] at hl
    cases hk : isK k l with
    | true => exact .inl (kvput_set b l (by omega) h.rise k v h1 h2 h3 hk)
    | false => exact .inr ⟨l, rfl, kvput_ins b l (by omega) h.rise k v h1 h2 h3 hk⟩
theorem ktree_any (b : Bool) {s : Option (List Pr)} {n : Nat} (h : KvOk s n) (hn : n ≤ 1000000) : fnX (cfg b) An 79 [.ov 0 [] 0] (kvS s) = some (.c (tC (treeOf (kvL s) none)), kvS s) := by
  have hl := h.len
  cases s with
  | none => exact ktree_nil b
  | some l => exact ktree_fn b l (by simp only [kvL] at hl; omega) h.ok
theorem treeOf_leaves : ∀ (l acc : List Pr) (t : Option Tn), Rise (acc ++ l) → Tn.leaveso t = acc → Tn.leaveso (treeOf l t) = acc ++ l
  | [], acc, t, h, e => by simpa [treeOf] using e
  | p :: l, acc, t, h, e => by
    have e1 : Tn.leaveso (some (Tn.puto p.1 p.2 t)) = acc ++ [p] := by
      cases t with
      | none =>
        simp only [Tn.leaveso] at e
        subst e
        rfl
      | some t =>
        have hR : Rise t.leaves := by
          simp only [Tn.leaveso] at e
          rw [e]
          exact (List.pairwise_append.1 h).1
        have := Tn.leaves_put p.1 p.2 t hR
        simp only [Tn.leaveso] at e
        simp only [Tn.leaveso, Tn.puto, this, e]
        have hlt : ∀ q ∈ acc, Op.bytesLess q.1 p.1 = true := fun q hq => (List.pairwise_append.1 h).2.2 q hq p (by simp)
        have h2 := putP_left (k := p.1) (v := p.2) [] acc hlt
        rw [List.append_nil] at h2
        rw [h2]
        rfl
    have := treeOf_leaves l (acc ++ [p]) (some (Tn.puto p.1 p.2 t)) (by simpa using h) e1
    have ht : treeOf (p :: l) t = treeOf l (some (Tn.puto p.1 p.2 t)) := rfl
    rw [ht, this]
    simp
theorem treeOf_szo : ∀ (l : List Pr) (t : Option Tn), Tn.szo (treeOf l t) ≤ Tn.szo t + l.length
  | [], t => by simp [treeOf]
  | p :: l, t => by
    have := treeOf_szo l (some (Tn.puto p.1 p.2 t))
    have h2 := szo_puto p.1 p.2 t
    have ht : treeOf (p :: l) t = treeOf l (some (Tn.puto p.1 p.2 t)) := rfl
    rw [ht]
    simp only [List.length_cons]
    omega
theorem treeOf_fit : ∀ (l : List Pr) (t : Option Tn), (∀ p ∈ l, PrOk p) → (∀ u, t = some u → u.fit) → ∀ u, treeOf l t = some u → u.fit
  | [], t, _, h => h
  | p :: l, t, hok, h => by
    have hp := hok p (by simp)
    refine treeOf_fit l (some (Tn.puto p.1 p.2 t)) (fun q hq => hok q (by simp [hq])) (fun u hu => ?_)
    simp only [Option.some.injEq] at hu
    subst hu
    have h1 := hp.k
    have h2 := hp.v
    cases t with
    | none => exact ⟨by omega, by omega⟩
    | some t => exact Tn.fit_put (by omega) (by omega) t (h t rfl)
end Go.Fm


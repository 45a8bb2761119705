/-
  A part of the proof: PKs.
-/
import Derived.Test.YtjmjijgnbjkpnaaDoorPKp
import Derived.Test.YtjmjijgnbjkpnaaDoorDMisc2
import Derived.Test.YtjmjijgnbjkpnaaDoorPKv
set_option linter.all false
set_option autoImplicit true
/-
  Law 23, KvSame: two stores, side by side.
-/
set_option maxRecDepth 100000
set_option linter.unusedVariables false
set_option linter.unusedSimpArgs false
namespace Go.Fm
open Go Go.Proofs

theorem putP_putP (k : List UInt8) (v w : Option (List UInt8)) : ∀ l : List Pr, putP k v (putP k w l) = putP k v l
  | [] => by simp [putP, bytesLess_irr]
  | p :: r => by
    by_cases hp : Op.bytesLess p.1 k = true
    · simp only [putP, hp, if_true]
      rw [putP_putP k v w r]
    · by_cases hk : p.1 = k
      · simp [putP, hk, bytesLess_irr]
      · simp [putP, hp, hk, bytesLess_irr]
theorem putP_self (k : List UInt8) (v : Option (List UInt8)) (l : List Pr) : (k, v) ∈ putP k v l := by
  rw [putP_eq]; simp
theorem putP_keep {k : List UInt8} {v : Option (List UInt8)} {l : List Pr} {q : Pr} (hq : q ∈ l) (hne : q.1 ≠ k) : q ∈ putP k v l := by
  have h : l = l.takeWhile (ltk k) ++ l.dropWhile (ltk k) := (List.takeWhile_append_dropWhile).symm
  rw [putP_eq]
  rw [h] at hq
  rcases List.mem_append.1 hq with h1 | h1
  · exact List.mem_append.2 (.inl h1)
  · refine List.mem_append.2 (.inr (List.mem_cons_of_mem _ ?_))
    cases hd : l.dropWhile (ltk k) with
    | nil => rw [hd] at h1; simp at h1
    | cons p r =>
      rw [hd] at h1
      show q ∈ (if p.1 = k then r else p :: r)
      split
      · rename_i hp
        rcases List.mem_cons.1 h1 with rfl | h1
        · exact absurd hp hne
        · exact h1
      · exact h1
theorem Rise.uniq {l : List Pr} (h : Rise l) {p q : Pr} (hp : p ∈ l) (hq : q ∈ l) (e : p.1 = q.1) : p = q := by
  induction l with
  | nil => simp at hp
  | cons a l ih =>
    obtain ⟨h1, h2⟩ := List.pairwise_cons.1 h
    rcases List.mem_cons.1 hp with hp1 | hp1 <;> rcases List.mem_cons.1 hq with hq1 | hq1
    · rw [hp1, hq1]
    · subst hp1; exact absurd e (bl_ne (h1 q hq1))
    · subst hq1; exact absurd e.symm (bl_ne (h1 p hp1))
    · exact ih h2 hp1 hq1
theorem Rise.ext : ∀ {l m : List Pr}, Rise l → Rise m → (∀ p, p ∈ l ↔ p ∈ m) → l = m
  | [], [], _, _, _ => rfl
  | [], b :: m, _, _, h => absurd ((h b).2 (by simp)) (by simp)
  | a :: l, [], _, _, h => absurd ((h a).1 (by simp)) (by simp)
  | a :: l, b :: m, hl, hm, h => by
    obtain ⟨l1, l2⟩ := List.pairwise_cons.1 hl
    obtain ⟨m1, m2⟩ := List.pairwise_cons.1 hm
    have hab : a = b := by
      rcases List.mem_cons.1 ((h a).1 (by simp)) with e | ha
      · exact e
      · rcases List.mem_cons.1 ((h b).2 (by simp)) with e | hb
        · exact e.symm
        · have x1 := m1 a ha
          have x2 := l1 b hb
          rw [bl_asym x1] at x2; cases x2
    subst hab
    rw [Rise.ext l2 m2 fun p => ⟨fun hp => ?_, fun hp => ?_⟩]
    · rcases List.mem_cons.1 ((h p).1 (by simp [hp])) with e | h
      · subst e; have := l1 p hp; rw [bytesLess_irr] at this; cases this
      · exact h
    · rcases List.mem_cons.1 ((h p).2 (by simp [hp])) with e | h
      · subst e; have := m1 p hp; rw [bytesLess_irr] at this; cases this
      · exact h
/-- What the second store has: some of the pairs, among them those of the places that were gone to. -/
structure UOk (l U : List Pr) (done : Nat → Prop) : Prop where
  rise : Rise U
  sub : ∀ p ∈ U, p ∈ l
  has : ∀ j, done j → j < l.length → l.getD j default ∈ U
theorem UOk.put {l U : List Pr} {done : Nat → Prop} (hr : Rise l) (h : UOk l U done) {m : Nat} (hm : m < l.length) : UOk l (putP (l.getD m default).1 (l.getD m default).2 U) (fun j => done j ∨ j = m) where
  rise := h.rise.put
  sub := fun p hp => by
    have hmem : l.getD m default ∈ l := by rw [List.getD_eq_getElem?_getD, List.getElem?_eq_getElem hm]; exact List.getElem_mem _
    rcases putP_mem hp with rfl | hp
    · exact hmem
    · exact h.sub p hp
  has := fun j hj hjl => by
    have hmem : l.getD m default ∈ l := by rw [List.getD_eq_getElem?_getD, List.getElem?_eq_getElem hm]; exact List.getElem_mem _
    have hjm : l.getD j default ∈ l := by rw [List.getD_eq_getElem?_getD, List.getElem?_eq_getElem hjl]; exact List.getElem_mem _
    by_cases e : (l.getD j default).1 = (l.getD m default).1
    · rw [hr.uniq hjm hmem e]
      exact putP_self _ _ _
    · rcases hj with hj | rfl
      · exact putP_keep (h.has j hj hjl) e
      · exact absurd rfl e
theorem UOk.all {l U : List Pr} {done : Nat → Prop} (hr : Rise l) (h : UOk l U done) (hd : ∀ j, j < l.length → done j) : U = l := by
  refine h.rise.ext hr fun p => ⟨h.sub p, fun hp => ?_⟩
  obtain ⟨j, hj, rfl⟩ := List.getElem_of_mem hp
  have := h.has j (hd j hj) hj
  rwa [List.getD_eq_getElem?_getD, List.getElem?_eq_getElem hj] at this
/-- The place that a turn goes to. -/
def kAt (n t i : Nat) : Nat := (n - 1 - i + t) % n
theorem kAt_all {n t j : Nat} (hj : j < n) : ∃ i, i < n ∧ kAt n t i = j := by
  refine ⟨(n - 1 + t + (n - j)) % n, Nat.mod_lt _ (by omega), ?_⟩
  unfold kAt
  obtain ⟨a, ha⟩ : ∃ a, a = n - 1 + t + (n - j) := ⟨_, rfl⟩
  have h1 : a % n < n := Nat.mod_lt _ (by omega)
  have h2 := Nat.div_add_mod a n
  rw [← ha]
  obtain ⟨q, hq⟩ : ∃ q, q = a / n := ⟨_, rfl⟩
  rw [← hq] at h2
  -- n - 1 - a % n + t = j + n * something
  have h3 : n - 1 - a % n + t + n = j + n * q := by
    have : n * q = a - a % n := by omega
    omega
  have h4 : (n - 1 - a % n + t) % n = (n - 1 - a % n + t + n) % n := by rw [Nat.add_mod_right]
  rw [h4, h3, Nat.add_mul_mod_self_left, Nat.mod_eq_of_lt hj]
/-- Two stores. -/
def ksH (s u : Option (List Pr)) : Heap := match s, u with
  | some s, some u => [.var 177 (.agg [.os 2]), .var 177 (.agg [.os 3]), .row 97 2 (s.map prC), .row 97 2 (u.map prC)]
  | _, _ => [.var 177 (.c (.agg [.nilsl])), .var 177 (.c (.agg [.nilsl]))]
def ksS (l : List Pr) (t i : Int) : List AV := [.c (.int .u8 t), .ov 0 [] 0, .ov 1 [] 0, .c (pairsC l), .c (.int .i64 (l.length : Int)), .c (.int .i64 i)]
def othB : List UInt8 := [111, 116, 104, 101, 114]
def othV : CV := .sl 1 [.int .u8 111, .int .u8 116, .int .u8 104, .int .u8 101, .int .u8 114]
theorem oth_pV : pV (some othB) = othV := rfl
/-! CF -/
set_option maxHeartbeats 64000000 in
theorem ks_step (b : Bool) (l : List Pr) (t : UInt8) (n i : Nat) (hn : n = l.length) (hm : n ≤ 100000) (hi : i < n) (p q : Pr) (hgi : l.getD i default = p) (hgm : l.getD (kAt n t.toNat i) default = q) (s u : Option (List Pr)) (P U1 U2 : List Pr) (hsu : s = none ↔ u = none)
    (ps : fnX (cfg b) An 76 [.ov 0 [] 0, .c (.sl 1 (bytesAV p.1)), .c (pV p.2)] (kvS s) = some (.c (.int .i64 0), kvH P) ∨ ((∃ r, s = some r) ∧ fnX (cfg b) An 76 [.ov 0 [] 0, .c (.sl 1 (bytesAV p.1)), .c (pV p.2)] (kvS s) = some (.c (.int .i64 0), kvD P)))
    (pu : fnX (cfg b) An 76 [.ov 0 [] 0, .c (.sl 1 (bytesAV q.1)), .c othV] (kvS u) = some (.c (.int .i64 0), kvH U1) ∨ ((∃ r, u = some r) ∧ fnX (cfg b) An 76 [.ov 0 [] 0, .c (.sl 1 (bytesAV q.1)), .c othV] (kvS u) = some (.c (.int .i64 0), kvD U1)))
    (pv : fnX (cfg b) An 76 [.ov 0 [] 0, .c (.sl 1 (bytesAV q.1)), .c (pV q.2)] (kvH U1) = some (.c (.int .i64 0), kvH U2)) :
    loopX 0 (p23_l0 b (callX (cfg b) An) 0) (ksS l (t.toNat : Int) (i : Int)) (ksH s u) = loopX 0 (p23_l0 b (callX (cfg b) An) 0) (ksS l (t.toNat : Int) ((i : Int) + 1)) (ksH (some P) (some U2)) := by
  have htl := t.toNat_lt
  have hl : i < l.length := by omega
  have hI : (i : Int) < (l.length : Int) := by omega
  have ha := idx_add i (by omega)
  have hidx := mIdxS_pairsC l i hl
  rw [hgi] at hidx
  have hkl : kAt n t.toNat i < l.length := by rw [← hn]; exact Nat.mod_lt _ (by omega)
  have hidm := mIdxS_pairsC l (kAt n t.toNat i) hkl
  rw [hgm] at hidm
  have hL := fun H => lenOf_pairsC l H
  have e1 : iSub .i64 (l.length : Int) 1 = ((n - 1 : Nat) : Int) := by unfold iSub; rw [i64_small (by omega) (by omega)]; omega
  have e2 : iSub .i64 ((n - 1 : Nat) : Int) (i : Int) = ((n - 1 - i : Nat) : Int) := by unfold iSub; rw [i64_small (by omega) (by omega)]; omega
  have e3 : IntKind.i64.wrap (t.toNat : Int) = (t.toNat : Int) := i64_small (by omega) (by omega)
  have e4 : iAdd .i64 ((n - 1 - i : Nat) : Int) (t.toNat : Int) = ((n - 1 - i + t.toNat : Nat) : Int) := by unfold iAdd; rw [i64_small (by omega) (by omega)]; omega
  have e5 : (((n - 1 - i + t.toNat : Nat) : Int)).tmod (l.length : Int) = ((kAt n t.toNat i : Nat) : Int) := by rw [← hn]; exact tmod_nat _ _
  have e6 : ¬ (l.length : Int) = 0 := by omega
  have e6' : ¬ l = [] := by intro h; subst h; simp at hl
  have hp : prC p = .agg [.sl 1 (bytesAV p.1), pV p.2] := rfl
  have hq : prC q = .agg [.sl 1 (bytesAV q.1), pV q.2] := rfl
  rw [hp] at hidx
  rw [hq] at hidm
  generalize kAt n t.toNat i = m at *
  generalize n - 1 - i + t.toNat = c3 at *
  generalize n - 1 - i = c2 at *
  generalize n - 1 = c1 at *
  rw [loopX_eq]
  cases s with
  | none =>
    have hu := hsu.1 rfl
    subst hu
    rcases ps with ps | ⟨⟨_, h⟩, _⟩
    · rcases pu with pu | ⟨⟨_, h⟩, _⟩
      · simp only [ksS, ksH, kvS, kvE, kvH, othV] at ps pu pv ⊢
        simp (maxSteps := 1000000) [p23_l0, p23_l0_d0, p23_l0_d1, hl, hI, ha, hidx, hidm, hL, e1, e2, e3, e4, e5, e6, e6', v76, ps, pu, pv, csz_pV, cag_pV, frz177]
        exact loopX_gc (by simp) (by simp)
      · cases h
    · cases h
  | some r =>
    cases u with
    | none => have := hsu.2 rfl; cases this
    | some r2 =>
      generalize hM1 : r.map prC = M1 at *
      generalize hM2 : r2.map prC = M2 at *
      rcases ps with ps | ⟨_, ps⟩
      · rcases pu with pu | ⟨_, pu⟩
        · simp only [ksS, ksH, kvS, kvH, kvD, othV, hM1, hM2] at ps pu pv ⊢
          simp (maxSteps := 1000000) [p23_l0, p23_l0_d0, p23_l0_d1, hl, hI, ha, hidx, hidm, hL, e1, e2, e3, e4, e5, e6, e6', v76, ps, pu, pv, csz_pV, cag_pV, frz177]
          exact loopX_gc (by simp) (by simp)
        · simp only [ksS, ksH, kvS, kvH, kvD, othV, hM1, hM2] at ps pu pv ⊢
          simp (maxSteps := 1000000) [p23_l0, p23_l0_d0, p23_l0_d1, hl, hI, ha, hidx, hidm, hL, e1, e2, e3, e4, e5, e6, e6', v76, ps, pu, pv, csz_pV, cag_pV, frz177]
          exact loopX_gc (by simp) (by simp)
      · rcases pu with pu | ⟨_, pu⟩
        · simp only [ksS, ksH, kvS, kvH, kvD, othV, hM1, hM2] at ps pu pv ⊢
          simp (maxSteps := 1000000) [p23_l0, p23_l0_d0, p23_l0_d1, hl, hI, ha, hidx, hidm, hL, e1, e2, e3, e4, e5, e6, e6', v76, ps, pu, pv, csz_pV, cag_pV, frz177]
          exact loopX_gc (by simp) (by simp)
        · simp only [ksS, ksH, kvS, kvH, kvD, othV, hM1, hM2] at ps pu pv ⊢
          simp (maxSteps := 1000000) [p23_l0, p23_l0_d0, p23_l0_d1, hl, hI, ha, hidx, hidm, hL, e1, e2, e3, e4, e5, e6, e6', v76, ps, pu, pv, csz_pV, cag_pV, frz177]
          exact loopX_gc (by simp) (by simp)
end Go.Fm

/-
  Law 23, KvSame, as a whole.
-/
set_option maxRecDepth 100000
set_option linter.unusedVariables false
set_option linter.unusedSimpArgs false
namespace Go.Fm
open Go Go.Proofs

theorem mem_tw {f : Pr → Bool} : ∀ {l : List Pr} {p : Pr}, p ∈ l.takeWhile f → f p = true
  | [], p, h => by simp at h
  | a :: l, p, h => by
    by_cases ha : f a = true
    · rw [List.takeWhile_cons_of_pos ha] at h
      rcases List.mem_cons.1 h with rfl | h
      · exact ha
      · exact mem_tw h
    · rw [List.takeWhile_cons_of_neg ha] at h; simp at h
theorem posK_app {k : List UInt8} {v : Option (List UInt8)} {A r : List Pr} (hall : ∀ p ∈ A, ltk k p = true) : posK k (A ++ (k, v) :: r) = A.length := by
  have : ltk k (k, v) = false := bytesLess_irr k
  unfold posK
  rw [List.takeWhile_append_of_pos hall, List.takeWhile_cons_of_neg (by simp [this]), List.append_nil]
theorem posK_putP (k : List UInt8) (v : Option (List UInt8)) {l : List Pr} (h : isK k l = false) : posK k (putP k v l) = posK k l ∧ isK k (putP k v l) = true := by
  have hle := posK_le k l
  have hl : (l.take (posK k l)).length = posK k l := by rw [List.length_take]; omega
  have hall : ∀ p ∈ l.take (posK k l), ltk k p = true := fun p hp => by
    have e := (split_pos k l).1
    rw [← e] at hp
    exact mem_tw hp
  have h1 : posK k (putP k v l) = posK k l := by
    rw [putP_ins h, posK_app hall, hl]
  refine ⟨h1, ?_⟩
  unfold isK
  rw [h1]
  have hlen : posK k l < (putP k v l).length := by rw [putP_ins h]; simp; omega
  have hg : (putP k v l).getD (posK k l) default = (k, v) := by
    rw [putP_ins h, List.getD_eq_getElem?_getD, List.getElem?_append_right (by omega), hl]
    simp
  rw [hg]
  simp [hlen]
theorem cut_putP (k : List UInt8) (v : Option (List UInt8)) {l : List Pr} (h : isK k l = false) : (putP k v l).take (posK k l) ++ (putP k v l).drop (posK k l + 1) = l := by
  have hle := posK_le k l
  have hl : (l.take (posK k l)).length = posK k l := by rw [List.length_take]; omega
  rw [putP_ins h, List.take_append_of_le_length (by omega), List.take_of_length_le (by omega), List.drop_append, hl]
  rw [List.drop_eq_nil_of_le (by omega), List.nil_append]
  have e : posK k l + 1 - posK k l = 1 := by omega
  rw [e]
  simp
theorem kvcut_fn (b : Bool) (l : List Pr) (hm : l.length ≤ 1000000) (hr : Rise l) (k : List UInt8) (hk : isK k l = true) (L : List Pr) (hL : l.take (posK k l) ++ l.drop (posK k l + 1) = L) :
    fnX (cfg b) An 81 [.ov 0 [] 0, .c (.sl 1 (bytesAV k))] (kvH l) = some (.c (.bool true), kvD L) := by
  rw [fnX_eq, p81_eq]
  have fd := kfind_fn b l k hm hr
  rw [hk] at fd
  obtain ⟨q, r, hd, hq, hlt⟩ := isK_split hk
  have hI : (posK k l : Int) < (l.length : Int) := by omega
  have ha : iAdd .i64 (posK k l : Int) 1 = (posK k l : Int) + 1 := by unfold iAdd; rw [i64_small (by omega) (by omega)]
  have hset : (l.map prC).take (posK k l) ++ (l.map prC).drop (posK k l + 1) = L.map prC := by rw [← hL, List.map_append, List.map_take, List.map_drop]
  clear hL hd
  generalize posK k l = n at *
  simp only [kvH, kvD] at fd ⊢
  generalize hM : l.map prC = M at *
  have hMl : M.length = l.length := by rw [← hM]; simp
  simp [p81, be115, v112, fd, v115, ha, hI, hMl, hset, frz177]
theorem findZ_isK {k : List UInt8} {l : List Pr} (h : isK k l = true) : 0 ≤ findZ k l := by
  obtain ⟨q, r, hd, hq, _⟩ := isK_split h
  rcases Int.lt_or_le (findZ k l) 0 with hlt | hge
  · have := findZ_neg.1 hlt q (List.mem_of_mem_drop (by rw [hd]; simp))
    exact absurd hq this
  · exact hge
def doneK (n t i j : Nat) : Prop := ∃ i', i' < i ∧ kAt n t i' = j
def sOf (i : Nat) (l : List Pr) : Option (List Pr) := if i = 0 then none else some l
theorem ks_loop (b : Bool) (l : List Pr) (t : UInt8) (hm : l.length ≤ 100000) (hr : Rise l) (ho : ∀ p ∈ l, PrOk p) : ∀ (rest pre U : List Pr), l = pre ++ rest → UOk l U (doneK l.length t.toNat pre.length) → U.length ≤ pre.length → (pre = [] → U = []) →
    loopX 0 (p23_l0 b (callX (cfg b) An) 0) (ksS l (t.toNat : Int) (pre.length : Int)) (ksH (sOf pre.length pre) (sOf pre.length U)) = some (.exit 0 [.ov 0 [] 0, .ov 1 [] 0, .c (pairsC l)], ksH (sOf l.length l) (sOf l.length l))
  | [], pre, U, h, hU, hUl, h0 => by
    rw [List.append_nil] at h
    subst h
    have e := hU.all hr (fun j hj => by
      obtain ⟨i, hi, he⟩ := kAt_all (t := t.toNat) hj
      exact ⟨i, hi, he⟩)
    rw [e, loopX_eq]
    cases l with
    | nil => simp [ksS, ksH, sOf, p23_l0]
    | cons q r => simp [ksS, ksH, sOf, p23_l0]
  | p :: rest, pre, U, h, hU, hUl, h0 => by
    have hl : pre.length < l.length := by subst h; simp
    have hg : l.getD pre.length default = p := by rw [h]; exact getD_app pre rest p
    have hp := ho p (by subst h; simp)
    have hrp : Rise (pre ++ [p]) := by
      rw [h] at hr
      have : pre ++ p :: rest = (pre ++ [p]) ++ rest := by simp
      rw [this] at hr
      exact (List.pairwise_append.1 hr).1
    have hpre : ∀ q ∈ pre, PrOk q := fun q hq => ho q (by subst h; simp [hq])
    have hkl : kAt l.length t.toNat pre.length < l.length := Nat.mod_lt _ (by omega)
    obtain ⟨q, hq⟩ : ∃ q, q = l.getD (kAt l.length t.toNat pre.length) default := ⟨_, rfl⟩
    have hqm : q ∈ l := by rw [hq, List.getD_eq_getElem?_getD, List.getElem?_eq_getElem hkl]; exact List.getElem_mem _
    have hqo := ho q hqm
    have hUo : ∀ p ∈ U, PrOk p := fun p hp => ho p (hU.sub p hp)
    have hks : KvOk (sOf pre.length pre) pre.length := by
      cases pre with
      | nil => exact KvOk.none
      | cons a r => exact ⟨by simp [sOf, kvL], (List.pairwise_append.1 hrp).1, hpre⟩
    have hkL : kvL (sOf pre.length pre) = pre := by cases pre <;> rfl
    have huL : kvL (sOf pre.length U) = U := by
      cases pre with
      | nil => rw [h0 rfl]; rfl
      | cons a r => rfl
    have hku : KvOk (sOf pre.length U) pre.length := ⟨by rw [huL]; exact hUl, by rw [huL]; exact hU.rise, by rw [huL]; exact hUo⟩
    have ps := kvput_any b hks (by omega) (k := p.1) (v := p.2) (List.length_pos_iff.2 hp.ne) hp.k hp.v
    rw [hkL, putP_last hrp] at ps
    have pu := kvput_any b hku (by omega) (k := q.1) (v := some othB) (List.length_pos_iff.2 hqo.ne) hqo.k (by decide)
    rw [huL, oth_pV] at pu
    have hku1 := hku.put (k := q.1) (v := some othB) (List.length_pos_iff.2 hqo.ne) hqo.k (by decide)
    have hU1r := hku1.rise
    have hU1l := hku1.len
    rw [huL] at hU1r hU1l
    simp only [kvL] at hU1r hU1l
    have hisk : isK q.1 (putP q.1 (some othB) U) = true := by
      cases hk : isK q.1 U with
      | false => exact (posK_putP q.1 _ hk).2
      | true =>
        obtain ⟨q', r', e1, e2, e3⟩ := isK_split hk
        rw [putP_set hk]
        have hpk : posK q.1 (U.set (posK q.1 U) (q.1, some othB)) = posK q.1 U := by
          obtain ⟨s1, s2⟩ := split_pos q.1 U
          have hl' : (U.take (posK q.1 U)).length = posK q.1 U := by rw [List.length_take]; omega
          have hall : ∀ p ∈ U.take (posK q.1 U), ltk q.1 p = true := fun p hp => by
            rw [← s1] at hp
            exact mem_tw hp
          have hs : U.set (posK q.1 U) (q.1, some othB) = U.take (posK q.1 U) ++ (q.1, some othB) :: r' := by
            have : U.set (posK q.1 U) (q.1, some othB) = (U.take (posK q.1 U) ++ U.drop (posK q.1 U)).set (posK q.1 U) (q.1, some othB) := by rw [List.take_append_drop]
            rw [this, List.set_append_right _ _ (by omega), hl', Nat.sub_self, e1]
            rfl
          rw [hs, posK_app hall, hl']
        unfold isK
        rw [hpk]
        have hlen : posK q.1 U < (U.set (posK q.1 U) (q.1, some othB)).length := by simpa using e3
        have hg2 : (U.set (posK q.1 U) (q.1, some othB)).getD (posK q.1 U) default = (q.1, some othB) := by
          rw [List.getD_eq_getElem?_getD, List.getElem?_set_self e3]; rfl
        rw [hg2]
        simp [e3]
    have pv := kvput_set b (putP q.1 (some othB) U) (by omega) hU1r q.1 q.2 (List.length_pos_iff.2 hqo.ne) hqo.k hqo.v hisk
    rw [putP_putP] at pv
    have hU2 := hU.put hr hkl
    rw [← hq] at hU2
    have hlen2 := putP_len q.1 q.2 U
    have ih := ks_loop b l t hm hr ho rest (pre ++ [p]) (putP q.1 q.2 U) (by rw [h]; simp) (by
      refine ⟨hU2.rise, hU2.sub, fun j hj hjl => hU2.has j ?_ hjl⟩
      obtain ⟨i', hi', he⟩ := hj
      rw [List.length_append, List.length_singleton] at hi'
      by_cases hii : i' < pre.length
      · exact .inl ⟨i', hii, he⟩
      · obtain rfl : i' = pre.length := by omega
        exact .inr he.symm) (by simp; omega) (by simp)
    have e3 : (((pre ++ [p]).length : Nat) : Int) = (pre.length : Int) + 1 := by simp
    have e4 : sOf (pre ++ [p]).length (pre ++ [p]) = some (pre ++ [p]) := by simp [sOf]
    have e5 : sOf (pre ++ [p]).length (putP q.1 q.2 U) = some (putP q.1 q.2 U) := by simp [sOf]
    rw [e3, e4, e5] at ih
    rw [← ih]
    refine ks_step b l t l.length pre.length rfl hm hl p q hg hq.symm (sOf pre.length pre) (sOf pre.length U) (pre ++ [p]) (putP q.1 (some othB) U) (putP q.1 q.2 U) (by cases pre <;> simp [sOf]) ?_ ?_ pv
    · rcases ps with ps | ⟨r, e, ps⟩
      · exact .inl ps
      · exact .inr ⟨⟨r, e⟩, ps⟩
    · rcases pu with pu | ⟨r, e, pu⟩
      · exact .inl pu
      · exact .inr ⟨⟨r, e⟩, pu⟩
end Go.Fm

/-
  Law 23, KvSame: its end.
-/
set_option maxRecDepth 100000
set_option linter.unusedVariables false
set_option linter.unusedSimpArgs false
namespace Go.Fm
open Go Go.Proofs

theorem v42k {b : Bool} {H : Heap} {vs : List AV} : callX (cfg b) An 42 vs H = cvw (fnX (cfg b) An 42) (handCs (cfg b) false H vs) := callX_v (prim_none (by decide))
def zzB : List UInt8 := [122, 122]
def zzV : CV := .sl 1 [.int .u8 122, .int .u8 122]
theorem zz_sl : CV.sl 1 (bytesAV zzB) = zzV := rfl
theorem treeOf_len {l : List Pr} (hr : Rise l) : Tn.szo (treeOf l none) = l.length := by
  have h := treeOf_leaves l [] none (by simpa using hr) rfl
  rw [← leaveso_len, h]; rfl
set_option maxHeartbeats 64000000 in
theorem kvSame_fn (b : Bool) (o : Option (List ActL)) (t : UInt8) : fnX (cfg b) An 23 [.c (actsC o), .c (.int .u8 (t.toNat : Int))] [] = some (.c (.bool true), []) := by
  have gk := grown_ok 50 o
  have hlen : (grown 50 o).2.length ≤ 50 := gk.len
  have hr := grown_rise 50 o
  have ho := grown_prok 50 o
  have gc := grow_call b 50 (by decide) o
  have lp := ks_loop b (grown 50 o).2 t (by omega) hr ho (grown 50 o).2 [] [] rfl ⟨List.Pairwise.nil, fun p hp => by simp at hp, fun j hj _ => by obtain ⟨i', hi', _⟩ := hj; simp at hi'⟩ (Nat.le_refl _) (fun _ => rfl)
  have n50 : ((50 : Nat) : Int) = 50 := rfl
  rw [n50] at gc
  generalize (grown 50 o).2 = l at *
  generalize (grown 50 o).1 = T at *
  have z0 : ((([] : List Pr).length : Nat) : Int) = 0 := rfl
  have s0 : ∀ m : List Pr, sOf ([] : List Pr).length m = none := fun m => rfl
  rw [z0, s0] at lp
  have c0 := awake16_call b
  have nw := kvnew_fn b
  have hL := fun H => lenOf_pairsC l H
  have fc := find_fn b l (some zzB) (by omega)
  have e1 : pV (some zzB) = zzV := rfl
  have e2 : pB (some zzB) = zzB := rfl
  rw [e1, e2] at fc
  have m1 : 2 ≤ maxLen := big_max (by decide)
  have rc := Root_call b (treeOf l none)
  have lc := Len_call b (treeOf l none) (by rw [treeOf_len hr]; omega)
  rw [treeOf_len hr] at lc
  have hl : (dI (Tn.hasho (treeOf l none))).length = 32 := by rw [len_dI]; cases treeOf l none with
    | none => exact shaW_len _
    | some t => exact t.hash_len
  have tr := ktree_fn b l (by omega) ho
  rw [fnX_eq, p23_eq]
  cases hc : l with
  | nil =>
    subst hc
    have pz := kvput_nil b zzB none (by decide) (by decide) (by decide)
    have cz := kvcut_fn b [(zzB, none)] (by decide) (by simp [Rise]) zzB (by decide) [] (by decide)
    have tn := ktree_nil b
    have f0 : findZ zzB [] = -1 := rfl
    have et : treeOf [] none = none := rfl
    have pn : pV none = .nilsl := rfl
    have sz : sOf ([] : List Pr).length [] = none := rfl
    rw [f0] at fc
    rw [et] at rc lc hl tr
    rw [sz] at lp
    generalize Tn.hasho none = R at *
    simp only [ksS, ksH, kvE, kvH, kvD, zz_sl, pn, List.map_cons, List.map_nil, List.length_nil, Int.natCast_zero, Int.ofNat_zero, pairsC_nil, prC, pairC] at *
    simp only [zzV] at *
    simp (maxSteps := 1000000) [p23, c0, v75, nw, gc, hL, lp, v76, pz, v42k, fc, v81, cz, v79, tn, tr, rc, lc, be41, hl, m1, frz177]
  | cons a r =>
    have hne : l ≠ [] := by rw [hc]; simp
    have sz : sOf l.length l = some l := by rw [hc]; simp [sOf]
    rw [sz] at lp
    have pn : pV none = .nilsl := rfl
    clear hc
    cases hk : isK zzB l with
    | true =>
      have hz := findZ_isK hk
      have pz := kvput_set b l (by omega) hr zzB none (by decide) (by decide) (by decide) hk
      generalize putP zzB none l = L at *
      generalize Tn.hasho (treeOf l none) = R at *
      simp only [ksS, ksH, kvE, kvH, zz_sl, pn] at *
      simp only [zzV] at *
      generalize l.map prC = M at *
      simp (maxSteps := 1000000) [p23, c0, v75, nw, gc, hL, lp, v76, pz, v42k, fc, hz, m1, frz177]
    | false =>
      have pz := kvput_ins b l (by omega) hr zzB none (by decide) (by decide) (by decide) hk
      have pk := posK_putP zzB none hk
      have plen := putP_len zzB none l
      have cz := kvcut_fn b (putP zzB none l) (by omega) hr.put zzB pk.2 l (by rw [pk.1]; exact cut_putP zzB none hk)
      clear pk plen
      generalize putP zzB none l = L at *
      by_cases hz : 0 ≤ findZ zzB l
      · generalize Tn.hasho (treeOf l none) = R at *
        simp only [ksS, ksH, kvE, kvH, kvD, zz_sl, pn] at *
        simp only [zzV] at *
        generalize l.map prC = M at *
        simp (maxSteps := 1000000) [p23, c0, v75, nw, gc, hL, lp, v76, pz, v42k, fc, hz, m1, frz177]
      · generalize Tn.hasho (treeOf l none) = R at *
        generalize treeOf l none = TT at *
        simp only [ksS, ksH, kvE, kvH, kvD, zz_sl, pn] at *
        simp only [zzV] at *
        generalize l.map prC = M at *
        simp (maxSteps := 1000000) [p23, c0, v75, nw, gc, hL, lp, v76, pz, v42k, fc, hz, v81, cz, v79, tr, rc, lc, be41, hl, m1, frz177]
end Go.Fm


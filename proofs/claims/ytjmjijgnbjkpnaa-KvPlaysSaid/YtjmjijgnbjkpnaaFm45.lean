/-
  A part of the proof: Fm45.
-/
import Derived.Test.YtjmjijgnbjkpnaaFm44
set_option linter.all false
set_option autoImplicit true
/-
  '==' by what a type is; choices.
-/
set_option linter.unusedSimpArgs false
set_option linter.unusedVariables false
namespace Go.Fm
open Go
section
variable {P : Program} {t e : TypeId} {x y : AV} {d : Nat}
def ptrEq (x y : AV) : Option Bool := match x, y with
  | .c .nilp, .c .nilp => some true
  | .c .nilp, .c (.ptr _ _ _) => some false
  | .c (.ptr _ _ _), .c .nilp => some false
  | .c .nilp, .ov _ _ _ => some false
  | .ov _ _ _, .c .nilp => some false
  | _, _ => none
def boolEq (x y : AV) : Option Bool := match x, y with
  | .c (.bool a), .c (.bool b) => some (a == b)
  | _, _ => none
def slEq (x y : AV) : Option Bool := match x, y with
  | .c .nilsl, .c .nilsl => some true
  | .c (.sl _ (_ :: _)), .c .nilsl => some false
  | _, _ => none
def arrEq (n : Nat) (k : IntKind) (x y : AV) : Option Bool := match x, y with
  | .c (.arr m k1 a), .c (.arr m' k2 b) => if m = n ∧ m' = n ∧ k1 = k ∧ k2 = k then some (a == b) else none
  | _, _ => none
theorem aeq_ptr (h : P.underlying t = some (.pointer e)) : aeq P (d + 1) t x y = ptrEq x y := by
  unfold aeq ptrEq
  rw [h]
  cases x with
  | c v => cases y with
    | c w => cases v <;> first | rfl | (cases w <;> rfl)
    | _ => cases v <;> rfl
  | _ => cases y with
    | c w => first | rfl | (cases w <;> rfl)
    | _ => rfl
theorem aeq_bool (h : P.underlying t = some .bool) : aeq P (d + 1) t x y = boolEq x y := by
  unfold aeq boolEq
  rw [h]
  cases x with
  | c v => cases y with
    | c w => cases v <;> first | rfl | (cases w <;> rfl)
    | _ => cases v <;> rfl
  | _ => cases y with
    | c w => first | rfl | (cases w <;> rfl)
    | _ => rfl
theorem ptrEq_nn : ptrEq (.c .nilp) (.c .nilp) = some true := (rfl)
theorem ptrEq_np {v : CV} {p : List Nat} {o : Nat} : ptrEq (.c .nilp) (.c (.ptr v p o)) = some false := (rfl)
theorem ptrEq_pn {v : CV} {p : List Nat} {o : Nat} : ptrEq (.c (.ptr v p o)) (.c .nilp) = some false := (rfl)
theorem ptrEq_no {i : Nat} {p : List Nat} {o : Nat} : ptrEq (.c .nilp) (.ov i p o) = some false := (rfl)
theorem ptrEq_on {i : Nat} {p : List Nat} {o : Nat} : ptrEq (.ov i p o) (.c .nilp) = some false := (rfl)
theorem boolEq_e {a b : Bool} : boolEq (.c (.bool a)) (.c (.bool b)) = some (a == b) := (rfl)
theorem slEq_nn : slEq (.c .nilsl) (.c .nilsl) = some true := (rfl)
theorem slEq_cn {n : Nat} {v : CV} {l : List CV} : slEq (.c (.sl n (v :: l))) (.c .nilsl) = some false := (rfl)
theorem arrEq_e {n : Nat} {k : IntKind} {a b : List Int} : arrEq n k (.c (.arr n k a)) (.c (.arr n k b)) = some (a == b) := by simp [arrEq]
end
attribute [simp] ptrEq_nn ptrEq_np ptrEq_pn ptrEq_no ptrEq_on boolEq_e slEq_nn slEq_cn arrEq_e
theorem isIS_r {x : AV} {y : CV} (h1 : ∀ k n, y ≠ .int k n) (h2 : ∀ s, y ≠ .str s) : isIS x (.c y) = false := by
  unfold isIS
  split
  · rename_i h; injection h with h; exact absurd h (h1 _ _)
  · rename_i h; injection h with h; exact absurd h (h2 _)
  · rfl
theorem isIS_nilp {x : AV} : isIS x (.c .nilp) = false := isIS_r (by simp) (by simp)
theorem isIS_ptr {x : AV} {v : CV} {p : List Nat} {o : Nat} : isIS x (.c (.ptr v p o)) = false := isIS_r (by simp) (by simp)
theorem isIS_nilsl {x : AV} : isIS x (.c .nilsl) = false := isIS_r (by simp) (by simp)
theorem isIS_bool {x : AV} {b : Bool} : isIS x (.c (.bool b)) = false := isIS_r (by simp) (by simp)
theorem isIS_agg {x : AV} {l : List CV} : isIS x (.c (.agg l)) = false := isIS_r (by simp) (by simp)
theorem isIS_arr {x : AV} {n : Nat} {k : IntKind} {l : List Int} : isIS x (.c (.arr n k l)) = false := isIS_r (by simp) (by simp)
attribute [simp] isIS_nilp isIS_ptr isIS_nilsl isIS_bool isIS_agg isIS_arr
section
variable {α : Type}
theorem ite_and {p : Prop} [Decidable p] (q : Bool) : (if p then AV.c (.bool q) else AV.c (.bool false)) = AV.c (.bool (decide p && q)) := by by_cases h : p <;> simp [h]
theorem ite_or {p : Prop} [Decidable p] (q : Bool) : (if p then AV.c (.bool true) else AV.c (.bool q)) = AV.c (.bool (decide p || q)) := by by_cases h : p <;> simp [h]
theorem guardR_s (p : Bool) (v : AV) (H : Heap) : guardR (some p) (some (v, H)) H = some (if p = true then v else AV.undef, H) := by cases p <;> rfl
end
/-! ### Drawn: with contents alone -/
def deadL (H : Heap) : Heap := killFrom (fun _ => true) 0 H
theorem deadL_len (H : Heap) : (deadL H).length = H.length := killFrom_len _ 0 H
theorem restFrom_t : ∀ (i : Nat) (H F : Heap), H.length ≤ F.length → restFrom (fun _ => true) i H F = H ++ F.drop H.length
  | i, [], F, h => by simp [restFrom]
  | i, b :: H, [], h => by simp at h
  | i, b :: H, c :: F, h => by
    simp only [restFrom, if_true, List.cons_append, List.length_cons, List.drop_succ_cons]
    rw [restFrom_t (i + 1) H F (by simpa using h)]
theorem blksAll_dead (p o : Nat → Bool) : ∀ (i : Nat) (H : Heap), blksAll p o i (killFrom (fun _ => true) i H) = true
  | i, [] => rfl
  | i, b :: H => by simp only [killFrom, if_true, blksAll, Blk.all, Bool.or_true, Bool.true_and]; exact blksAll_dead p o (i + 1) H
theorem blksAll_old (p o : Nat → Bool) : ∀ (i : Nat) (F : Heap), (∀ j b, F[j]? = some b → o (i + j) = true → b.all p = true) → blksAll p o i F = true
  | i, [], h => rfl
  | i, b :: F, h => by
    simp only [blksAll, Bool.and_eq_true, Bool.or_eq_true, Bool.not_eq_true']
    refine ⟨?_, blksAll_old p o (i + 1) F fun j c hj ho => h (j + 1) c (by simpa using hj) (by rw [← ho]; congr 1; omega)⟩
    cases ho : o i with
    | false => exact .inl rfl
    | true => exact .inr (h 0 b (by simp) (by simpa using ho))
theorem reach_c : ∀ (d : Nat) (H : Heap) (as : List AV), as.all AV.isC = true → as.flatMap (reachV (d + 1) H) = []
  | d, H, [], _ => rfl
  | d, H, a :: as, h => by
    simp only [List.all_cons, Bool.and_eq_true] at h
    cases a with
    | c v => simp only [List.flatMap_cons, reachV, List.nil_append, reach_c d H as h.2]
    | _ => simp [AV.isC] at h
theorem all_c (p : Nat → Bool) : ∀ (as : List AV), as.all AV.isC = true → (as.all fun v => v.all p) = true
  | [], _ => rfl
  | a :: as, h => by
    simp only [List.all_cons, Bool.and_eq_true] at h
    cases a with
    | c v => simp only [List.all_cons, AV.all, Bool.true_and, all_c p as h.2]
    | _ => simp [AV.isC] at h
/-- What comes of it. -/
def drawC (H : Heap) : Option (AV × Heap) → Option ((AV × Trail) × Heap)
  | some (v, F) => if v.all (fun i => decide (H.length ≤ i)) = true ∧ H.length ≤ F.length ∧ ((F.drop H.length).all fun b => b.all fun i => decide (H.length ≤ i)) = true then some ((v, (false, [], H.length, F.length)), H ++ F.drop H.length) else none
  | none => none
theorem own_t {H : Heap} : own (fun _ => true) (deadL H) = fun i => decide (H.length ≤ i) := by
  funext i
  simp [own, live, deadL_len]
theorem drawR_cont {rd : Bool} {vals : List AV} {f : Heap → Option (AV × Heap)} {H : Heap} (hv : vals.all AV.isC = true) {r : (AV × Trail) × Heap} (hr : drawC H (f (deadL H)) = some r) : drawR rd vals f H = some r := by
  rw [drawR_q, reach_c 23 H vals hv]
  unfold drawQ
  have hq : (fun id => !([] : List Nat).contains id) = fun _ => true := by funext i; simp
  simp only [hq]
  show (match f (deadL H) with | none => none | some (v, F') => _) = _
  cases hf : f (deadL H) with
  | none => rw [hf] at hr; simp [drawC] at hr
  | some x =>
    obtain ⟨v, F⟩ := x
    rw [hf] at hr
    simp only [drawC] at hr
    split at hr
    · rename_i hc
      simp only []
      have e : killFrom (fun _ => true) 0 H = deadL H := rfl
      have hb : blksAll (fun i => decide (H.length ≤ i)) (fun i => decide (H.length ≤ i)) 0 F = true := by
        refine blksAll_old _ _ 0 F fun j b hj ho => ?_
        have h3 := hc.2.2
        rw [List.all_eq_true] at h3
        simp only [Nat.zero_add, decide_eq_true_eq] at ho
        refine h3 b ?_
        rw [List.mem_iff_getElem?]
        exact ⟨j - H.length, by rw [List.getElem?_drop]; rw [← hj]; congr 1; omega⟩
      have hd := blksAll_dead (fun id => decide (id < H.length)) (fun _ => true) 0 H
      rw [e] at hd
      rw [e, own_t, if_pos ⟨hc.1, hb, rfl, all_c _ _ hv, hd⟩, restFrom_t 0 H F hc.2.1]
      simpa using hr
    · cases hr
theorem drawC_c (H : Heap) (v : CV) : drawC H (some (.c v, deadL H)) = some ((.c v, (false, [], H.length, H.length)), H) := by
  have h : (deadL H).drop H.length = [] := by rw [List.drop_eq_nil_iff, deadL_len]; exact Nat.le_refl _
  simp only [drawC, deadL_len, h]
  simp [AV.all]
theorem drawC_n (H : Heap) (v : AV) (b : Blk) (h1 : v.all (fun i => decide (H.length ≤ i)) = true) (h2 : b.all (fun i => decide (H.length ≤ i)) = true) : drawC H (some (v, deadL H ++ [b])) = some ((v, (false, [], H.length, H.length + 1)), H ++ [b]) := by
  have h : (deadL H ++ [b]).drop H.length = [b] := by rw [← deadL_len H, List.drop_left]
  simp only [drawC, h, List.length_append, deadL_len, List.length_cons, List.length_nil]
  simp [h1, h2]
/-- By the operands. -/
def drawX (g : Option ((AV × Trail) × Heap)) : Option ((AV × Trail) × Heap) → Option ((AV × Trail) × Heap)
  | some r => some r
  | none => g
/-- The same, left alone. -/
def drawOld (rd : Bool) (vals : List AV) (f : Heap → Option (AV × Heap)) (H : Heap) : Option ((AV × Trail) × Heap) := drawR rd vals f H
theorem drawX_c {g x x' : Option ((AV × Trail) × Heap)} (h : x = x') : drawX g x = drawX g x' := by rw [h]
theorem drawX_s (g : Option ((AV × Trail) × Heap)) (r : (AV × Trail) × Heap) : drawX g (some r) = some r := (rfl)
theorem drawR_x {rd : Bool} {vals : List AV} {f : Heap → Option (AV × Heap)} {H : Heap} (hv : vals.all AV.isC = true) : drawR rd vals f H = drawX (drawOld rd vals f H) (drawC H (f (deadL H))) := by
  cases h : drawC H (f (deadL H)) with
  | none => rfl
  | some r => exact drawR_cont hv h
attribute [congr] drawX_c
attribute [simp ↓ high] drawR_x
attribute [simp] drawX_s drawC_c drawC_n deadL_len
theorem bytesAV_length (bs : List UInt8) : (bytesAV bs).length = bs.length := by simp [bytesAV]
/-- A byte, by its place. -/
def nthB (bs : List UInt8) (i : Nat) : UInt8 := bs.getD i 0
theorem nthC_bytes {bs : List UInt8} {i : Nat} (h : i < bs.length) : nthC (bytesAV bs) i = .int .u8 ((nthB bs i).toNat : Int) := by
  simp [nthC, nthB, bytesAV, List.getElem?_map, List.getElem?_eq_getElem h, List.getD_eq_getElem?_getD]
theorem nthC_map {α : Type} {f : α → CV} {l : List α} {i : Nat} (d : α) (h : i < l.length) : nthC (l.map f) i = f (l.getD i d) := by
  simp [nthC, List.getElem?_map, List.getElem?_eq_getElem h, List.getD_eq_getElem?_getD]
attribute [simp] bytesAV_length nthC_bytes
/-- One after the other: who writes comes behind all; who looks, behind those that write or make. -/
def clashB : Nat → Nat → List Nat → List Trail → Bool
  | j, A, a :: ancs, (w, rs, s, t) :: r => (rs.isEmpty || (if w then a == 2 ^ j - 1 else (A &&& a) == A)) && clashB (j + 1) (if w || decide (s < t) then A ||| 2 ^ j else A) ancs r
  | _, _, [], _ :: _ => false
  | _, _, _, [] => true
theorem clashB_ok : ∀ (r : List Trail) (j A : Nat) (ancs : List Nat) (pre : List Trail) (all : List Nat), clashB j A ancs r = true → pre.length = j → (∀ i, all.getD (j + i) 0 = ancs.getD i 0) → (∀ k w rs s t, pre[k]? = some (w, rs, s, t) → (w = true ∨ s < t) → A.testBit k = true) →
    ∀ i x, r[i]? = some x → ∀ k, k < j + i → (all.getD (j + i) 0).testBit k = true ∨ clash (pre ++ r)[k]? (some x) = false
  | [], j, A, ancs, pre, all, h, hp, ha, hA, i, x, hi, k, hk => by simp at hi
  | y :: r, j, A, [], pre, all, h, hp, ha, hA, i, x, hi, k, hk => by obtain ⟨w, rs, s, t⟩ := y; simp [clashB] at h
  | (w, rs, s, t) :: r, j, A, a :: ancs, pre, all, h, hp, ha, hA, i, x, hi, k, hk => by
    simp only [clashB, Bool.and_eq_true] at h
    cases i with
    | zero =>
      simp only [List.getElem?_cons_zero, Option.some.injEq] at hi
      subst hi
      simp only [Nat.add_zero] at hk ⊢
      have e0 := ha 0
      simp only [Nat.add_zero] at e0
      have e0' : all.getD j 0 = a := by rw [e0]; rfl
      rw [e0']
      have hkp : k < pre.length := by omega
      rw [List.getElem?_append_left hkp, List.getElem?_eq_getElem hkp]
      obtain ⟨⟨w', rs', s', t'⟩, hpk⟩ : ∃ y, pre[k] = y := ⟨_, rfl⟩
      have hpk' : pre[k]? = some (w', rs', s', t') := by rw [List.getElem?_eq_getElem hkp, hpk]
      rw [hpk]
      rcases Bool.or_eq_true _ _ ▸ h.1 with h1 | h1
      · right
        have : rs = [] := by simpa using h1
        subst this
        rfl
      · cases w with
        | true =>
          left
          simp only [if_true, beq_iff_eq] at h1
          rw [h1, Nat.testBit_two_pow_sub_one]
          simpa using hk
        | false =>
          simp only [Bool.false_eq_true, if_false, beq_iff_eq] at h1
          by_cases hact : w' = true ∨ s' < t'
          · left
            have h2 := hA k w' rs' s' t' hpk' hact
            rw [← h1, Nat.testBit_and, Bool.and_eq_true] at h2
            exact h2.2
          · right
            have h3 : w' = false := by cases w' <;> simp_all
            have h4 : ¬ s' < t' := fun h => hact (.inr h)
            subst h3
            simp only [clash, Bool.or_false, Bool.false_and]
            rw [List.any_eq_false]
            intro id _
            simp
            omega
    | succ i =>
      have ih := clashB_ok r (j + 1) (if w || decide (s < t) then A ||| 2 ^ j else A) ancs (pre ++ [(w, rs, s, t)]) all h.2 (by simp [hp]) (fun i => by have := ha (i + 1); rw [show j + (i + 1) = j + 1 + i by omega] at this; rw [this]; rfl) (fun k w' rs' s' t' hk hact => by
        by_cases hkj : k < pre.length
        · rw [List.getElem?_append_left hkj] at hk
          have := hA k w' rs' s' t' hk hact
          split
          · rw [Nat.testBit_or, this]; rfl
          · exact this
        · have hlt := (List.getElem?_eq_some_iff.1 hk).1
          simp only [List.length_append, List.length_cons, List.length_nil] at hlt
          have hkj' : k = pre.length := by omega
          subst hkj'
          rw [List.getElem?_append_right (Nat.le_refl _)] at hk
          simp only [Nat.sub_self, List.getElem?_cons_zero, Option.some.injEq, Prod.mk.injEq] at hk
          obtain ⟨rfl, rfl, rfl, rfl⟩ := hk
          have hc : (w || decide (s < t)) = true := by simpa using hact
          rw [if_pos hc, Nat.testBit_or, ← hp, Nat.testBit_two_pow_self]
          simp) i x (by simpa using hi) k (by omega)
      rw [show j + (i + 1) = j + 1 + i by omega]
      simpa [List.append_assoc] using ih
theorem clashFree_B {ancs : List Nat} {hist : List Trail} (h : clashB 0 0 ancs hist = true) : clashFree ancs hist = true := by
  unfold clashFree
  rw [List.all_eq_true]
  intro j hj
  rw [List.all_eq_true]
  intro k hk
  simp only [List.mem_range] at hj hk
  have := clashB_ok hist 0 0 ancs [] ancs h rfl (fun i => by simp) (fun k w rs s t hk => by simp at hk) j hist[j] (List.getElem?_eq_getElem hj) k (by omega)
  simp only [Nat.zero_add, List.nil_append] at this
  rw [List.getElem?_eq_getElem hj]
  rcases this with h | h
  · rw [h]; rfl
  · rw [h]; simp
attribute [simp] clashFree_B clashB
attribute [simp] ite_and ite_or guardR_s
theorem all_undef {p : Nat → Bool} : AV.undef.all p = true := (rfl)
attribute [simp] all_undef
theorem drawM_s {v : AV} {H : Heap} : drawM (some v) H = some ((v, (false, [], H.length, H.length)), H) := by simp only [drawM, holdH_eq]
attribute [simp] drawM_s
end Go.Fm

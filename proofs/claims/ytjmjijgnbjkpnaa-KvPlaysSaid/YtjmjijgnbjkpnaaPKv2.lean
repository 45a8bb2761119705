/-
  A part of the proof: PKv2.
-/
import Derived.Test.YtjmjijgnbjkpnaaPKv1
import Derived.Test.YtjmjijgnbjkpnaaPBase2
import Derived.Test.YtjmjijgnbjkpnaaDKv
import Derived.Test.YtjmjijgnbjkpnaaDRef
set_option linter.all false
set_option autoImplicit true
/-
  kv.Store: Put.
-/
set_option autoImplicit false
set_option maxRecDepth 100000
set_option linter.unusedVariables false
set_option linter.unusedSimpArgs false
namespace Go.Fm
open Go Go.Proofs
def cvp (p : List AV → Heap → Option (AV × Heap)) : Option (List AV × Heap) → Option (AV × Heap)
  | some (xs, H) => p xs H
  | none => none
theorem cvp_s {p : List AV → Heap → Option (AV × Heap)} {xs : List AV} {H : Heap} : cvp p (some (xs, H)) = p xs H := (rfl)
theorem v37 {b : Bool} {H : Heap} {vs : List AV} : callX (cfg b) An 37 vs H = cvp insP (handCs (cfg b) true H vs) := by
  rw [callX_prim (p := insP) (by rfl)]
  have hk : (cfg b).keepA 37 = true := rfl
  rw [hk]
  cases handCs (cfg b) true H vs <;> rfl
theorem v38 {b : Bool} {H : Heap} {vs : List AV} : callX (cfg b) An 38 vs H = cvp delP (handCs (cfg b) true H vs) := by
  rw [callX_prim (p := delP) (by rfl)]
  have hk : (cfg b).keepA 38 = true := rfl
  rw [hk]
  cases handCs (cfg b) true H vs <;> rfl
section
variable {s : AV} {c d : Int} {x i : Nat} {v : CV} {H : Heap} {t : TypeId} {es : List CV}
def insZ (c : Int) (i x : Nat) (v : CV) (H : Heap) : Option Blk → Option (AV × Heap)
  | some (.row t sz es) => if (sz = 2 ∧ t = 59) ∧ i ≠ x ∧ (0 ≤ c ∧ c ≤ (es.length : Int)) ∧ (es.length + 1) * 48 ≤ 140737488355328 ∧ es.length + 1 ≤ maxLen then
              some (.os H.length, H.set i .dead ++ [.row 59 2 (es.take c.toNat ++ v :: es.drop c.toNat)]) else none
  | _ => none
def insY (s : AV) (c : Int) (x : Nat) (v : CV) (H : Heap) : Option (AV × Heap) := match s with
  | .c .nilsl => if c = 0 then some (.os H.length, H ++ [.row 59 2 [v]]) else none
  | .os i => insZ c i x v H H[i]?
  | _ => none
def insX (s : AV) (c : Int) (x : Nat) (H : Heap) : Option Blk → Option (AV × Heap)
  | some (.row _ sz' [v]) => if sz' = 2 then insY s c x v H else none
  | _ => none
theorem insP_e : insP [s, .c (.int .i64 c), .os x] H = insX s c x H H[x]? := by
  unfold insP
  simp only []
  generalize hq : H[x]? = q
  cases q with
  | none => rfl
  | some b => cases b with
    | row t sz es => cases es with
      | nil => rfl
      | cons v r => cases r with
        | nil =>
          simp only [insX, insY, insZ]
          by_cases h2 : sz = 2
          · rw [if_pos h2, if_pos h2]
            cases s with
            | c w => cases w <;> rfl
            | os i =>
              simp only []
              cases H[i]? with
              | none => rfl
              | some b => cases b <;> rfl
            | _ => rfl
          · rw [if_neg h2, if_neg h2]
        | cons _ _ => rfl
    | _ => rfl
theorem insX_s : insX s c x H (some (.row t 2 [v])) = insY s c x v H := (rfl)
theorem insY_n : insY (.c .nilsl) c x v H = if c = 0 then some (.os H.length, H ++ [.row 59 2 [v]]) else none := (rfl)
theorem insY_o : insY (.os i) c x v H = insZ c i x v H H[i]? := (rfl)
theorem insZ_s : insZ c i x v H (some (.row 59 2 es)) = if i ≠ x ∧ (0 ≤ c ∧ c ≤ (es.length : Int)) ∧ (es.length + 1) * 48 ≤ 140737488355328 ∧ es.length + 1 ≤ maxLen then
              some (.os H.length, H.set i .dead ++ [.row 59 2 (es.take c.toNat ++ v :: es.drop c.toNat)]) else none := by
  simp [insZ]
def delZ (c d : Int) (i : Nat) (H : Heap) : Option Blk → Option (AV × Heap)
  | some (.row t sz es) => if (sz = 2 ∧ t = 59) ∧ (0 ≤ c ∧ c < (es.length : Int)) ∧ d = c + 1 then
        some (.os H.length, H.set i .dead ++ [.row 59 2 (es.take c.toNat ++ es.drop (c.toNat + 1))]) else none
  | _ => none
theorem delP_e : delP [.os i, .c (.int .i64 c), .c (.int .i64 d)] H = delZ c d i H H[i]? := by
  unfold delP delZ
  simp only []
  cases H[i]? with
  | none => rfl
  | some b => cases b <;> rfl
theorem delZ_s : delZ c d i H (some (.row 59 2 es)) = if (0 ≤ c ∧ c < (es.length : Int)) ∧ d = c + 1 then
        some (.os H.length, H.set i .dead ++ [.row 59 2 (es.take c.toNat ++ es.drop (c.toNat + 1))]) else none := by
  simp [delZ]
end
attribute [simp] cvp_s insP_e insX_s insY_n insY_o insZ_s delP_e delZ_s
theorem eqg115 {b : Bool} : (cfg b).P.eqGuardType (cfg b).P.depth 45 = false := by kernel_rfl
theorem aeq115 {b : Bool} {x y : AV} : aeq (cfg b).P 12 45 x y = ptrEq x y := aeq_ptr (e := 82) (by kernel_rfl)
theorem be45 {b lit : Bool} {x y : AV} {H : Heap} (h : isIS x y = false) : mBin (cfg b) 45 lit .eql x y H = eqH H false (ptrEq x y) := by rw [mBin_eqg eqg115 h, aeq115]
theorem v36 {b : Bool} {H : Heap} {vs : List AV} : callX (cfg b) An 36 vs H = cvw (fnX (cfg b) An 36) (handCs (cfg b) true H vs) := callX_v (prim_none (by decide))
theorem kvnew_fn (b : Bool) : fnX (cfg b) An 14 [] [] = some (.ov 0 [] 0, kvE) := by
  rw [fnX_eq, p14_eq]
  simp only [kvE]
  simp [p14, frz82]
def kvD (l : List Pr) : Heap := [.var 82 (.agg [.os 2]), .dead, .row 59 2 (l.map prC)]
theorem cf_PKv2_aca0c1f6 : clashFree [0, 0, 2, 6, 14, 0, 0, 64, 254, 511, 1023, 2047] [(false, [], 2, 2), (false, [], 2, 2), (false, [0], 2, 2), (false, [0], 2, 2), (false, [0], 2, 2), (false, [], 2, 2), (false, [1], 2, 2), (false, [], 2, 3), (true, [2], 3, 4), (false, [0], 4, 4), (false, [0], 4, 4), (true, [0, 3], 4, 4)] = true := by decide
attribute [simp] cf_PKv2_aca0c1f6
theorem cf_PKv2_cf5db1de : clashFree [0, 0, 2, 6, 14, 0, 0, 64, 254, 511, 1023, 2047] [(false, [], 3, 3), (false, [], 3, 3), (false, [0, 1], 3, 3), (false, [0, 1], 3, 3), (false, [0, 1], 3, 3), (false, [], 3, 3), (false, [2], 3, 3), (false, [], 3, 4), (true, [1, 3], 4, 5), (false, [0, 1], 5, 5), (false, [0, 1], 5, 5), (true, [0, 1, 4], 5, 5)] = true := by decide
attribute [simp] cf_PKv2_cf5db1de
/-! CF -/
theorem split_pos (k : List UInt8) (l : List Pr) : l.takeWhile (ltk k) = l.take (posK k l) ∧ l.dropWhile (ltk k) = l.drop (posK k l) := by
  have key : ∀ (A B : List Pr), A ++ B = l → A = l.take A.length ∧ B = l.drop A.length := by rintro A B rfl; simp
  exact key _ _ List.takeWhile_append_dropWhile
theorem isK_split {k : List UInt8} {l : List Pr} (h : isK k l = true) : ∃ q r, l.drop (posK k l) = q :: r ∧ q.1 = k ∧ posK k l < l.length := by
  unfold isK at h
  simp only [Bool.and_eq_true, decide_eq_true_eq, beq_iff_eq] at h
  obtain ⟨h1, h2⟩ := h
  refine ⟨l[posK k l], l.drop (posK k l + 1), List.drop_eq_getElem_cons h1, ?_, h1⟩
  rw [List.getD_eq_getElem?_getD, List.getElem?_eq_getElem h1] at h2
  exact h2
theorem putP_set {k : List UInt8} {v : Option (List UInt8)} {l : List Pr} (h : isK k l = true) : putP k v l = l.set (posK k l) (k, v) := by
  obtain ⟨q, r, h1, h2, h3⟩ := isK_split h
  obtain ⟨e1, e2⟩ := split_pos k l
  rw [putP_eq, e1, e2, h1]
  simp only [tailP, h2, if_true]
  have hs : l.set (posK k l) (k, v) = (l.take (posK k l) ++ l.drop (posK k l)).set (posK k l) (k, v) := by rw [List.take_append_drop]
  have hl : (l.take (posK k l)).length = posK k l := by rw [List.length_take]; omega
  rw [hs, List.set_append_right _ _ (by omega), hl, Nat.sub_self, h1]
  rfl
theorem putP_ins {k : List UInt8} {v : Option (List UInt8)} {l : List Pr} (h : isK k l = false) : putP k v l = l.take (posK k l) ++ (k, v) :: l.drop (posK k l) := by
  obtain ⟨e1, e2⟩ := split_pos k l
  rw [putP_eq, e1, e2]
  congr 2
  cases hd : l.drop (posK k l) with
  | nil => rfl
  | cons q r =>
    have hlt : posK k l < l.length := by
      rcases Nat.lt_or_ge (posK k l) l.length with h | h
      · exact h
      · rw [List.drop_eq_nil_of_le h] at hd; cases hd
    have hq : l.getD (posK k l) default = q := by
      rw [List.drop_eq_getElem_cons hlt] at hd
      injection hd with hd _
      rw [List.getD_eq_getElem?_getD, List.getElem?_eq_getElem hlt]
      exact hd
    unfold isK at h
    rw [hq] at h
    simp only [hlt, decide_true, Bool.true_and] at h
    have : q.1 ≠ k := by simpa using h
    simp [tailP, this]
end Go.Fm

/-
  A part of the proof: Glue1.
-/
import Derived.Test.YtjmjijgnbjkpnaaFm45
import Derived.OpenShut
import Derived.Deep.Slices
import Derived.ChangeStays
import Derived.WalkKit
import Derived.ProofKit
import Derived.RowKit
set_option linter.all false
set_option autoImplicit true
/-
  Arguments of a law, read as contents.
-/
set_option maxRecDepth 100000
set_option linter.unusedVariables false
set_option linter.unusedSimpArgs false
namespace Go.Fm
open Go Go.ChangeShapes Go.WideShapes Go.Deep
/-- The shape of a plain type. -/
inductive Sh where
  | bool
  | int (k : IntKind)
  | sl (sz : Nat) (e : Sh)
  | st (fs : List Sh)
  | arr (n : Nat) (k : IntKind)
  deriving Inhabited
/-- What is of a shape (and of what weight the form of a claim lets in). -/
inductive Is : Sh → CV → Prop where
  | bool (b : Bool) : Is .bool (.bool b)
  | int (k : IntKind) (n : Int) (h : (Lit.int k n).wf = true) : Is (.int k) (.int k n)
  | nilsl (sz : Nat) (e : Sh) : Is (.sl sz e) .nilsl
  | sl (sz : Nat) (e : Sh) (es : List CV) (hl : es.length ≤ reachBytes) (h : ∀ x ∈ es, Is e x) : Is (.sl sz e) (.sl sz es)
  | st (fs : List Sh) (vs : List CV) (hl : vs.length = fs.length) (h : ∀ (i : Nat) (s : Sh) (v : CV), fs[i]? = some s → vs[i]? = some v → Is s v) : Is (.st fs) (.agg vs)
  | arr (n : Nat) (k : IntKind) (ns : List Int) (hl : ns.length = n) (h : ∀ x ∈ ns, (Lit.int k x).wf = true) : Is (.arr n k) (.arr n k ns)
def okFs (P : Program) (rec : TypeId → Sh → Bool) : Nat → List Field → List Sh → Bool
  | _, [], [] => true
  | o, f :: fs, s :: ss => f.offset == o && rec f.type s && okFs P rec (o + P.cellsOf f.type) fs ss
  | _, _, _ => false
def sumFs (P : Program) : List Field → Nat
  | [] => 0
  | f :: fs => P.cellsOf f.type + sumFs P fs
/-- Is a type of a shape? -/
def okSh (P : Program) : Nat → TypeId → Sh → Bool
  | 0, _, _ => false
  | d + 1, t, s => match P.underlying t, s with
    | some .bool, .bool => true
    | some (.int k), .int k' => k == k'
    | some (.slice e), .sl sz s => P.cellsOf e == sz && decide (0 < sz) && decide (0 < P.bytesOf e) && okSh P d e s
    | some (.struct fs), .st ss => okFs P (okSh P d) 0 fs.toList ss && P.cellsOf t == sumFs P fs.toList
    | some (.array n e), .arr m k => m == n && P.cellsOf e == 1 && P.cellsOf t == n && (match P.underlying e with
      | some (.int k') => k' == k
      | _ => false)
    | _, _ => false
theorem RL_of {w : World} {S : Nat → Nat → Prop} {sz : Nat} : ∀ (cs : List (List Value)) (vs : List CV), cs.length = vs.length → (∀ (i : Nat) (c : List Value) (v : CV), cs[i]? = some c → vs[i]? = some v → c.length = sz ∧ RC w S c v) → RL w S sz cs.flatten vs
  | [], [], _, _ => .nil _
  | c :: cs, v :: vs, hl, h => by
    have h0 := h 0 c v rfl rfl
    rw [List.flatten_cons]
    exact .cons sz c _ v vs h0.1 h0.2 (RL_of cs vs (by simpa using hl) fun i c' v' h1 h2 => h (i + 1) c' v' (by simpa using h1) (by simpa using h2))
  | [], _ :: _, hl, _ => by simp at hl
  | _ :: _, [], hl, _ => by simp at hl
theorem flatten_get {sz : Nat} (hs : 0 < sz) : ∀ (cs : List (List Value)), (∀ c ∈ cs, c.length = sz) → ∀ i v, cs.flatten[i]? = some v → ∃ c, cs[i / sz]? = some c ∧ c[i % sz]? = some v
  | [], _, i, v, h => by simp at h
  | c :: cs, hl, i, v, h => by
    have hc : c.length = sz := hl c (by simp)
    rw [List.flatten_cons] at h
    by_cases hi : i < sz
    · rw [List.getElem?_append_left (by omega)] at h
      exact ⟨c, by rw [Nat.div_eq_of_lt hi]; rfl, by rw [Nat.mod_eq_of_lt hi]; exact h⟩
    · rw [List.getElem?_append_right (by omega), hc] at h
      obtain ⟨c', h1, h2⟩ := flatten_get hs cs (fun c hc => hl c (by simp [hc])) (i - sz) v h
      refine ⟨c', ?_, ?_⟩
      · rw [Nat.div_eq_sub_div hs (by omega)]; simpa using h1
      · rw [Nat.mod_eq_sub_mod (by omega)]; exact h2
section
variable {H : Type} {enc : TypeId × Value → H} {P : Program} {w : World} {sp : Nat → Bool} {S : Nat → Nat → Prop}
theorem wAll {P : Program} {e : TypeId} : ∀ {ds : List (DataW H)}, (DataW.weightsAll P e ds).all (· ≤ reachBytes) = true → ∀ d ∈ ds, (d.weights P e).all (· ≤ reachBytes) = true
  | [], _, d, hd => by simp at hd
  | a :: ds, h, d, hd => by
    simp only [DataW.weightsAll, List.all_append, Bool.and_eq_true] at h
    rcases List.mem_cons.1 hd with rfl | hd
    · exact h.1
    · exact wAll h.2 d hd
theorem wEach {P : Program} : ∀ {ts : List TypeId} {ds : List (DataW H)}, (DataW.weightsEach P ts ds).all (· ≤ reachBytes) = true → ∀ (i : Nat) t d, ts[i]? = some t → ds[i]? = some d → (d.weights P t).all (· ≤ reachBytes) = true
  | [], _, _, i, t, d, h1, _ => by simp at h1
  | _ :: _, [], _, i, t, d, _, h2 => by simp at h2
  | t0 :: ts, d0 :: ds, h, i, t, d, h1, h2 => by
    simp only [DataW.weightsEach, List.all_append, Bool.and_eq_true] at h
    cases i with
    | zero =>
      simp only [List.getElem?_cons_zero, Option.some.injEq] at h1 h2
      subst h1 h2
      exact h.1
    | succ i => exact wEach h.2 i t d (by simpa using h1) (by simpa using h2)
theorem glueFs {n : Nat} {cs : List Value} {rec : TypeId → Sh → Bool}
    (ih : ∀ (t : TypeId) (s : Sh) (c : List Value) (x : DataW H × List MemPlace), rec t s = true → DataW.trod enc P w 0 sp true n t c = some x → c.length = P.cellsOf t → (x.1.weights P t).all (· ≤ reachBytes) = true → ∃ cv, Is s cv ∧ RC w S c cv) :
    ∀ (fs : List Field) (ss : List Sh) (o : Nat) (xs : List (DataW H × List MemPlace)), okFs P rec o fs ss = true → cs.length = o + sumFs P fs →
      (∀ (i : Nat) (f : Field), fs[i]? = some f → ∃ x, DataW.trod enc P w 0 sp true n f.type ((cs.drop f.offset).take (P.cellsOf f.type)) = some x ∧ (x.1.weights P f.type).all (· ≤ reachBytes) = true) →
      ∃ vs : List CV, vs.length = ss.length ∧ (∀ (i : Nat) (s : Sh) (v : CV), ss[i]? = some s → vs[i]? = some v → Is s v) ∧ RF w S (cs.drop o) vs
  | [], [], o, xs, _, hl, _ => by
    simp only [sumFs, Nat.add_zero] at hl
    exact ⟨[], rfl, fun i s v h => by simp at h, by rw [← hl, List.drop_length]; exact .nil⟩
  | f :: fs, s :: ss, o, xs, hok, hl, ht => by
    simp only [okFs, Bool.and_eq_true, beq_iff_eq] at hok
    simp only [sumFs] at hl
    obtain ⟨⟨ho, hr⟩, hrest⟩ := hok
    obtain ⟨x, hx, hxw⟩ := ht 0 f rfl
    obtain ⟨v, h1, h2⟩ := ih _ _ _ _ hr hx (by rw [List.length_take, List.length_drop]; omega) hxw
    obtain ⟨vs, k1, k2, k3⟩ := glueFs ih fs ss (o + P.cellsOf f.type) xs hrest (by omega) fun i f' hf => ht (i + 1) f' (by simpa using hf)
    refine ⟨v :: vs, by simp [k1], fun i s' v' h1' h2' => ?_, ?_⟩
    · cases i with
      | zero =>
        simp only [List.getElem?_cons_zero, Option.some.injEq] at h1' h2'
        subst h1' h2'; exact h1
      | succ i => exact k2 i s' v' (by simpa using h1') (by simpa using h2')
    · have e : cs.drop o = (cs.drop o).take (P.cellsOf f.type) ++ cs.drop (o + P.cellsOf f.type) := by
        rw [← List.drop_drop, List.take_append_drop]
      rw [e]
      rw [ho] at h2
      exact .cons _ _ v vs h2 k3
  | [], _ :: _, _, _, h, _, _ => by simp [okFs] at h
  | _ :: _, [], _, _, h, _, _ => by simp [okFs] at h
theorem glue (hS : ∀ b o, S b o) : ∀ (d : Nat) (t : TypeId) (s : Sh) (n : Nat) (cs : List Value) (x : DataW H × List MemPlace), okSh P d t s = true → DataW.trod enc P w 0 sp true n t cs = some x → (x.1.weights P t).all (· ≤ reachBytes) = true → ∃ cv, Is s cv ∧ RC w S cs cv
  | 0, _, _, _, _, _, h, _, _ => by simp [okSh] at h
  | d + 1, t, s, n, cs, x, h, hx, hw => by
    unfold okSh at h
    split at h
    · rename_i hu
      obtain ⟨b, rfl, _⟩ := DataW.trod_bool hu hx
      exact ⟨_, .bool b, .bool b⟩
    · rename_i k k' hu
      obtain ⟨z, rfl, _, hwf⟩ := DataW.trod_int hu hx
      simp only [beq_iff_eq] at h
      subst h
      exact ⟨_, .int k z hwf, .int k z⟩
    · rename_i e sz s' hu
      simp only [Bool.and_eq_true, beq_iff_eq, decide_eq_true_eq] at h
      obtain ⟨⟨⟨hc, hpos⟩, hby⟩, hrec⟩ := h
      rcases open_slice hu hx with ⟨rfl, _⟩ | ⟨a, len, cap, m, n', D, Pl, rfl, hb, hlen, hm, hmm, rfl, hel⟩
      · exact ⟨.nilsl, .nilsl _ _, .nilsl⟩
      · have hlm : len ≤ m := by rw [hmm]; split <;> omega
        simp only [DataW.weights, hu, List.all_cons, List.all_append, Bool.and_eq_true, decide_eq_true_eq, List.length_map, List.length_range] at hw
        obtain ⟨hw0, hw1, _⟩ := hw
        have hwl : len ≤ reachBytes := by
          have : (len + (m - len)) * 1 ≤ (len + (m - len)) * P.bytesOf e := Nat.mul_le_mul_left _ hby
          omega
        have hwe : ∀ i, i < len → ((D i).weights P e).all (· ≤ reachBytes) = true := fun i hi => wAll hw1 (D i) (List.mem_map.2 ⟨i, List.mem_range.2 hi, rfl⟩)
        by_cases h0 : len = 0
        · subst h0
          exact ⟨.sl sz [], .sl _ _ _ (by simp) (by simp), .sl0 _ _ _ hm⟩
        have hex : ∀ i, i < len → ∃ y : List Value × CV, w.cells? 0 (a.add (i * P.cellsOf e)) (P.cellsOf e) = some y.1 ∧ Is s' y.2 ∧ RC w S y.1 y.2 := fun i hi => by
          obtain ⟨cs', h1, h2⟩ := hel i (by omega)
          obtain ⟨cv, h3, h4⟩ := glue hS d e s' n' cs' _ hrec h2 (hwe i hi)
          exact ⟨(cs', cv), h1, h3, h4⟩
        haveI : Inhabited (List Value × CV) := ⟨([], .nilp)⟩
        obtain ⟨f, hf⟩ := choose_lt hex
        have hspot : a.spot = none := by
          have h1 := (hf 0 (by omega)).1
          obtain ⟨_, hl1, hc1⟩ := World.cells?_some h1
          have := hc1 0 (by omega)
          have hcs : ∃ v, (f 0).1[0]? = some v := ⟨(f 0).1[0]'(by omega), List.getElem?_eq_getElem (by omega)⟩
          obtain ⟨v, hv⟩ := hcs
          rw [hv] at this
          have := World.cell?_spot this
          simpa [Addr.add] using this
        obtain ⟨b, o, spot⟩ := a
        simp only at hspot
        subst hspot
        have hfl : ∀ c ∈ (List.range len).map (fun i => (f i).1), c.length = sz := by
          intro c hc'
          simp only [List.mem_map, List.mem_range] at hc'
          obtain ⟨i, hi, rfl⟩ := hc'
          obtain ⟨_, hl1, _⟩ := World.cells?_some (hf i hi).1
          rw [hl1, hc]
        refine ⟨.sl sz ((List.range len).map fun i => (f i).2), .sl _ _ _ (by simp; omega) (fun x hx' => ?_), ?_⟩
        · simp only [List.mem_map, List.mem_range] at hx'
          obtain ⟨i, hi, rfl⟩ := hx'
          exact (hf i hi).2.1
        · have hlenes : ((List.range len).map fun i => (f i).2).length = len := by simp
          have := RC.sl (w := w) (S := S) b o cap sz ((List.range len).map fun i => (f i).2) ((List.range len).map fun i => (f i).1).flatten ?_ ?_ (by simpa using hlen) hm
          · rw [hlenes] at this
            exact this
          · intro i v hv
            obtain ⟨c, h1, h2⟩ := flatten_get hpos _ hfl i v hv
            rw [List.getElem?_map, Option.map_eq_some_iff] at h1
            obtain ⟨j, hj, rfl⟩ := h1
            obtain ⟨hjl, hj'⟩ := List.getElem?_eq_some_iff.1 hj
            simp only [List.length_range] at hjl
            simp only [List.getElem_range] at hj'
            subst hj'
            obtain ⟨_, hl1, hc1⟩ := World.cells?_some (hf _ hjl).1
            have hmod : i % sz < P.cellsOf e := by rw [hc]; exact Nat.mod_lt _ hpos
            have := hc1 (i % sz) hmod
            rw [h2, add_plain, add_plain, hc] at this
            refine ⟨?_, hS _ _⟩
            rw [← this]
            congr 2
            have := Nat.div_add_mod i sz
            rw [Nat.mul_comm] at this
            omega
          · refine RL_of _ _ (by simp) fun i c v h1 h2 => ?_
            rw [List.getElem?_map, Option.map_eq_some_iff] at h1 h2
            obtain ⟨j, hj, rfl⟩ := h1
            obtain ⟨j', hj', rfl⟩ := h2
            rw [hj] at hj'
            obtain rfl := Option.some.inj hj'
            obtain ⟨hjl, hj'⟩ := List.getElem?_eq_some_iff.1 hj
            simp only [List.length_range] at hjl
            simp only [List.getElem_range] at hj'
            subst hj'
            refine ⟨?_, (hf _ hjl).2.2⟩
            obtain ⟨_, hl1, _⟩ := World.cells?_some (hf _ hjl).1
            rw [hl1, hc]
    · rename_i fs ss hu
      simp only [Bool.and_eq_true, beq_iff_eq] at h
      obtain ⟨xs, n', rfl, rfl, hl, hxl, hf⟩ := DataW.trod_struct hu hx
      obtain ⟨vs, h1, h2, h3⟩ := glueFs (cs := cs) (rec := okSh P d) (n := n') (S := S) (fun t s c x hr hx _ hxw => glue hS d t s n' c x hr hx hxw) fs.toList ss 0 xs h.1 (by rw [hl]; omega) (fun i f hi => by
        have hi' : fs[i]? = some f := by simpa using hi
        have := hf i f hi'
        obtain ⟨hil, _⟩ := Array.getElem?_eq_some_iff.1 hi'
        rw [List.getElem?_eq_getElem (by omega)] at this
        refine ⟨_, this, ?_⟩
        simp only [DataW.weights, hu] at hw
        exact wEach hw i _ _ (by rw [List.getElem?_map, hi]; rfl) (by rw [List.getElem?_map, List.getElem?_eq_getElem (by omega)]; rfl))
      exact ⟨.agg vs, .st _ _ h1 h2, .agg _ _ (by simpa using h3)⟩
    · rename_i m e m' k hu
      simp only [Bool.and_eq_true, beq_iff_eq] at h
      obtain ⟨⟨⟨hm, hc⟩, hct⟩, hk⟩ := h
      subst hm
      split at hk
      · rename_i k' hk'
        simp only [beq_iff_eq] at hk
        subst hk
        obtain ⟨xs, n', rfl, _, hl, hxl, hf⟩ := DataW.trod_array hu hx
        have hcell : ∀ i, i < cs.length → ∃ z, cs[i]? = some (.int k' z) ∧ (Lit.int k' z).wf = true := fun i hi => by
          have h1 := hf i (by omega)
          rw [List.getElem?_eq_getElem (by omega), hc, Nat.mul_one] at h1
          obtain ⟨z, h2, _, h3⟩ := DataW.trod_int hk' h1
          refine ⟨z, ?_, h3⟩
          have : ((cs.drop i).take 1)[0]? = some (Value.int k' z) := by rw [h2]; rfl
          simpa [List.getElem?_take, List.getElem?_drop] using this
        have hns : ∀ l : List Value, (∀ i, i < l.length → ∃ z, l[i]? = some (.int k' z) ∧ (Lit.int k' z).wf = true) → ∃ ns : List Int, l = ns.map (.int k') ∧ ∀ x ∈ ns, (Lit.int k' x).wf = true := by
          intro l
          induction l with
          | nil => intro _; exact ⟨[], rfl, by simp⟩
          | cons v l ih =>
            intro hl
            obtain ⟨z, h1, h2⟩ := hl 0 (by simp)
            simp only [List.getElem?_cons_zero, Option.some.injEq] at h1
            obtain ⟨ns, rfl, h4⟩ := ih fun i hi => by
              obtain ⟨z, h1, h2⟩ := hl (i + 1) (by simp; omega)
              exact ⟨z, by simpa using h1, h2⟩
            exact ⟨z :: ns, by simp [h1], fun x hx => by
              simp only [List.mem_cons] at hx
              rcases hx with rfl | hx
              · exact h2
              · exact h4 x hx⟩
        obtain ⟨ns, rfl, hns2⟩ := hns cs hcell
        have hnl : ns.length = m' := by simpa [hct] using hl
        exact ⟨.arr m' k' ns, .arr _ _ _ hnl hns2, .arr m' k' ns hnl⟩
      · simp at hk
    · simp at h
/-- Is this shape's value one cell? -/
def Sh.isAgg : Sh → Bool
  | .st _ | .arr _ _ => true
  | _ => false
theorem glueV (hS : ∀ b o, S b o) {g : Gh} {d : Nat} {t : TypeId} {s : Sh} {v : Value} {dd : DataW H} {p : List MemPlace} {r : Reach} {b0 : Nat} (h : okSh P d t s = true) (hval : Value.okWide P w r b0 t v) (hd : DataW.Trod enc P w 0 sp true t v dd p) (hw : (dd.weights P t).all (· ≤ reachBytes) = true) :
    ∃ cv, Is s cv ∧ RV g w S v (.c cv) := by
  obtain ⟨n, hn⟩ := hd
  obtain ⟨cv, h1, h2⟩ := glue hS d t s n _ _ h hn hw
  refine ⟨cv, h1, ?_⟩
  cases d with
  | zero => simp [okSh] at h
  | succ d =>
    unfold okSh at h
    split at h
    · rename_i hu
      obtain ⟨b, rfl⟩ := okWide_bool hu hval
      cases h1; exact .one _ _ (.c _ _ h2) rfl
    · rename_i hu
      obtain ⟨b, rfl⟩ := okWide_int hu hval
      cases h1; exact .one _ _ (.c _ _ h2) rfl
    · rename_i hu
      obtain ⟨a, l, c, rfl⟩ := okWide_slice hu hval
      cases h1 <;> exact .one _ _ (.c _ _ h2) rfl
    · rename_i hu
      unfold Value.okWide at hval
      rw [hu] at hval
      obtain ⟨cs, rfl, _⟩ := hval
      cases h1
      exact .agg cs.toList _ (.c _ _ h2) rfl
    · rename_i hu
      unfold Value.okWide at hval
      rw [hu] at hval
      obtain ⟨cs, rfl, _⟩ := hval
      cases h1
      exact .agg cs.toList _ (.c _ _ h2) rfl
    · simp at h
/-- All of a call's arguments. -/
theorem glueAll (hS : ∀ b o, S b o) {g : Gh} {r : Reach} {b0 : Nat} : ∀ (ts : List TypeId) (ss : List Sh) (vs : List Value) (ds : List (DataW H)) (p : List MemPlace), ts.length = ss.length →
    (∀ (i : Nat) (t : TypeId) (s : Sh), ts[i]? = some t → ss[i]? = some s → ∃ d, okSh P d t s = true) →
    (∀ (j : Nat) (t : TypeId) (v : Value), ts[j]? = some t → vs[j]? = some v → Value.okWide P w r b0 t v) →
    DataW.TrodAll enc P w 0 sp true ts vs ds p → (DataW.weightsEach P ts ds).all (· ≤ reachBytes) = true → ∃ cvs : List CV, cvs.length = ss.length ∧ (∀ (i : Nat) (s : Sh) (v : CV), ss[i]? = some s → cvs[i]? = some v → Is s v) ∧ RVs g w S vs (cvs.map .c)
  | [], [], vs, ds, p, _, _, _, h, _ => by
    obtain ⟨rfl, rfl, rfl⟩ := trodAll_nil h
    exact ⟨[], rfl, fun i s v h => by simp at h, .nil⟩
  | t :: ts, s :: ss, vs, ds, p, hl, hok, hval, h, hw => by
    obtain ⟨v, vs', d, ds', p', q', rfl, rfl, rfl, h1, h2⟩ := trodAll_cons h
    simp only [DataW.weightsEach, List.all_append, Bool.and_eq_true] at hw
    obtain ⟨dd, hdd⟩ := hok 0 t s rfl rfl
    obtain ⟨cv, k1, k2⟩ := glueV hS (g := g) hdd (hval 0 t v rfl rfl) h1 hw.1
    obtain ⟨cvs, m1, m2, m3⟩ := glueAll hS (g := g) ts ss vs' ds' q' (by simpa using hl) (fun i t s h1 h2 => hok (i + 1) t s (by simpa using h1) (by simpa using h2)) (fun j t v h1 h2 => hval (j + 1) t v (by simpa using h1) (by simpa using h2)) h2 hw.2
    refine ⟨cv :: cvs, by simp [m1], fun i s' v' h1' h2' => ?_, .cons _ _ _ _ k2 m3⟩
    cases i with
    | zero =>
      simp only [List.getElem?_cons_zero, Option.some.injEq] at h1' h2'
      subst h1' h2'; exact k1
    | succ i => exact m2 i s' v' (by simpa using h1') (by simpa using h2')
  | [], _ :: _, _, _, _, hl, _, _, _, _ => by simp at hl
  | _ :: _, [], _, _, _, hl, _, _, _, _ => by simp at hl
/-- The same arguments read the same behind a call that keeps the old world. -/
theorem trodAll_stays {w' : World} {sp' : Nat → Bool} {T : TypeId → Prop} (K : Kids P T) (hsz : ∀ {t e : TypeId}, T t → P.underlying t = some (.slice e) → 0 < P.cellsOf e) :
    ∀ (ts : List TypeId) (vs : List Value) (ds : List (DataW H)) (p : List MemPlace), (∀ t ∈ ts, T t) → (∀ x ∈ p, w.sameAt w' x) → (∀ x ∈ p, sp' x.block = true) →
    DataW.TrodAll enc P w 0 (fun _ => true) true ts vs ds p → DataW.TrodAll enc P w' 0 sp' true ts vs ds p
  | [], vs, ds, p, _, _, _, h => by
    obtain ⟨rfl, rfl, rfl⟩ := trodAll_nil h
    exact trodAll_mk0
  | t :: ts, vs, ds, p, hT, hs, hb, h => by
    obtain ⟨v, vs', d, ds', p', q', rfl, rfl, rfl, ⟨n, h1⟩, h2⟩ := trodAll_cons h
    refine trodAll_cons_mk ⟨n, DataW.trod_stays K hsz (fun h => by simp at h) (hT t (by simp)) h1 (fun x hx => hs x (by simp only [List.mem_append]; exact .inl hx)) (fun x hx => hb x (by simp only [List.mem_append]; exact .inl hx))⟩ ?_
    exact trodAll_stays K hsz ts vs' ds' q' (fun t ht => hT t (by simp [ht])) (fun x hx => hs x (by simp only [List.mem_append]; exact .inr hx)) (fun x hx => hb x (by simp only [List.mem_append]; exact .inr hx)) h2
end
theorem Kept.sameAt {w w' : World} (h : Kept w w') (x : MemPlace) (hx : x.block < w.heap.size) : w.sameAt w' x := by
  cases x with
  | cell b o => simp only [World.sameAt, World.cell?]; rw [h.heap b hx]
  | map b => exact h.heap b hx
/-- No slice is of nothings. -/
def slicesFit (P : Program) : Bool := (List.range P.types.size).all fun t => match P.underlying t with
  | some (.slice e) => decide (0 < P.cellsOf e)
  | _ => true
theorem slicesFit_of {P : Program} (h : slicesFit P = true) {t e : TypeId} (ht : t < P.types.size) (hu : P.underlying t = some (.slice e)) : 0 < P.cellsOf e := by
  unfold slicesFit at h
  rw [List.all_eq_true] at h
  have := h t (List.mem_range.2 ht)
  rw [hu] at this
  simpa using this
end Go.Fm
namespace Go.Fm
open Go Go.ChangeShapes Go.WideShapes Go.Deep Go.RowKit
theorem okAll_of {P : Program} {n : Nat} : ∀ {ts : List TypeId} {ss : List Sh}, ((ts.zip ss).all fun x => okSh P n x.1 x.2) = true → ∀ (i : Nat) (t : TypeId) (s : Sh), ts[i]? = some t → ss[i]? = some s → ∃ d, okSh P d t s = true := by
  intro ts ss h i t s h1 h2
  refine ⟨n, ?_⟩
  rw [List.all_eq_true] at h
  refine h (t, s) ?_
  rw [List.mem_iff_getElem?]
  exact ⟨i, by simp [List.getElem?_zip_eq_some, h1, h2]⟩
/-- What a law's row asks, of a call that gives true and keeps the old world. -/
theorem post_of_true {H : Type} {enc : TypeId × Value → H} {P : Program} {f : Func} {s : ChangeSpec} {W W' : World} {args : Array Value} {ds : List (DataW H)} {before : List MemPlace} {ts : List TypeId} {b : TypeId}
    (hts : f.params.toList = ts) (hrt : f.resultTypes = #[b]) (hb : P.underlying b = some .bool) (hsv : s.vars = [])
    (hW : DataW.Whole enc P f.params.toList s.vars false W args.toList ds [] before) (hA : DataW.TrodAll enc P W 0 (fun _ => true) true ts args.toList ds before)
    (hfn : s.fn H (ds ++ []) = { results := [.lit (.bool true)], args := ds }) (hk : Kept W W')
    (hl : laidOutB P = true) (hm : mapsRowed P = true) (hs : slicesFit P = true) (hsz : ∀ t ∈ ts, t < P.types.size) :
    s.post enc P f false true false false W args (.bool true) W' := by
  have hvr : (Value.bool true).resultList f.resultTypes.size = [Value.bool true] := by rw [hrt]; rfl
  refine post_of_kept (pa := before) (pv := []) hW ?_ ?_ ?_ (by simp) hk ?_
  · intro b' sp hd
    rw [hfn, hvr, hrt]
    exact trodAll_cons_mk (shut_bool hb _) trodAll_mk0
  · intro sp hsp
    rw [hfn, hts]
    exact trodAll_stays (kids_rows hl hm) (fun ht hu => slicesFit_of hs ht hu) ts _ _ _ hsz (fun x hx => hk.sameAt x (hW.lt x hx)) hsp hA
  · intro sp _
    rw [hfn, hsv]
    rfl
  · intro j t r h1 h2
    rw [hvr] at h2
    rw [hrt] at h1
    cases j with
    | zero =>
      simp at h1 h2
      subst h1 h2
      exact okWide_bool_mk hb _
    | succ j => simp at h1
end Go.Fm

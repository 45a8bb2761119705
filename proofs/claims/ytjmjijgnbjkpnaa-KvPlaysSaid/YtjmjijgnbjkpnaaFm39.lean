/-
  A part of the proof: Fm39.
-/
import Derived.Test.YtjmjijgnbjkpnaaFm38
set_option linter.all false
set_option autoImplicit true
/-
  What calls come to at the limit solves their equation.
-/
set_option linter.unusedSimpArgs false
set_option linter.unusedVariables false
namespace Go.Fm
open Go
def Tends {β : Type} (F : Nat → Option β) (G : Option β) : Prop := ∀ r, G = some r → ∃ n, ∀ m, n ≤ m → F m = some r
theorem Tends.const {β : Type} (G : Option β) : Tends (fun _ => G) G := fun r h => ⟨0, fun _ _ => h⟩
theorem Tends.bindE {β γ : Type} {F : Nat → Option (β × Heap)} {G : Option (β × Heap)} {kF : Nat → β → Heap → Option γ} {kG : β → Heap → Option γ} (h : Tends F G) (hk : ∀ v H, Tends (fun n => kF n v H) (kG v H)) :
    Tends (fun n => Fm.bindE (F n) (kF n)) (Fm.bindE G kG) := by
  intro r hr
  obtain ⟨v, H, h1, h2⟩ := bindE_some hr
  obtain ⟨n, hn⟩ := h _ h1
  obtain ⟨m, hm⟩ := hk v H _ h2
  exact ⟨n + m, fun i hi => by show Fm.bindE (F i) (kF i) = _; rw [hn i (by omega)]; exact hm i (by omega)⟩
section
variable {C : Cfg} {cf : CallFn} {cs : Nat → CallFn} {α : Type}
theorem astep_cf {e : Env} {H : Heap} {o : Oper} {r : AV × Heap} (h : astep C cf e H o = some r) :
    (∀ cf' : CallFn, astep C cf' e H o = some r) ∨ ∃ f args, cf f args H = some r ∧ ∀ cf' : CallFn, cf' f args H = some r → astep C cf' e H o = some r := by
  have key : (∃ f args, ∀ cf' : CallFn, astep C cf' e H o = cf' f args H) ∨ ∃ x, ∀ cf' : CallFn, astep C cf' e H o = x := by
    unfold astep
    cases o.op with
    | call c =>
      simp only []
      cases hc : c.callee with
      | builtin b => exact .inr ⟨_, fun _ => rfl⟩
      | value f =>
        simp only []
        split
        · exact .inl ⟨_, _, fun _ => rfl⟩
        · exact .inl ⟨_, _, fun _ => rfl⟩
        · exact .inr ⟨_, fun _ => rfl⟩
      | _ => exact .inr ⟨_, fun _ => rfl⟩
    | makeFunc fn first cap => cases fn <;> exact .inr ⟨_, fun _ => rfl⟩
    | slice t x lo hi mx => cases mx <;> exact .inr ⟨_, fun _ => rfl⟩
    | makeMap t r => cases r <;> exact .inr ⟨_, fun _ => rfl⟩
    | _ => exact .inr ⟨_, fun _ => rfl⟩
  rcases key with ⟨f, args, hk⟩ | ⟨x, hk⟩
  · exact .inr ⟨f, args, by rw [← hk cf]; exact h, fun cf' h' => by rw [hk cf']; exact h'⟩
  · exact .inl fun cf' => by rw [hk cf', ← hk cf]; exact h
theorem astep_tends (hcs : ∀ f args H, Tends (fun n => cs n f args H) (cf f args H)) (e : Env) (H : Heap) (o : Oper) : Tends (fun n => astep C (cs n) e H o) (astep C cf e H o) := by
  intro r hr
  rcases astep_cf hr with h | ⟨f, args, h1, h2⟩
  · exact ⟨0, fun m _ => h _⟩
  · obtain ⟨n, hn⟩ := hcs f args H r h1
    exact ⟨n, fun m hm => h2 _ (hn m hm)⟩
theorem stepW_tends (hcs : ∀ f args H, Tends (fun n => cs n f args H) (cf f args H)) (all : List Oper) (e : Env) (H : Heap) (o : Oper) : Tends (fun n => stepW C (cs n) all e H o) (stepW C cf all e H o) := by
  unfold stepW
  cases wantedA all e o with
  | none => exact .const _
  | some b => cases b with
    | true => exact astep_tends hcs e H o
    | false => exact .const _
theorem opsK_tends (hcs : ∀ f args H, Tends (fun n => cs n f args H) (cf f args H)) (all : List Oper) {kF : Nat → Env → Heap → Option α} {kG : Env → Heap → Option α} (hk : ∀ e H, Tends (fun n => kF n e H) (kG e H)) :
    ∀ (l : List Oper) (e : Env) (H : Heap), Tends (fun n => opsK C (cs n) all l e H (kF n)) (opsK C cf all l e H kG)
  | [], e, H => hk e H
  | o :: l, e, H => (stepW_tends hcs all e H o).bindE fun v H' => by simp only [forceE_eq]; exact opsK_tends hcs all hk l _ H'
theorem drawR_tends {rd : Bool} {vals : List AV} {fF : Nat → Heap → Option (AV × Heap)} {fG : Heap → Option (AV × Heap)} (hf : ∀ H, Tends (fun n => fF n H) (fG H)) (H : Heap) : Tends (fun n => drawR rd vals (fF n) H) (drawR rd vals fG H) := by
  intro r hr
  unfold drawR at hr ⊢
  simp only at hr ⊢
  split at hr
  · simp at hr
  · rename_i v F' h1
    obtain ⟨n, hn⟩ := hf _ _ h1
    dsimp only at hn
    exact ⟨n, fun m hm => by (try dsimp only); rw [hn m hm]; exact hr⟩
theorem drawW_tends (hcs : ∀ f args H, Tends (fun n => cs n f args H) (cf f args H)) (all : List Oper) (e : Env) (H : Heap) (o : Oper) : Tends (fun n => drawW C (cs n) all e H o) (drawW C cf all e H o) := by
  unfold drawW
  cases wantedA all e o with
  | none => exact .const _
  | some b => cases b with
    | true => cases moved o with
      | some x => exact .const _
      | none => exact drawR_tends (fun H => astep_tends hcs e H o) H
    | false => exact .const _
theorem drawK_tends (hcs : ∀ f args H, Tends (fun n => cs n f args H) (cf f args H)) (all : List Oper) {kF : Nat → Env → Heap → List Trail → Option α} {kG : Env → Heap → List Trail → Option α} (hk : ∀ e H hist, Tends (fun n => kF n e H hist) (kG e H hist)) :
    ∀ (l : List Oper) (hist : List Trail) (e : Env) (H : Heap), Tends (fun n => drawK C (cs n) all l hist e H (kF n)) (drawK C cf all l hist e H kG)
  | [], hist, e, H => hk e H hist
  | o :: l, hist, e, H => (drawW_tends hcs all e H o).bindE fun v H' => by simp only [forceE_eq]; exact drawK_tends hcs all hk l _ _ H'
theorem twice_tends {ancs : List Nat} {pF : Nat → Heap → Option ((List AV × List Trail) × Heap)} {pG : Heap → Option ((List AV × List Trail) × Heap)} (hp : ∀ H, Tends (fun n => pF n H) (pG H)) (H : Heap) : Tends (fun n => twice ancs (pF n) H) (twice ancs pG H) := by
  intro r hr
  unfold twice at hr ⊢
  split at hr
  · simp at hr
  · rename_i vs hist H' h1
    obtain ⟨n, hn⟩ := hp _ _ h1
    dsimp only at hn
    split at hr
    · rename_i hc
      exact ⟨n, fun m hm => by (try dsimp only); rw [hn m hm]; (try dsimp only); rw [if_pos hc]; exact hr⟩
    · rename_i hc
      split at hr
      · simp at hr
      · rename_i H0 hf
        split at hr
        · simp at hr
        · rename_i vs2 hist2 H2 h2
          obtain ⟨n2, hn2⟩ := hp _ _ h2
          dsimp only at hn2
          exact ⟨n + n2, fun m hm => by (try dsimp only); rw [hn m (by omega)]; (try dsimp only); rw [if_neg hc, hf]; (try dsimp only); rw [hn2 m (by omega)]; exact hr⟩
theorem drawPass_tends (hcs : ∀ f args H, Tends (fun n => cs n f args H) (cf f args H)) (outs : List Tmp) (ops : List Oper) (e : Env) (H : Heap) : Tends (fun n => drawPass C (cs n) outs ops e H) (drawPass C cf outs ops e H) :=
  drawK_tends hcs ops (kF := fun _ e' H' hist => match projL outs e' with
    | some vs => some ((vs, hist), H')
    | none => none) (kG := fun e' H' hist => match projL outs e' with
    | some vs => some ((vs, hist), H')
    | none => none) (fun _ _ _ => .const _) ops [] e H
theorem setK_tends {kF : Nat → Env → Option α} {kG : Env → Option α} (hk : ∀ e, Tends (fun n => kF n e) (kG e)) : ∀ (ts : List Tmp) (vs : List AV) (e : Env), Tends (fun n => setK ts vs e (kF n)) (setK ts vs e kG)
  | [], [], e => hk e
  | [], _ :: _, e => .const _
  | _ :: _, [], e => .const _
  | t :: ts, v :: vs, e => setK_tends hk ts vs _
theorem loopF_tends {k : Nat} {sF : Nat → List AV → Heap → Option (LStep × Heap)} {sG : List AV → Heap → Option (LStep × Heap)} (hs : ∀ s H, Tends (fun n => sF n s H) (sG s H)) : ∀ (j : Nat) (s : List AV) (H : Heap), Tends (fun n => loopF k (sF n) j s H) (loopF k sG j s H)
  | 0, s, H => .const _
  | j + 1, s, H => by
    simp only [loopF]
    cases gcL k s H with
    | none => exact .const _
    | some x =>
      obtain ⟨s1, H1⟩ := x
      intro r hr
      simp only at hr ⊢
      split at hr
      · simp at hr
      · rename_i s' H' h1
        obtain ⟨n, hn⟩ := hs _ _ _ h1
        dsimp only at hn
        obtain ⟨n2, hn2⟩ := loopF_tends hs j s' H' r hr
        exact ⟨n + n2, fun m hm => by (try dsimp only); rw [hn m (by omega)]; exact hn2 m (by omega)⟩
      · rename_i id vs H' h1
        obtain ⟨n, hn⟩ := hs _ _ _ h1
        dsimp only at hn
        exact ⟨n, fun m hm => by (try dsimp only); rw [hn m hm]; exact hr⟩
      · rename_i vs H' h1
        obtain ⟨n, hn⟩ := hs _ _ _ h1
        dsimp only at hn
        exact ⟨n, fun m hm => by (try dsimp only); rw [hn m hm]; exact hr⟩
theorem loopF_mono {k : Nat} {step : List AV → Heap → Option (LStep × Heap)} {r : LStep × Heap} : ∀ (j i : Nat) (s : List AV) (H : Heap), j ≤ i → loopF k step j s H = some r → loopF k step i s H = some r
  | 0, i, s, H, hij, h => by simp [loopF] at h
  | j + 1, 0, s, H, hij, h => by omega
  | j + 1, i + 1, s, H, hij, h => by
    simp only [loopF] at h ⊢
    split at h
    · simp at h
    · rename_i s1 H1 hg
      try simp only []
      split at h
      · simp at h
      · rename_i s' H' h1
        try simp only []
        exact loopF_mono j i s' H' (by omega) h
      · rename_i h1
        exact h
      · rename_i h1
        exact h
theorem loopX_of {k : Nat} {step : List AV → Heap → Option (LStep × Heap)} {s : List AV} {H : Heap} {r : LStep × Heap} {j : Nat} (h : loopF k step j s H = some r) : loopX k step s H = some r :=
  lim_eq.2 ⟨j, fun m hm => loopF_mono j m s H hm h⟩
theorem loopX_tends {k : Nat} {sF : Nat → List AV → Heap → Option (LStep × Heap)} {sG : List AV → Heap → Option (LStep × Heap)} (hs : ∀ s H, Tends (fun n => sF n s H) (sG s H)) (s : List AV) (H : Heap) : Tends (fun n => loopX k (sF n) s H) (loopX k sG s H) := by
  intro r hr
  obtain ⟨j, hj⟩ := lim_eq.1 hr
  obtain ⟨n, hn⟩ := loopF_tends hs j s H r (hj j (Nat.le_refl _))
  exact ⟨n, fun m hm => loopX_of (hn m hm)⟩
/-- A loop's equation. -/
theorem loopX_eq {k : Nat} {step : List AV → Heap → Option (LStep × Heap)} {s : List AV} {H : Heap} : loopX k step s H = (match gcL k s H with
    | none => none
    | some (s1, H1) => match step s1 H1 with
      | none => none
      | some (.cont s', H') => loopX k step s' H'
      | some (.exit id vs, H') => some (.exit id vs, H')
      | some (.ret vs, H') => some (.ret vs, H')) := by
  refine Option.ext fun r => ⟨fun h => ?_, fun h => ?_⟩
  · obtain ⟨j, hj⟩ := lim_eq.1 h
    have h1 := hj (j + 1) (by omega)
    simp only [loopF] at h1
    split at h1
    · simp at h1
    · rename_i s1 H1 hg
      rw [hg]
      dsimp only
      split at h1
      · simp at h1
      · rename_i s' H' hst
        rw [hst]
        exact loopX_of h1
      · rename_i hst
        rw [hst]
        exact h1
      · rename_i hst
        rw [hst]
        exact h1
  · split at h
    · simp at h
    · rename_i s1 H1 hg
      split at h
      · simp at h
      · rename_i s' H' hst
        obtain ⟨j, hj⟩ := lim_eq.1 h
        refine loopX_of (j := j + 1) ?_
        simp only [loopF, hg, hst]
        exact hj j (Nat.le_refl _)
      · rename_i hst
        refine loopX_of (j := 1) ?_
        simp only [loopF, hg, hst]
        exact h
      · rename_i hst
        refine loopX_of (j := 1) ?_
        simp only [loopF, hg, hst]
        exact h
theorem execK_tends {A : Ann} {k : Nat} (hcs : ∀ f args H, Tends (fun n => cs n f args H) (cf f args H)) : ∀ (code : Code) (α : Type) (i : Nat) (e : Env) (H : Heap) (nF rF : Nat → Env → Heap → Option α) (eF : Nat → Nat → Env → Heap → Option α)
    (nG rG : Env → Heap → Option α) (eG : Nat → Env → Heap → Option α), (∀ e H, Tends (fun n => nF n e H) (nG e H)) → (∀ e H, Tends (fun n => rF n e H) (rG e H)) → (∀ id e H, Tends (fun n => eF n id e H) (eG id e H)) →
    Tends (fun n => execK C (cs n) A k code α i e H (nF n) (rF n) (eF n)) (execK C cf A k code α i e H nG rG eG) := by
  intro code
  induction code with
  | skip => intro α i e H nF rF eF nG rG eG hn hr he; exact hn e H
  | region id ops d =>
    intro α i e H nF rF eF nG rG eG hn hr he
    cases d with
    | false => exact opsK_tends hcs _ hn _ e H
    | true =>
      simp only [execK, forceE_eq]
      intro r h
      split at h
      · simp at h
      · rename_i vs H' ht
        obtain ⟨n1, h1⟩ := twice_tends (fun H => drawPass_tends hcs (A.dout id) ops.toList e H) H _ ht
        obtain ⟨n2, h2⟩ := setK_tends (fun e' => hn e' H') (A.dout id) vs _ r h
        refine ⟨n1 + n2, fun m hm => ?_⟩
        have h3 := h1 m (by omega)
        have h4 : twice (ancsFrom ops.toList []) (drawPass C (cs m) (A.dout id) ops.toList e) H = some (vs, H') := h3
        dsimp only
        rw [h4]
        exact h2 m (by omega)
  | seq c1 c2 ih1 ih2 =>
    intro α i e H nF rF eF nG rG eG hn hr he
    simp only [execK]
    split
    · split
      · simp only [pieceR, forceE_eq]
        intro r h
        split at h
        · rename_i hok
          obtain ⟨n, h1⟩ := hn _ _ r h
          exact ⟨n, fun m hm => by dsimp only; rw [if_pos hok]; exact h1 m hm⟩
        · simp at h
      · intro r h; simp at h
    · exact ih1 α i e H _ _ _ _ _ _ (fun e' H' => ih2 α i e' H' _ _ _ _ _ _ hn hr he) hr he
  | cond c c1 c2 ih1 ih2 =>
    intro α i e H nF rF eF nG rG eG hn hr he
    simp only [execK, forceE_eq]
    intro r h
    split at h
    · rename_i t hc
      cases t with
      | true => exact ih1 α i e H _ _ _ _ _ _ hn hr he r (by simpa using h)
      | false => exact ih2 α i e H _ _ _ _ _ _ hn hr he r (by simpa using h)
    · simp at h
  | block id body ih =>
    intro α i e H nF rF eF nG rG eG hn hr he
    refine ih α id e H _ _ _ _ _ _ hn hr fun id' e' H' => ?_
    by_cases hid : id' = id
    · simp only [hid, if_true]; exact hn e' H'
    · simp only [hid, if_false]; exact he id' e' H'
  | loop body ih =>
    intro α i e H nF rF eF nG rG eG hn hr he
    simp only [execK, forceE_eq]
    let KN : Env → Heap → Option (LStep × Heap) := fun e' H' => match projL (A.lin i) e' with
            | some s' => some (.cont s', H')
            | none => none
    let KR : Env → Heap → Option (LStep × Heap) := fun e' H' => match projL (A.lout i) e' with
            | some vs => some (.ret vs, H')
            | none => none
    let KE : Nat → Env → Heap → Option (LStep × Heap) := fun id e' H' => match projL (A.lout i) e' with
            | some vs => some (.exit id vs, H')
            | none => none
    have hst : ∀ s1 H1, Tends (fun n => setK (A.lin i) s1 (List.replicate e.length .any) fun e1 => execK C (cs n) A k body (LStep × Heap) i e1 H1 KN KR KE) (setK (A.lin i) s1 (List.replicate e.length .any) fun e1 => execK C cf A k body (LStep × Heap) i e1 H1 KN KR KE) := fun s1 H1 =>
      setK_tends (kF := fun n e1 => execK C (cs n) A k body (LStep × Heap) i e1 H1 KN KR KE) (kG := fun e1 => execK C cf A k body (LStep × Heap) i e1 H1 KN KR KE)
        (fun e1 => ih (LStep × Heap) i e1 H1 (fun _ => KN) (fun _ => KR) (fun _ => KE) KN KR KE (fun _ _ => .const _) (fun _ _ => .const _) (fun _ _ _ => .const _)) _ _ _
    let POST : Nat → Option (LStep × Heap) → Option α := fun m z => match z with
      | none => none
      | some (.cont _, _) => none
      | some (.exit id vs, H') => if id = i then setK (A.lout i) vs (List.replicate e.length .any) fun e' => eF m i e' H' else none
      | some (.ret vs, H') => setK (A.lout i) vs (List.replicate e.length .any) fun e' => rF m e' H'
    intro r h
    split at h
    · simp at h
    rename_i s hps
    split at h
    · simp at h
    · simp at h
    · rename_i id vs H' hl
      split at h
      case isFalse => simp at h
      rename_i hid
      obtain ⟨n1, h1⟩ := loopX_tends hst s H _ hl
      obtain ⟨n2, h2⟩ := setK_tends (fun e' => he i e' H') (A.lout i) vs _ r h
      refine ⟨n1 + n2, fun m hm => ?_⟩
      refine (congrArg (POST m) (h1 m (by omega))).trans ?_
      show (if id = i then _ else none) = _
      rw [if_pos hid]
      exact h2 m (by omega)
    · rename_i vs H' hl
      obtain ⟨n1, h1⟩ := loopX_tends hst s H _ hl
      obtain ⟨n2, h2⟩ := setK_tends (fun e' => hr e' H') (A.lout i) vs _ r h
      refine ⟨n1 + n2, fun m hm => ?_⟩
      exact (congrArg (POST m) (h1 m (by omega))).trans (h2 m (by omega))
  | exit id => intro α i e H nF rF eF nG rG eG hn hr he; exact he id e H
  | ret => intro α i e H nF rF eF nG rG eG hn hr he; exact hr e H
  | _ => intro α i e H nF rF eF nG rG eG hn hr he r h; simp [execK] at h
theorem runG_tends {An : FuncId → Ann} (hcs : ∀ f args H, Tends (fun n => cs n f args H) (cf f args H)) (f : FuncId) (args : List AV) (H : Heap) : Tends (fun n => runG C (cs n) An f args H) (runG C cf An f args H) := by
  intro r h
  unfold runG at h ⊢
  split at h
  · simp at h
  · split at h
    · simp at h
    · split at h
      · rename_i fn hf _ code hb hn
        rw [forceE_eq] at h
        obtain ⟨n, hn'⟩ := execK_tends (cs := cs) hcs code (AV × Heap) 0 (args ++ List.replicate (fn.ntmps - args.length) AV.undef) H (fun _ => endK C f H.length fn.results.toList) (fun _ => endK C f H.length fn.results.toList) (fun _ _ _ _ => none)
          (endK C f H.length fn.results.toList) (endK C f H.length fn.results.toList) (fun _ _ _ => none) (fun e H => .const _) (fun e H => .const _) (fun id e H => .const _) r h
        exact ⟨n, fun m hm => by dsimp only; rw [if_pos hn, forceE_eq]; exact hn' m hm⟩
      · simp at h
theorem callX_eq {An : FuncId → Ann} {f : FuncId} {args : List AV} {H : Heap} {r : AV × Heap} (h : callStep C (fnX C An) f args H = some r) : callX C An f args H = some r := by
  have hX : ∀ f args H, Tends (fun n => callG C An n f args H) (callX C An f args H) := fun f args H r h => lim_eq.1 h
  have hF : ∀ f args H, Tends (fun n => runG C (callG C An n) An f args H) (fnX C An f args H) := fun f args H => runG_tends hX f args H
  have : Tends (fun n => callG C An (n + 1) f args H) (callStep C (fnX C An) f args H) := by
    intro r h
    show ∃ n, ∀ m, n ≤ m → callStep C (runG C (callG C An m) An) f args H = some r
    unfold callStep at h ⊢
    split at h
    · simp at h
    · rename_i as H0 hh
      split at h
      · exact ⟨0, fun _ _ => h⟩
      · unfold viewC at h ⊢
        split at h
        · simp at h
        · split at h
          · simp at h
          · rename_i ids hids _ v F hg
            obtain ⟨n, hn⟩ := hF _ _ _ _ hg
            dsimp only at hn
            exact ⟨n, fun m hm => by rw [hn m hm]; exact h⟩
  obtain ⟨n, hn⟩ := this r h
  refine lim_eq.2 ⟨n + 1, fun m hm => ?_⟩
  obtain ⟨j, rfl⟩ : ∃ j, m = j + 1 := ⟨m - 1, by omega⟩
  exact hn j (by omega)
end
end Go.Fm

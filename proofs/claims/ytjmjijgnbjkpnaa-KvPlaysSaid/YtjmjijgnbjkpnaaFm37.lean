/-
  A part of the proof: Fm37.
-/
import Derived.Test.YtjmjijgnbjkpnaaFm36
set_option linter.all false
set_option autoImplicit true
/-
  Code, its rest handed on: what it says is so. (Second part: code, loops.)
-/
set_option linter.unusedSimpArgs false
set_option linter.unusedVariables false
namespace Go.Fm
open Go
/-- The first blocks that have been let go stay as they are. -/
def KeepsP (k : Nat) (H H' : Heap) : Prop := (k ≤ H.length → k ≤ H'.length) ∧ ∀ (id : Nat) (b : Blk), id < k → H[id]? = some b → b.ok = true → H'[id]? = some b
theorem KeepsP.refl (k : Nat) (H : Heap) : KeepsP k H H := ⟨fun h => h, fun _ _ _ h _ => h⟩
theorem KeepsP.trans {k : Nat} {H H' H'' : Heap} (h : KeepsP k H H') (m : KeepsP k H' H'') : KeepsP k H H'' := ⟨fun hk => m.1 (h.1 hk), fun id b hid hb ho => m.2 id b hid (h.2 id b hid hb ho) ho⟩
theorem Keeps.toP {H H' : Heap} (h : Keeps H H') (k : Nat) : KeepsP k H H' := ⟨fun hk => Nat.le_trans hk h.1, fun id b _ hb ho => h.2 id b hb ho⟩
theorem gcL_keeps {k : Nat} {vs vs' : List AV} {H H' : Heap} (h : gcL k vs H = some (vs', H')) : KeepsP k H H' := by
  unfold gcL at h
  split at h
  · rename_i ids hids
    simp only [Option.some.injEq, Prod.mk.injEq] at h
    obtain ⟨rfl, rfl⟩ := h
    have hs := gcIds_ok hids
    refine ⟨fun _ => ?_, fun id b hid hb ho => ?_⟩
    · unfold selH
      rw [List.length_map]
      rcases Nat.eq_zero_or_pos k with h0 | h0
      · omega
      · have := (List.getElem?_eq_some_iff.1 (hs.pre (k - 1) (by omega))).1
        omega
    · unfold selH
      rw [List.getElem?_map, hs.pre id hid]
      simp [hb, Blk.map_of_ok b _ ho]
  · simp at h
/-- What a piece of code comes to. -/
structure Sem' (C : Cfg) (k : Nat) (code : Code) (e : Env) (H : Heap) (x : AExit) (e' : Env) (H' : Heap) : Prop where
  keeps : KeepsP k H H'
  len : e'.length = e.length
  run : ∀ (S0 : Nat → Nat → Prop) (g : Gh) (w : World) (a : Act) (Q : Exit → Act → World → Prop), Ok C S0 g w H → REnv g w (g.St S0) a e →
      (∀ a' w' g', Ok C S0 g' w' H' → StepP k g w g' w' → REnv g' w' (g'.St S0) a' e' → a'.defers = a.defers → Q x.to a' w') → code.wp C.P Q a w
def contK {α : Type} (kn kr : Env → Heap → Option α) (ke : Nat → Env → Heap → Option α) : AExit → Env → Heap → Option α
  | .normal => kn
  | .exit id => ke id
  | .ret => kr
/-- Rounds of a loop. -/
inductive Rounds (C : Cfg) (k : Nat) (body : Code) (lin lout : List Tmp) (n : Nat) : Nat → List AV → Heap → AExit → List AV → Heap → Prop
  | cont (m : Nat) (s s1 s' vs : List AV) (H H1 H' H'' : Heap) (e1 e' : Env) (x : AExit) (hg : gcL k s H = some (s1, H1)) (hs : ∀ {β : Type} (k' : Env → Option β), setK lin s1 (List.replicate n .any) k' = k' e1)
      (h : Sem' C k body e1 H1 .normal e' H') (hp : projL lin e' = some s') (hr : Rounds C k body lin lout n m s' H' x vs H'') : Rounds C k body lin lout n (m + 1) s H x vs H''
  | stop (m : Nat) (s s1 vs : List AV) (H H1 H' : Heap) (e1 e' : Env) (x : AExit) (hg : gcL k s H = some (s1, H1)) (hs : ∀ {β : Type} (k' : Env → Option β), setK lin s1 (List.replicate n .any) k' = k' e1)
      (h : Sem' C k body e1 H1 x e' H') (hx : x ≠ .normal) (hp : projL lout e' = some vs) : Rounds C k body lin lout n (m + 1) s H x vs H'
section
variable {C : Cfg}
theorem gcL_ok {k : Nat} {S0 : Nat → Nat → Prop} {g : Gh} {w : World} {H H' : Heap} {us : List Value} {vs vs' : List AV} (hO : Ok C S0 g w H) (hu : RVs g w (g.St S0) us vs) (h : gcL k vs H = some (vs', H')) :
    ∃ g', Ok C S0 g' w H' ∧ RVs g' w (g'.St S0) us vs' ∧ StepP k g w g' w := by
  unfold gcL at h
  split at h
  · rename_i ids hids
    simp only [Option.some.injEq, Prod.mk.injEq] at h
    obtain ⟨rfl, rfl⟩ := h
    exact ⟨_, gc_ok hO hu (gcIds_ok hids)⟩
  · simp at h
theorem Rounds.keeps {k : Nat} {body : Code} {lin lout : List Tmp} {n m : Nat} {s vs : List AV} {H H' : Heap} {x : AExit} (h : Rounds C k body lin lout n m s H x vs H') : KeepsP k H H' := by
  induction h with
  | cont m s s1 s' vs H H1 H' H'' e1 e' x hg hs h hp hr ih => exact (gcL_keeps hg).trans (h.keeps.trans ih)
  | stop m s s1 vs H H1 H' e1 e' x hg hs h hx hp => exact (gcL_keeps hg).trans h.keeps
theorem Rounds.run {k : Nat} {body : Code} {lin lout : List Tmp} {n m : Nat} {s vs : List AV} {H H' : Heap} {x : AExit} (h : Rounds C k body lin lout n m s H x vs H') :
    ∀ (S0 : Nat → Nat → Prop) (g : Gh) (w : World) (a : Act) (Q : Exit → Act → World → Prop), Ok C S0 g w H → RVs g w (g.St S0) (pick a lin) s → a.tmps.size = n →
      (∀ a' w' g', Ok C S0 g' w' H' → StepP k g w g' w' → RVs g' w' (g'.St S0) (pick a' lout) vs → a'.tmps.size = n → a'.defers = a.defers → Q x.to a' w') → Code.rounds C.P body Q m a w := by
  induction h with
  | cont m s s1 s' vs H H1 H' H'' e1 e' x hg hs h hp hr ih =>
    intro S0 g w a Q hO hu hn hQ
    rw [rounds_succ]
    obtain ⟨g1, k1, k2, k3⟩ := gcL_ok hO hu hg
    obtain ⟨e2, m1, m2⟩ := setK_RVs (k := some) (r := e1) (b := List.replicate n .any) (a := a) (by
      have := anys (g := g1) (w := w) (S := g1.St S0) a.tmps.toList
      simpa [REnv, hn] using this) k2 (hs some)
    simp only [Option.some.injEq] at m2
    subst m2
    refine h.run S0 g1 w a _ k1 m1 fun a1 w1 g2 q1 q2 q3 q4 => ?_
    have hn1 : a1.tmps.size = n := by
      have h1 := RVs.length q3
      have h2 := RVs.length m1
      simp only [Array.length_toList] at h1 h2
      rw [h1, h.len, ← h2, hn]
    exact ih S0 g2 w1 a1 Q q1 (projL_RVs q3 hp) hn1 fun a2 w2 g3 r1 r2 r3 r4 r5 => hQ a2 w2 g3 r1 ((k3.trans q2).trans r2) r3 r4 (r5.trans q4)
  | stop m s s1 vs H H1 H' e1 e' x hg hs h hx hp =>
    intro S0 g w a Q hO hu hn hQ
    rw [rounds_succ]
    obtain ⟨g1, k1, k2, k3⟩ := gcL_ok hO hu hg
    obtain ⟨e2, m1, m2⟩ := setK_RVs (k := some) (r := e1) (b := List.replicate n .any) (a := a) (by
      have := anys (g := g1) (w := w) (S := g1.St S0) a.tmps.toList
      simpa [REnv, hn] using this) k2 (hs some)
    simp only [Option.some.injEq] at m2
    subst m2
    refine h.run S0 g1 w a _ k1 m1 fun a1 w1 g2 q1 q2 q3 q4 => ?_
    have hn1 : a1.tmps.size = n := by
      have h1 := RVs.length q3
      have h2 := RVs.length m1
      simp only [Array.length_toList] at h1 h2
      rw [h1, h.len, ← h2, hn]
    have hfin := hQ a1 w1 g2 q1 (k3.trans q2) (projL_RVs q3 hp) hn1 q4
    cases x with
    | normal => exact absurd rfl hx
    | exit id => exact hfin
    | ret => exact hfin
/-- What is to be known of a piece. -/
def PieceOk (C : Cfg) (p : Piece) (code : Code) : Prop :=
  ∀ (S0 : Nat → Nat → Prop) (g : Gh) (w : World) (H : Heap) (a : Act) (e : Env) (Q : Exit → Act → World → Prop) (vs : List AV), Ok C S0 g w H → REnv g w (g.St S0) a e → projL p.ins e = some vs → p.ok vs H →
    (∀ a' w', Kept w w' → a'.tmps.size = a.tmps.size → (∀ s, s ∉ p.clob → a'.tmps[s]? = a.tmps[s]?) → a'.defers = a.defers → Q .normal a' w') → code.wp C.P Q a w
theorem Kept.step {g : Gh} {w w' : World} (h : Kept w w') : Step g w g w' where
  size := h.size
  os := h.os
  tape := h.tape
  output := h.output
  ids := fun id b hb => ⟨b, hb, rfl, rfl, rfl, rfl, fun _ h => h, fun _ h => h⟩
  keep := fun b hb hf => ⟨h.heap b hb, hf⟩
theorem Ok.kept {S0 : Nat → Nat → Prop} {g : Gh} {w w' : World} {H : Heap} (h : Ok C S0 g w H) (hb : Kept w w') : Ok C S0 g w' H where
  inv := h.inv.next h.real hb.step (fun id b hG => .inl ⟨hG, fun ho hv => hb.heap _ (h.inv.lt id b hG hv)⟩) (fun id b hG hv => Nat.lt_of_lt_of_le (h.inv.lt id b hG hv) hb.size) h.inv.inj h.inv.s0
  real := h.real
  gl := h.gl.stays (hb.step.stays S0)
  heap := h.heap
theorem clearL_len : ∀ (ds : List Tmp) (b : Env), (clearL ds b).length = b.length
  | [], b => rfl
  | t :: ts, b => by rw [clearL, clearL_len ts, List.length_set]
theorem clearL_any : ∀ (ds : List Tmp) (b : Env) (s : Nat) (v : AV), (clearL ds b)[s]? = some v → v = .any ∨ (s ∉ ds ∧ b[s]? = some v)
  | [], b, s, v, h => .inr ⟨by simp, h⟩
  | t :: ts, b, s, v, h => by
    rw [clearL] at h
    rcases clearL_any ts _ s v h with h | ⟨h1, h2⟩
    · exact .inl h
    · by_cases hs : t = s
      · subst hs
        by_cases hlt : t < b.length
        · rw [List.getElem?_set_self hlt] at h2
          exact .inl (Option.some.inj h2).symm
        · rw [List.getElem?_eq_none (by simpa using hlt)] at h2
          cases h2
      · rw [List.getElem?_set_ne hs] at h2
        exact .inr ⟨fun hm => by rcases List.mem_cons.1 hm with h | h; exact hs h.symm; exact h1 h, h2⟩
variable {cf : CallFn} {A : Ann} {k : Nat}
theorem execK_ok (hcf : CfOk C cf) (hm : C.P.follows .mixedOrders = true) : ∀ (code : Code), (∀ x ∈ pieces A code, PieceOk C x.1 x.2) → ordered code = true → ∀ (α : Type) (i : Nat) (e : Env) (H : Heap) (kn kr : Env → Heap → Option α) (ke : Nat → Env → Heap → Option α) (r : α),
    execK C cf A k code α i e H kn kr ke = some r → ∃ x e' H', Sem' C k code e H x e' H' ∧ contK kn kr ke x e' H' = some r := by
  intro code
  induction code with
  | skip =>
    intro hpc hod α i e H kn kr ke r h
    simp only [execK, forceE_eq] at h
    exact ⟨.normal, e, H, ⟨.refl _ _, rfl, fun S0 g w a Q hO he hQ => wp_skip (hQ a w g hO (.refl _ _ _) he rfl)⟩, h⟩
  | region id ops d =>
    intro hpc hod α i e H kn kr ke r h
    cases d with
    | false =>
      simp only [execK, forceE_eq] at h
      obtain ⟨e', H', h1, h2, h3⟩ := opsK_ex h
      exact ⟨.normal, e', H', ⟨(execOps_keeps hcf.keeps _ _ _ _ _ h1).toP k, h3, fun S0 g w a Q hO he hQ => wp_region_list (execOps_ok hcf ops.toList e H a w g h1 hO he fun a' w' g' q1 q2 q3 q4 => hQ a' w' g' q1 (q2.toP k) q3 q4)⟩, h2⟩
    | true =>
      simp only [execK, forceE_eq] at h
      split at h
      · simp at h
      · rename_i vs H' ht
        obtain ⟨e', h1, h2, h3, h4⟩ := twice_ex ht
        have hle : Le (clearL (dstsOf ops.toList) e) e' := clearL_le _ _ h3.symm fun s v hv => by
          by_cases hs : s ∈ dstsOf ops.toList
          · exact .inr (.inr hs)
          · exact .inr (.inl (by rw [h4 s hs]; exact hv))
        obtain ⟨e2, k1, k2⟩ := setK_le hle h2 h
        exact ⟨.normal, e2, H', ⟨(execDraw_keeps hcf.keeps h1).toP k, by rw [k1.1, h3], fun S0 g w a Q hO he hQ => execDraw_ok hcf hm hod h1 hO he fun a' w' g' q1 q2 q3 q4 => hQ a' w' g' q1 (q2.toP k) (RVs.le q3 k1) q4⟩, k2⟩
  | seq c1 c2 ih1 ih2 =>
    intro hpc hod α i e H kn kr ke r h
    simp only [ordered, Bool.and_eq_true] at hod
    simp only [execK, forceE_eq] at h
    split at h
    · rename_i p hp
      have hP : PieceOk C p (.seq c1 c2) := hpc (p, .seq c1 c2) (by simp [pieces, hp])
      split at h
      · rename_i vs hvs
        unfold pieceR at h
        split at h
        · rename_i hok
          refine ⟨.normal, clearL p.clob e, H, ⟨.refl _ _, clearL_len _ _, fun S0 g w a Q hO he hQ => hP S0 g w H a e Q vs hO he hvs hok fun a' w' hk hsz hsame hd => ?_⟩, h⟩
          refine hQ a' w' g (hO.kept hk) ((hk.step).toP k) ?_ hd
          have he' := RVs.step hk.step (hk.step.stays S0) he
          have hlen := RVs.length he
          refine RVs.of _ _ (by rw [clearL_len, ← hlen]; simp [hsz]) fun s x hx => ?_
          have hslt : s < a'.tmps.toList.length := by
            have := (List.getElem?_eq_some_iff.1 hx).1
            rw [clearL_len, ← hlen] at this
            simpa [hsz] using this
          rcases clearL_any _ _ s x hx with rfl | ⟨h1, h2⟩
          · exact ⟨a'.tmps.toList[s], List.getElem?_eq_getElem hslt, .any _⟩
          · obtain ⟨u, k1, k2⟩ := RVs.get he' s x h2
            refine ⟨u, ?_, k2⟩
            have := hsame s h1
            simp only [Array.getElem?_toList] at k1 ⊢
            rw [this]; exact k1
        · simp at h
      · simp at h
    have hp1 : ∀ x ∈ pieces A c1, PieceOk C x.1 x.2 := fun x hx => hpc x (by simp [pieces, hx])
    have hp2 : ∀ x ∈ pieces A c2, PieceOk C x.1 x.2 := fun x hx => hpc x (by simp [pieces, hx])
    obtain ⟨x, e1, H1, h1, h2⟩ := ih1 hp1 hod.1 α i e H _ _ _ r h
    cases x with
    | normal =>
      simp only [contK] at h2
      obtain ⟨y, e2, H2, k1, k2⟩ := ih2 hp2 hod.2 α i e1 H1 _ _ _ r h2
      exact ⟨y, e2, H2, ⟨h1.keeps.trans k1.keeps, by rw [k1.len, h1.len], fun S0 g w a Q hO he hQ => wp_seq (h1.run S0 g w a _ hO he fun a1 w1 g1 q1 q2 q3 q4 =>
        k1.run S0 g1 w1 a1 Q q1 q3 fun a2 w2 g2 m1 m2 m3 m4 => hQ a2 w2 g2 m1 (q2.trans m2) m3 (m4.trans q4))⟩, k2⟩
    | exit id => exact ⟨.exit id, e1, H1, ⟨h1.keeps, h1.len, fun S0 g w a Q hO he hQ => wp_seq (h1.run S0 g w a _ hO he fun a1 w1 g1 q1 q2 q3 q4 => hQ a1 w1 g1 q1 q2 q3 q4)⟩, h2⟩
    | ret => exact ⟨.ret, e1, H1, ⟨h1.keeps, h1.len, fun S0 g w a Q hO he hQ => wp_seq (h1.run S0 g w a _ hO he fun a1 w1 g1 q1 q2 q3 q4 => hQ a1 w1 g1 q1 q2 q3 q4)⟩, h2⟩
  | cond c c1 c2 ih1 ih2 =>
    intro hpc hod α i e H kn kr ke r h
    simp only [ordered, Bool.and_eq_true] at hod
    have hp1 : ∀ x ∈ pieces A c1, PieceOk C x.1 x.2 := fun x hx => hpc x (by simp [pieces, hx])
    have hp2 : ∀ x ∈ pieces A c2, PieceOk C x.1 x.2 := fun x hx => hpc x (by simp [pieces, hx])
    simp only [execK, forceE_eq] at h
    split at h
    · rename_i t hc
      cases t with
      | true =>
        obtain ⟨x, e1, H1, h1, h2⟩ := ih1 hp1 hod.1 α i e H _ _ _ r (by simpa using h)
        exact ⟨x, e1, H1, ⟨h1.keeps, h1.len, fun S0 g w a Q hO he hQ => wp_cond (RV_bool (ev_RV he hO.gl hc)) (h1.run S0 g w a Q hO he hQ)⟩, h2⟩
      | false =>
        obtain ⟨x, e1, H1, h1, h2⟩ := ih2 hp2 hod.2 α i e H _ _ _ r (by simpa using h)
        exact ⟨x, e1, H1, ⟨h1.keeps, h1.len, fun S0 g w a Q hO he hQ => wp_cond (RV_bool (ev_RV he hO.gl hc)) (h1.run S0 g w a Q hO he hQ)⟩, h2⟩
    · simp at h
  | block id body ih =>
    intro hpc hod α i e H kn kr ke r h
    simp only [execK, forceE_eq] at h
    obtain ⟨x, e1, H1, h1, h2⟩ := ih hpc hod α id e H _ _ _ r h
    cases x with
    | normal => exact ⟨.normal, e1, H1, ⟨h1.keeps, h1.len, fun S0 g w a Q hO he hQ => wp_block (h1.run S0 g w a _ hO he fun a1 w1 g1 q1 q2 q3 q4 => hQ a1 w1 g1 q1 q2 q3 q4)⟩, h2⟩
    | ret => exact ⟨.ret, e1, H1, ⟨h1.keeps, h1.len, fun S0 g w a Q hO he hQ => wp_block (h1.run S0 g w a _ hO he fun a1 w1 g1 q1 q2 q3 q4 => hQ a1 w1 g1 q1 q2 q3 q4)⟩, h2⟩
    | exit id' =>
      simp only [contK] at h2
      by_cases hid : id' = id
      · rw [if_pos hid] at h2
        refine ⟨.normal, e1, H1, ⟨h1.keeps, h1.len, fun S0 g w a Q hO he hQ => wp_block (h1.run S0 g w a _ hO he fun a1 w1 g1 q1 q2 q3 q4 => ?_)⟩, h2⟩
        simp only [AExit.to, Exit.inBlock]
        rw [if_pos hid]
        exact hQ a1 w1 g1 q1 q2 q3 q4
      · rw [if_neg hid] at h2
        refine ⟨.exit id', e1, H1, ⟨h1.keeps, h1.len, fun S0 g w a Q hO he hQ => wp_block (h1.run S0 g w a _ hO he fun a1 w1 g1 q1 q2 q3 q4 => ?_)⟩, h2⟩
        simp only [AExit.to, Exit.inBlock]
        rw [if_neg hid]
        exact hQ a1 w1 g1 q1 q2 q3 q4
  | loop body ih =>
    intro hpc hod α i e H kn kr ke r h
    simp only [execK, forceE_eq] at h
    split at h
    · simp at h
    rename_i s hps
    -- the rounds
    have key : ∀ (m : Nat) (s : List AV) (H : Heap) (z : LStep) (H'' : Heap), loopF k (fun s1 H1 => setK (A.lin i) s1 (List.replicate e.length .any) fun e1 => execK C cf A k body (LStep × Heap) i e1 H1
          (fun e' H' => match projL (A.lin i) e' with
            | some s' => some (.cont s', H')
            | none => none)
          (fun e' H' => match projL (A.lout i) e' with
            | some vs => some (.ret vs, H')
            | none => none)
          (fun id e' H' => match projL (A.lout i) e' with
            | some vs => some (.exit id vs, H')
            | none => none)) m s H = some (z, H'') →
        ∃ x vs, Rounds C k body (A.lin i) (A.lout i) e.length m s H x vs H'' ∧ ((x = .ret ∧ z = .ret vs) ∨ ∃ id, x = .exit id ∧ z = .exit id vs) := by
      intro m
      induction m with
      | zero => intro s H z H'' h; simp [loopF] at h
      | succ m ihm =>
        intro s H z H'' h
        simp only [loopF] at h
        split at h
        · simp at h
        rename_i s1 H1 hg
        split at h
        · simp at h
        · rename_i s' H' hst
          obtain ⟨e1, l1, l2, l3⟩ := setK_ex hst
          obtain ⟨x, e', Hb, b1, b2⟩ := ih hpc hod _ i e1 H1 _ _ _ _ l2
          cases x with
          | normal =>
            simp only [contK] at b2
            split at b2
            · rename_i sb hsb
              simp only [Option.some.injEq, Prod.mk.injEq, LStep.cont.injEq] at b2
              obtain ⟨rfl, rfl⟩ := b2
              obtain ⟨x, vs, c1, c2⟩ := ihm _ _ _ _ h
              exact ⟨x, vs, .cont m s s1 _ vs H H1 _ _ e1 e' x hg l1 b1 hsb c1, c2⟩
            · simp at b2
          | exit id => simp only [contK] at b2; split at b2 <;> simp at b2
          | ret => simp only [contK] at b2; split at b2 <;> simp at b2
        · rename_i id vs H' hst
          simp only [Option.some.injEq, Prod.mk.injEq] at h
          obtain ⟨rfl, rfl⟩ := h
          obtain ⟨e1, l1, l2, l3⟩ := setK_ex hst
          obtain ⟨x, e', Hb, b1, b2⟩ := ih hpc hod _ i e1 H1 _ _ _ _ l2
          cases x with
          | normal => simp only [contK] at b2; split at b2 <;> simp at b2
          | exit id' =>
            simp only [contK] at b2
            split at b2
            · rename_i sb hsb
              simp only [Option.some.injEq, Prod.mk.injEq, LStep.exit.injEq] at b2
              obtain ⟨⟨rfl, rfl⟩, rfl⟩ := b2
              exact ⟨.exit id', _, .stop m s s1 _ H H1 _ e1 e' _ hg l1 b1 (by simp) hsb, .inr ⟨_, rfl, rfl⟩⟩
            · simp at b2
          | ret => simp only [contK] at b2; split at b2 <;> simp at b2
        · rename_i vs H' hst
          simp only [Option.some.injEq, Prod.mk.injEq] at h
          obtain ⟨rfl, rfl⟩ := h
          obtain ⟨e1, l1, l2, l3⟩ := setK_ex hst
          obtain ⟨x, e', Hb, b1, b2⟩ := ih hpc hod _ i e1 H1 _ _ _ _ l2
          cases x with
          | normal => simp only [contK] at b2; split at b2 <;> simp at b2
          | exit id' => simp only [contK] at b2; split at b2 <;> simp at b2
          | ret =>
            simp only [contK] at b2
            split at b2
            · rename_i sb hsb
              simp only [Option.some.injEq, Prod.mk.injEq, LStep.ret.injEq] at b2
              obtain ⟨rfl, rfl⟩ := b2
              exact ⟨.ret, _, .stop m s s1 _ H H1 _ e1 e' _ hg l1 b1 (by simp) hsb, .inl ⟨rfl, rfl⟩⟩
            · simp at b2
    -- the whole loop, as one piece
    have whole : ∀ {m : Nat} {x : AExit} {vs : List AV} {H'' : Heap} {e2 : Env}, Rounds C k body (A.lin i) (A.lout i) e.length m s H x vs H'' → (∀ {β : Type} (k' : Env → Option β), setK (A.lout i) vs (List.replicate e.length .any) k' = k' e2) → e2.length = e.length →
        Sem' C k (.loop body) e H x e2 H'' := by
      intro m x vs H'' e2 hr h2 hl
      refine ⟨hr.keeps, hl, fun S0 g w a Q hO he hQ => wp_loop_rounds m ?_⟩
      have hsz : a.tmps.size = e.length := by have := RVs.length he; simpa using this
      refine hr.run S0 g w a Q hO (projL_RVs he hps) hsz fun a' w' g' q1 q2 q3 q4 q5 => ?_
      obtain ⟨e3, m1, m2⟩ := setK_RVs (k := some) (r := e2) (b := List.replicate e.length .any) (a := a') (by
        have := anys (g := g') (w := w') (S := g'.St S0) a'.tmps.toList
        simpa [REnv, q4] using this) q3 (h2 some)
      simp only [Option.some.injEq] at m2
      subst m2
      exact hQ a' w' g' q1 q2 m1 q5
    split at h
    · simp at h
    · simp at h
    · rename_i id vs H' hl
      split at h
      case isFalse => simp at h
      rename_i hid
      subst hid
      obtain ⟨m, hm'⟩ := lim_eq.1 hl
      obtain ⟨x, vs', c1, c2⟩ := key m _ _ _ _ (hm' m (Nat.le_refl _))
      obtain ⟨e2, l1, l2, l3⟩ := setK_ex h
      rcases c2 with ⟨_, c3⟩ | ⟨id', rfl, c3⟩
      · cases c3
      · injection c3 with c3 c4
        subst c3 c4
        exact ⟨.exit id, e2, H', whole c1 l1 (by simpa using l3), l2⟩
    · rename_i vs H' hl
      obtain ⟨m, hm'⟩ := lim_eq.1 hl
      obtain ⟨x, vs', c1, c2⟩ := key m _ _ _ _ (hm' m (Nat.le_refl _))
      obtain ⟨e2, l1, l2, l3⟩ := setK_ex h
      rcases c2 with ⟨rfl, c3⟩ | ⟨id', _, c3⟩
      · injection c3 with c3
        subst c3
        exact ⟨.ret, e2, H', whole c1 l1 (by simpa using l3), l2⟩
      · cases c3
  | exit id =>
    intro hpc hod α i e H kn kr ke r h
    simp only [execK, forceE_eq] at h
    exact ⟨.exit id, e, H, ⟨.refl _ _, rfl, fun S0 g w a Q hO he hQ => wp_exit (hQ a w g hO (.refl _ _ _) he rfl)⟩, h⟩
  | ret =>
    intro hpc hod α i e H kn kr ke r h
    simp only [execK, forceE_eq] at h
    exact ⟨.ret, e, H, ⟨.refl _ _, rfl, fun S0 g w a Q hO he hQ => wp_ret (hQ a w g hO (.refl _ _ _) he rfl)⟩, h⟩
  | _ => intro hpc hod α i e H kn kr ke r h; simp [execK] at h
end
end Go.Fm

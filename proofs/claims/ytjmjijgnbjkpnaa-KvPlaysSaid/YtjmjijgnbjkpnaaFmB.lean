/-
  A part of the proof: FmB.
-/
import Derived.Test.YtjmjijgnbjkpnaaFmA
import Derived.WideKeyRuns
import Derived.MapKept
import Derived.LoopN
import Derived.ChangeSame
set_option linter.all false
/-
  Slicing.
-/
set_option linter.unusedSimpArgs false
set_option linter.unusedVariables false
namespace Go.Fm
open Go
/-- A bound that may be missing. -/
def RO (g : Gh) (w : World) (S : Nat → Nat → Prop) : Option Value → Option AV → Prop
  | none, none => True
  | some u, some a => RV g w S u a
  | _, _ => False
section
variable {C : Cfg} {S0 : Nat → Nat → Prop} {g : Gh} {w : World} {H : Heap} {S : Nat → Nat → Prop}
theorem run_bounds {P : Program} {len cap l h : Nat} {lo hi : Option AV} {lu hu : Option Value} (b : Bool) (hlo : RO g w S lu lo) (hhi : RO g w S hu hi) (hh : natOf hi len len = some h) (hl : natOf lo 0 h = some l) (hc : len ≤ cap) (w' : World) :
    (Instr.sliceBounds b len cap lu hu none).run P w' = .ok (l, h, cap) w' ∧ l ≤ h ∧ h ≤ len := by
  have key : ∀ (x : Option AV) (xu : Option Value) (d y n : Nat), RO g w S xu x → natOf x d y = some n → (xu = none ∧ n = d) ∨ ∃ k, xu = some (.int k n) ∧ n ≤ y := by
    intro x xu d y n hr hn
    unfold natOf at hn
    split at hn
    · simp only [Option.some.injEq] at hn
      subst hn
      cases xu with
      | none => exact .inl ⟨rfl, rfl⟩
      | some u => exact hr.elim
    · split at hn
      · rename_i k i hi
        simp only [Option.some.injEq] at hn
        subst hn
        cases xu with
        | none => exact hr.elim
        | some u =>
          have := RV_int hr
          refine .inr ⟨k, ?_, by omega⟩
          rw [this]
          congr 2
          omega
      · simp at hn
    · simp at hn
  have hbd : ∀ (k : IntKind) (n y : Nat) (code : BoundsCode), n ≤ y → (Instr.sliceBound (.int k n) y code).run P w' = .ok n w' := by
    intro k n y code hny
    have : (asIntOf (.int k (n : Int))).run P w' = .ok (k, (n : Int)) w' := rfl
    simp [Instr.sliceBound, this, hny]
  rcases key hi hu len len h hhi hh with ⟨rfl, rfl⟩ | ⟨k1, rfl, h1⟩ <;> rcases key lo lu 0 _ l hlo hl with ⟨rfl, rfl⟩ | ⟨k2, rfl, h2⟩
  · exact ⟨by simp [Instr.sliceBounds], by omega, by omega⟩
  · exact ⟨by simp [Instr.sliceBounds, hbd _ _ _ _ h2], by omega, by omega⟩
  · exact ⟨by simp [Instr.sliceBounds, hbd _ _ _ _ (Nat.le_trans h1 hc)], by omega, by omega⟩
  · exact ⟨by simp [Instr.sliceBounds, hbd _ _ _ _ (Nat.le_trans h1 hc), hbd _ _ _ _ h2], by omega, by omega⟩
theorem RL.drop {sz : Nat} {cs : List Value} {es : List CV} (h : RL w S sz cs es) : ∀ l, RL w S sz (cs.drop (l * sz)) (es.drop l) := by
  induction es generalizing cs with
  | nil => cases h; intro l; simpa using RL.nil sz
  | cons e es ih =>
    intro l
    cases l with
    | zero => simpa using h
    | succ l =>
      cases h with
      | cons _ c cs _ _ hl h hs =>
        have := ih hs l
        rw [Nat.succ_mul, Nat.add_comm, ← List.drop_drop, ← hl, List.drop_left]
        simpa [hl] using this
theorem RL.take {sz : Nat} {cs : List Value} {es : List CV} (h : RL w S sz cs es) : ∀ l, RL w S sz (cs.take (l * sz)) (es.take l) := by
  induction es generalizing cs with
  | nil => cases h; intro l; simpa using RL.nil sz
  | cons e es ih =>
    intro l
    cases l with
    | zero => simpa using RL.nil sz
    | succ l =>
      cases h with
      | cons _ c cs _ _ hl h hs =>
        have := RL.cons sz c _ e _ hl h (ih hs l)
        rw [Nat.succ_mul, Nat.add_comm]
        rw [List.take_append, List.take_of_length_le (by omega)]
        simpa [hl, show sz + l * sz - sz = l * sz by omega] using this
/-- A piece of a row that is content. -/
theorem RC_slice {b o c sz l h : Nat} {es : List CV} {cs : List Value} (hh : Here w S b o cs) (hr : RL w S sz cs es) (h1 : l ≤ h) (h2 : h ≤ es.length) (h3 : es.length ≤ c) (h4 : c ≤ maxLen) :
    RC w S [.slice (some (if c = l then ⟨b, o, none⟩ else ⟨b, o + l * sz, none⟩)) (h - l) (c - l)] (.sl sz ((es.drop l).take (h - l))) := by
  have hlen : ((es.drop l).take (h - l)).length = h - l := by simp; omega
  by_cases hc : c = l
  · have : h - l = 0 := by omega
    rw [if_pos hc, this]
    simpa using RC.sl0 (w := w) (S := S) sz (some ⟨b, o, none⟩) (c - l) (by omega)
  · rw [if_neg hc]
    have := RC.sl (w := w) (S := S) b (o + l * sz) (c - l) sz ((es.drop l).take (h - l)) ((cs.drop (l * sz)).take ((h - l) * sz)) (fun i v hv => by
      have hlt : i < (h - l) * sz := by
        rcases Nat.lt_or_ge i ((h - l) * sz) with h' | h'
        · exact h'
        · rw [List.getElem?_take_eq_none h'] at hv; cases hv
      rw [List.getElem?_take_of_lt hlt, List.getElem?_drop] at hv
      have := hh _ v hv
      rwa [← Nat.add_assoc] at this) ((hr.drop l).take (h - l)) (by rw [hlen]; omega) (by omega)
    rwa [hlen] at this
theorem tailOf_ok (hO : Ok C S0 g w H) {t e : TypeId} {x v : AV} {xu : Value} {lo hi : Option AV} {lu hu : Option Value} {H' : Heap} (ht : C.P.underlying t = some (.slice e)) (hx : RV g w (g.St S0) xu x)
    (hlo : RO g w (g.St S0) lu lo) (hhi : RO g w (g.St S0) hu hi) (h : tailOf C H e x lo hi = some (v, H')) : RunsV C S0 g w H' v (Instr.slice t xu lu hu none) := by
  unfold tailOf at h
  split at h
  · rename_i id k i
    split at h
    · rename_i u sz es hrow
      split at h
      · rename_i hc
        obtain ⟨rfl, hie⟩ := hc
        split at h
        · rename_i hb
          simp only [Option.some.injEq, Prod.mk.injEq] at h
          obtain ⟨rfl, rfl⟩ := h
          obtain ⟨ie, hie⟩ := Option.isSome_iff_exists.1 hie
          have hsz : C.P.cellsOf e = ie.size := by simp [Program.cellsOf, hie]
          have hG : g.G id = some (.row u (C.P.cellsOf e) es) := by rw [hO.heap]; exact hrow
          obtain ⟨a, n, c, e1, hsm, hval⟩ := RV_os hx
          rw [hval es.length (by rw [hG]; rfl)] at e1
          subst e1
          have hnat : natOf (some (.c (.int k i))) 0 es.length = some i.toNat := by simp [natOf, hb.1, hb.2]
          rcases hO.inv.blk id _ hG with ⟨v1, rfl, v3⟩ | ⟨v1, pre, cs, post, fr, r1, r2, r3, r4, r5, r6, r7⟩
          · rw [rowVal_virt v1]
            obtain ⟨b1, b2, b3⟩ := run_bounds (P := C.P) (len := 0) (cap := 0) true hlo hhi rfl hnat (Nat.le_refl _) w
            have hi0 : i.toNat = 0 := by simpa using b2
            rw [hi0] at b1 ⊢
            obtain ⟨d1, d2⟩ := hO.set (b := .row u (C.P.cellsOf e) []) (b' := .dead) (w' := w) hrow (.inr rfl) rfl (fun n hn => by simp [Blk.len?] at hn) (fun n hn => by simp [Blk.sz?] at hn) (fun h => by simp [Blk.ok] at h) (.inl (Like.refl w)) (fun _ => trivial)
            obtain ⟨g2, k1, k2, k3⟩ := d1.virt u (C.P.cellsOf e)
            have hl : (H.set id Blk.dead).length = H.length := by simp
            rw [hl] at k3
            refine ⟨.slice none 0 0, w, g2, ?_, by simpa using k1, d2.trans k2, .one _ _ (.os _ _ _ _ (by rw [k1.heap]; simp [get]) fun mm hm => ?_) rfl⟩
            · simp [Instr.slice, run_underlying ht, b1, run_sizeOf hie]
            · rw [rowVal_virt k3]
          · rw [rowVal_real v1]
            obtain ⟨b1, b2, b3⟩ := run_bounds (P := C.P) (len := es.length) (cap := g.κ id) true hlo hhi rfl hnat r6 w
            have hcl := r5.length
            have hdl := (r5.drop i.toNat)
            by_cases hk : g.κ id = i.toNat
            · -- nothing is left
              have hes : es.drop i.toNat = [] := by simp; omega
              obtain ⟨g2, k1, k2, p1, p2, p3, p4⟩ := hO.move (b := .row u (C.P.cellsOf e) es) (b' := .row u (C.P.cellsOf e) (es.drop i.toNat)) hrow v1 rfl (g.β id) 0 (w' := w) ⟨rfl, rfl, rfl, rfl, fun _ _ => rfl⟩
                (fun g' k q1 q2 q3 q4 => .inr ⟨q4, pre, [], cs ++ post, fr, by rw [q1]; simpa using r1, by simpa using r2, by rw [q2]; exact r3, by rw [q3]; simp, by rw [hes]; exact .nil _, by rw [hes]; simp, by rw [q3]; simp [maxLen]⟩)
              refine ⟨.slice (some ⟨g.φ id, g.β id, none⟩) (es.length - i.toNat) 0, w, g2, ?_, k1, k2, .one _ _ (.os _ _ _ _ (by rw [k1.heap]; simp [get]) fun mm hm => ?_) rfl⟩
              · rw [hk] at b1
                simp [Instr.slice, run_underlying ht, b1, run_sizeOf hie, hk]
              · have hG2 : g2.G H.length = some (.row u (C.P.cellsOf e) (es.drop i.toNat)) := by rw [k1.heap]; simp [get]
                rw [hG2] at hm
                simp only [Option.bind_some, Blk.len?, Option.some.injEq, List.length_drop] at hm
                subst hm
                rw [rowVal_real p4, p1, p2, p3]
            · obtain ⟨g2, k1, k2, p1, p2, p3, p4⟩ := hO.move (b := .row u (C.P.cellsOf e) es) (b' := .row u (C.P.cellsOf e) (es.drop i.toNat)) hrow v1 rfl (g.β id + i.toNat * C.P.cellsOf e) (g.κ id - i.toNat) (w' := w) ⟨rfl, rfl, rfl, rfl, fun _ _ => rfl⟩
                (fun g' k q1 q2 q3 q4 => .inr ⟨q4, pre ++ cs.take (i.toNat * C.P.cellsOf e), cs.drop (i.toNat * C.P.cellsOf e), post, fr, by
                    rw [q1, List.append_assoc pre, List.take_append_drop]; exact r1, by rw [List.append_assoc pre, List.take_append_drop]; exact r2, by
                    rw [q2]
                    have : i.toNat * C.P.cellsOf e ≤ cs.length := by rw [hcl]; exact Nat.mul_le_mul_right _ b2
                    simp [r3, Nat.min_eq_left this], by
                    rw [q3, Nat.sub_mul]
                    simp only [List.length_append, List.length_drop] at r4 ⊢
                    have : i.toNat * C.P.cellsOf e ≤ cs.length := by rw [hcl]; exact Nat.mul_le_mul_right _ b2
                    omega, hdl.stays (k.stays S0), by rw [q3]; simp; omega, by rw [q3]; omega⟩)
              refine ⟨.slice (some ⟨g.φ id, g.β id + i.toNat * C.P.cellsOf e, none⟩) (es.length - i.toNat) (g.κ id - i.toNat), w, g2, ?_, k1, k2, .one _ _ (.os _ _ _ _ (by rw [k1.heap]; simp [get]) fun mm hm => ?_) rfl⟩
              · simp [Instr.slice, run_underlying ht, b1, run_sizeOf hie, hk, addr_add, hsz]
              · have hG2 : g2.G H.length = some (.row u (C.P.cellsOf e) (es.drop i.toNat)) := by rw [k1.heap]; simp [get]
                rw [hG2] at hm
                simp only [Option.bind_some, Blk.len?, Option.some.injEq, List.length_drop] at hm
                subst hm
                rw [rowVal_real p4, p1, p2, p3]
        · simp at h
      · simp at h
    · simp at h
  · simp at h
theorem RV_sl {u : Value} {sz : Nat} {es : List CV} (h : RV g w S u (.c (.sl sz es))) : (∃ b o cap cs, u = .slice (some ⟨b, o, none⟩) es.length cap ∧ Here w S b o cs ∧ RL w S sz cs es ∧ es.length ≤ cap ∧ cap ≤ maxLen) ∨ (es = [] ∧ ∃ a cap, u = .slice a 0 cap ∧ cap ≤ maxLen) := by
  have := h.cv1 rfl
  generalize e : [u] = l at this
  cases this with
  | sl b o cap _ _ cs h1 h2 h3 h4 => injection e with e; exact .inl ⟨b, o, cap, cs, e, h1, h2, h3, h4⟩
  | sl0 _ a cap hm => injection e with e; exact .inr ⟨rfl, a, cap, e, hm⟩
theorem toCV (hO : Ok C S0 g w H) {d : Nat} {x : AV} {u : Value} {c : CV} {H' : Heap} (hx : RV g w (g.St S0) u x) (ht : NT x) (h : toC d H x = some (c, H')) : ∃ g', Ok C S0 g' w H' ∧ Step g w g' w ∧ RV g' w (g'.St S0) u (.c c) := by
  obtain ⟨h1, h2, h3⟩ := hx.cells ht
  obtain ⟨g', k1, k2, k3, k4⟩ := toC_ok d H x c H' h g w _ hO h1
  refine ⟨g', k1, k2, ?_⟩
  cases ha : x.isAgg with
  | true =>
    obtain ⟨cs, rfl⟩ := h2 ha
    simpa [Value.cells] using RV.ofA (RA.c (g := g') _ c k3) (by show c.isAgg = true; rw [k4, ha])
  | false =>
    have : u.cells.toList = [u] := by
      have := h3 ha
      cases u <;> first | rfl | simp [Value.oneCell'] at this
    rw [this] at k3
    exact RV.ofC1 k3 (by rw [k4, ha])
theorem toC_tup {d : Nat} {l : List AV} : toC d H (.tup l) = none := by cases d <;> simp [toC]
theorem aslice_ok (hO : Ok C S0 g w H) {t : TypeId} {x v : AV} {xu : Value} {lo hi : Option AV} {lu hu : Option Value} {H' : Heap} (hx : RV g w (g.St S0) xu x)
    (hlo : RO g w (g.St S0) lu lo) (hhi : RO g w (g.St S0) hu hi) (h : aslice C H t x lo hi = some (v, H')) : RunsV C S0 g w H' v (Instr.sliceAt t xu lu hu none) := by
  unfold aslice at h
  split at h
  · rename_i ht
    split at h
    · rename_i s
      split at h
      · rename_i hh e1
        split at h
        · rename_i l e2
          simp only [Option.some.injEq, Prod.mk.injEq] at h
          obtain ⟨rfl, rfl⟩ := h
          rw [RV_str hx]
          obtain ⟨b1, b2, b3⟩ := run_bounds (P := C.P) (len := s.size) (cap := s.size) false hlo hhi e1 e2 (Nat.le_refl _) w
          exact RunsV.same hO (u := .string (s.extract l hh)) (by simp [Instr.sliceAt, Instr.slice, run_underlying ht, b1]) (RV.ofC1 (.str _) rfl)
        · simp at h
      · simp at h
    · simp at h
  · rename_i e ht
    have hsl : ∀ {s : Sem Value}, RunsV C S0 g w H' v (Instr.slice t xu lu hu none) → RunsV C S0 g w H' v (Instr.sliceAt t xu lu hu none) := by
      rintro _ ⟨u, w', g', h1, h2⟩
      exact ⟨u, w', g', by simpa [Instr.sliceAt, run_underlying ht] using h1, h2⟩
    refine hsl (s := Pure.pure xu) ?_
    split at h
    · rename_i r hr
      simp only [Option.some.injEq] at h
      subst h
      exact tailOf_ok hO ht hx hlo hhi hr
    · rename_i hr
      split at h
      · rename_i sz es H1 hc
        split at h
        · rename_i hh e1
          split at h
          · rename_i l e2
            split at h
            · rename_i hcond
              obtain ⟨rfl, hie⟩ := hcond
              simp only [Option.some.injEq, Prod.mk.injEq] at h
              obtain ⟨rfl, rfl⟩ := h
              obtain ⟨ie, hie⟩ := Option.isSome_iff_exists.1 hie
              have hsz : C.P.cellsOf e = ie.size := by simp [Program.cellsOf, hie]
              have hxt : NT x := ⟨fun e' => by subst e'; simp [toC] at hc, fun l e' => by subst e'; rw [toC_tup] at hc; cases hc⟩
              obtain ⟨g1, k1, k2, k3⟩ := toCV hO hx hxt hc
              rcases RV_sl k3 with ⟨b, o, cap, cs, rfl, m1, m2, m3, m4⟩ | ⟨rfl, a, cap, rfl, m4⟩
              · obtain ⟨b1, b2, b3⟩ := run_bounds (P := C.P) (len := es.length) (cap := cap) true hlo hhi e1 e2 m3 w
                refine ⟨_, w, g1, ?_, k1, k2, RV.ofC1 (RC_slice m1 m2 b2 b3 m3 m4) rfl⟩
                by_cases hk : cap = l
                · rw [hk] at b1
                  simp [Instr.slice, run_underlying ht, b1, run_sizeOf hie, hk]
                · simp [Instr.slice, run_underlying ht, b1, run_sizeOf hie, hk, addr_add, hsz]
              · obtain ⟨b1, b2, b3⟩ := run_bounds (P := C.P) (len := 0) (cap := cap) true hlo hhi e1 e2 (Nat.zero_le _) w
                have h0 : hh = 0 := by omega
                have l0 : l = 0 := by omega
                subst h0
                subst l0
                refine ⟨.slice (if cap = 0 then a else a.map fun x => x.add 0) 0 cap, w, g1, ?_, k1, k2, RV.ofC1 (by simpa using RC.sl0 (C.P.cellsOf e) _ cap m4) rfl⟩
                simp [Instr.slice, run_underlying ht, b1, run_sizeOf hie]
            · simp at h
          · simp at h
        · simp at h
      · rename_i H1 hc
        split at h
        · rename_i hh e1
          split at h
          · rename_i l e2
            split at h
            · rename_i hie
              simp only [Option.some.injEq, Prod.mk.injEq] at h
              obtain ⟨rfl, rfl⟩ := h
              obtain ⟨ie, hie⟩ := Option.isSome_iff_exists.1 hie
              have hxt : NT x := ⟨fun e' => by subst e'; simp [toC] at hc, fun l e' => by subst e'; rw [toC_tup] at hc; cases hc⟩
              obtain ⟨g1, k1, k2, k3⟩ := toCV hO hx hxt hc
              rw [RV_nilsl k3]
              obtain ⟨b1, b2, b3⟩ := run_bounds (P := C.P) (len := 0) (cap := 0) true hlo hhi e1 e2 (Nat.le_refl _) w
              have h0 : hh = 0 := by omega
              have l0 : l = 0 := by omega
              subst h0
              subst l0
              exact ⟨.slice none 0 0, w, g1, by simp [Instr.slice, run_underlying ht, b1, run_sizeOf hie], k1, k2, RV.ofC1 .nilsl rfl⟩
            · simp at h
          · simp at h
        · simp at h
      · simp at h
  · rename_i n e ht
    split at h
    · rename_i root path off H1 hm
      split at h
      · rename_i m k ns o hg ho
        split at h
        · rename_i hcond
          obtain ⟨rfl, rfl, hns, he1, hie, hmx⟩ := hcond
          split at h
          · rename_i hh e1
            split at h
            · rename_i l e2
              simp only [Option.some.injEq, Prod.mk.injEq] at h
              obtain ⟨rfl, rfl⟩ := h
              obtain ⟨ie, hie⟩ := Option.isSome_iff_exists.1 hie
              have hsz : ie.size = 1 := by simpa [Program.cellsOf, hie] using he1
              have hpt : ∃ g1 b o' cs, Ok C S0 g1 w H1 ∧ Step g w g1 w ∧ xu = .pointer (some ⟨b, o' + o, none⟩) ∧ Here w (g1.St S0) b o' cs ∧ RC w (g1.St S0) cs root := by
                split at hm
                · simp only [Option.some.injEq, Prod.mk.injEq] at hm
                  obtain ⟨rfl, rfl, rfl, rfl⟩ := hm
                  obtain ⟨b, o', cs, p1, p2, p3⟩ := RV_ptr hx
                  exact ⟨g, b, o', cs, hO, Step.refl g w, p1, p2, p3⟩
                · rename_i id path' off'
                  split at hm
                  · rename_i root' H2 hc
                    simp only [Option.some.injEq, Prod.mk.injEq] at hm
                    obtain ⟨rfl, rfl, rfl, rfl⟩ := hm
                    obtain ⟨p1, p2⟩ := RV_ov hx
                    obtain ⟨g1, k1, k2, k3⟩ := toCV hO (RV_ov_mk (w := w) (S := g.St S0) (p := []) (off := 0) p2) (by simp) hc
                    obtain ⟨b, o', cs, q1, q2, q3⟩ := RV_ptr k3
                    simp only [Value.pointer.injEq, Option.some.injEq, Addr.mk.injEq] at q1
                    obtain ⟨q4, q5, _⟩ := q1
                    have q6 : o' = 0 := by omega
                    subst q6
                    exact ⟨g1, b, 0, cs, k1, k2, by rw [p1, q4]; simp, q2, q3⟩
                  · simp at hm
                · simp at hm
              obtain ⟨g1, b, o', cs, k1, k2, rfl, k4, k5⟩ := hpt
              obtain ⟨xs, x1, x2⟩ := k5.get path _ o hg ho
              have hxs : xs = ns.map (Value.int k) := by
                generalize hc1 : xs = c0 at x1
                cases x1
                rfl
              subst hxs
              have hhere : Here w (g1.St S0) b (o' + o) (ns.map (Value.int k)) := fun i u hu => by
                have := k4 _ u (x2 i u hu)
                rwa [← Nat.add_assoc] at this
              have hRL : RL w (g1.St S0) 1 (ns.map (Value.int k)) (ns.map (CV.int k)) := by
                clear x1 x2 hhere hns e1 hg e2
                induction ns with
                | nil => exact .nil _
                | cons a ns ih => exact .cons 1 [.int k a] _ _ _ rfl (.int k a) ih
              obtain ⟨b1, b2, b3⟩ := run_bounds (P := C.P) (len := m) (cap := m) false hlo hhi e1 e2 (Nat.le_refl _) w
              refine ⟨_, w, g1, ?_, k1, k2, RV.ofC1 (RC_slice hhere hRL b2 (by simpa [hns] using b3) (by simp [hns]) (c := m) ?_) rfl⟩
              · by_cases hk : m = l
                · rw [hk] at b1
                  simp [Instr.sliceAt, Instr.sureAddr, run_underlying ht, b1, run_sizeOf hie, hk]
                · simp [Instr.sliceAt, Instr.sureAddr, run_underlying ht, b1, run_sizeOf hie, hk, addr_add, hsz]
              · exact hmx
            · simp at h
          · simp at h
        · simp at h
      · simp at h
    · simp at h
  · simp at h
end
end Go.Fm
/-
  Arrays of rows; strings turned into rows; the mark of a literal's conversion.
-/
set_option linter.unusedSimpArgs false
set_option linter.unusedVariables false
namespace Go.Fm
open Go
section
variable {C : Cfg} {S0 : Nat → Nat → Prop} {g : Gh} {w : World} {H : Heap} {S : Nat → Nat → Prop}
theorem intsC_RL {k : IntKind} : ∀ (es : List CV) (ns : List Int) (cs : List Value), intsC k es = some ns → RL w S 1 cs es → cs = ns.map (Value.int k) ∧ ns.length = es.length
  | [], ns, cs, h, hr => by simp only [intsC, Option.some.injEq] at h; subst h; cases hr; exact ⟨rfl, rfl⟩
  | e :: es, ns, cs, h, hr => by
    cases e with
    | int k' n =>
      simp only [intsC] at h
      split at h
      · rename_i hk
        subst hk
        split at h
        · rename_i ms hms
          simp only [Option.some.injEq] at h
          subst h
          cases hr with
          | cons _ c cs _ _ hl h1 h2 =>
            obtain ⟨rfl, hlen⟩ := intsC_RL es ms cs hms h2
            cases h1
            exact ⟨rfl, by simp [hlen]⟩
        · simp at h
      · simp at h
    | _ => simp [intsC] at h
theorem aarrayAt_ok (hO : Ok C S0 g w H) {t : TypeId} {x v : AV} {xu : Value} {H' : Heap} (hx : RV g w (g.St S0) xu x) (h : aarrayAt C H t x = some (v, H')) : RunsV C S0 g w H' v (Instr.arrayAt t xu) := by
  unfold aarrayAt at h
  split at h
  · rename_i n e es H1 ht hc
    split at h
    · rename_i k hk
      split at h
      · rename_i hn
        obtain ⟨hn, hn0⟩ := hn
        split at h
        · rename_i ns hns
          simp only [Option.some.injEq, Prod.mk.injEq] at h
          obtain ⟨rfl, rfl⟩ := h
          have hxt : NT x := ⟨fun e' => by subst e'; simp [toC] at hc, fun l e' => by subst e'; rw [toC_tup] at hc; cases hc⟩
          obtain ⟨g1, k1, k2, k3⟩ := toCV hO hx hxt hc
          rcases RV_sl k3 with ⟨b, o, cap, cs, rfl, m1, m2, m3, m4⟩ | ⟨rfl, a, cap, rfl, m4⟩
          · have m5 := m2.take n
            rw [Nat.mul_one] at m5
            obtain ⟨q1, q2⟩ := intsC_RL _ ns _ hns m5
            have hlen : ns.length = n := by rw [q2]; simp; omega
            refine ⟨.pointer (some ⟨b, o, none⟩), w, g1, by simp [Instr.arrayAt, run_underlying ht, Nat.not_lt.2 hn], k1, k2, ?_⟩
            have hhere : Here w (g1.St S0) b o (ns.map (Value.int k)) := fun i u hu => m1 i u (by
              rw [← q1] at hu
              have hlt : i < n := by
                rcases Nat.lt_or_ge i n with h' | h'
                · exact h'
                · rw [List.getElem?_take_eq_none h'] at hu; cases hu
              rwa [List.getElem?_take_of_lt hlt] at hu)
            exact RV.ofC1 (by simpa using RC.ptr b o 0 [] (.arr n k ns) _ hhere (.arr n k ns hlen)) rfl
          · simp at hn
            omega
        · simp at h
      · simp at h
    · simp at h
  · simp at h
theorem bytesAV_len (s : ByteArray) : (bytesAV s.data.toList).length = s.size := by simp [bytesAV]
theorem stringBytes_ok (hO : Ok C S0 g w H) {src dst e : TypeId} {s : ByteArray} {u : TypeDesc} (hs : C.P.underlying src = some u) (hd : C.P.underlying dst = some (.slice e)) (he : C.P.underlying e = some (.int .u8)) (hm : s.size ≤ maxLen) :
    RunsV C S0 g w (H ++ [.row e 1 (bytesAV s.data.toList)]) (.os H.length) (convert src dst (.string s)) := by
  have hrun := Lib.run_convert_string_bytes (P := C.P) w src dst e s hs hd he
  have hcap := grownCap_le_maxLen w s.size 0 e hm
  have hge := grownCap_ge w s.size 0 e
  have hwn := Lib.bytesWorld_at_new w e s
  have hcells : (Lib.bytesCells w e s).toList = (s.data.toList.map fun b => Value.int .u8 (b.toNat : Int)) ++ List.replicate (grownCap w s.size 0 e - s.size) (.int .u8 0) := by simp [Lib.bytesCells]
  -- the new world is an allocation, up to the mark
  let w1 : World := { (Lib.bytesWorld w e s) with heap := w.heap }
  have hlike : Like w w1 := ⟨rfl, rfl, rfl, rfl⟩
  have hw1 : w1.alloc (.cells (Lib.bytesCells w e s) e ((Lib.bytesCells w e s).size, (Lib.bytesCells w e s).size + 1)) = Lib.bytesWorld w e s := by
    have h1 : (Lib.bytesWorld w e s).heap = w.heap.push (.cells (Lib.bytesCells w e s) e ((Lib.bytesCells w e s).size, (Lib.bytesCells w e s).size + 1)) := by
      apply Array.ext_getElem?
      intro j
      rw [Array.getElem?_push]
      by_cases hj : j = w.heap.size
      · rw [if_pos hj, hj, hwn]
      · rw [if_neg hj]
        rcases Nat.lt_or_ge j w.heap.size with hlt | hge
        · exact Lib.bytesWorld_at_old w e s j hlt
        · rw [Array.getElem?_eq_none hge, Array.getElem?_eq_none (by rw [Lib.bytesWorld_size]; omega)]
    have h2 : (w1.alloc (.cells (Lib.bytesCells w e s) e ((Lib.bytesCells w e s).size, (Lib.bytesCells w e s).size + 1))) = { (Lib.bytesWorld w e s) with heap := w.heap.push (.cells (Lib.bytesCells w e s) e ((Lib.bytesCells w e s).size, (Lib.bytesCells w e s).size + 1)) } := rfl
    rw [h2, ← h1]
  rw [← hw1] at hrun
  obtain ⟨g', k1, k2, p1, p2, p3, p4⟩ := hO.alloc hlike (.cells (Lib.bytesCells w e s) e ((Lib.bytesCells w e s).size, (Lib.bytesCells w e s).size + 1)) (.row e 1 (bytesAV s.data.toList)) (grownCap w s.size 0 e) (by
    intro g' hg' k hnew q1 q2 q3 q4
    refine .inr ⟨q4, [], s.data.toList.map fun b => Value.int .u8 (b.toNat : Int), List.replicate (grownCap w s.size 0 e - s.size) (.int .u8 0), ((Lib.bytesCells w e s).size, (Lib.bytesCells w e s).size + 1), ?_, ?_, by simp [q2], ?_, bytesAV_RL _, by rw [q3, bytesAV_len]; exact hge, by rw [q3]; exact hcap⟩
    · rw [q1, hnew]
      congr 2
      apply Array.ext'
      rw [hcells]
      simp
    · refine ⟨by simp, fun h => absurd rfl h, fun o ho => ?_⟩
      have : (Lib.bytesCells w e s).size = (Lib.bytesCells w e s).toList.length := by simp
      rw [this, hcells]
      simp at ho ⊢
      omega
    · rw [q3]
      simp
      omega)
  refine ⟨_, _, g', hrun, k1, k2, .one _ _ (.os _ _ _ _ (by rw [k1.heap]; simp [get]) fun mm hmm => ?_) rfl⟩
  have hG2 : g'.G H.length = some (.row e 1 (bytesAV s.data.toList)) := by rw [k1.heap]; simp [get]
  rw [hG2] at hmm
  simp only [Option.bind_some, Blk.len?, Option.some.injEq, bytesAV_len] at hmm
  subst hmm
  rw [rowVal_real p4, p1, p2, p3]
/-- The mark that a conversion of a row to its own type leaves. -/
theorem mark_ok (hO : Ok C S0 g w H) {t e u : TypeId} {sz id : Nat} {es : List CV} {xu : Value} (hsz : sz = 1) (ht : C.P.underlying t = some (.slice e)) (he : C.P.underlying e = some (.int .u8)) (hx : RV g w (g.St S0) xu (.os id)) (hb : H[id]? = some (.row u sz es)) (hne : es ≠ []) :
    RunsV C S0 g w H (.os id) (convert t t xu) := by
  have hG : g.G id = some (.row u sz es) := by rw [hO.heap]; exact hb
  obtain ⟨a, n, c, e1, hsm, hval⟩ := RV_os hx
  have hx' := hx
  rw [hval es.length (by rw [hG]; rfl)] at e1
  subst e1
  rcases hO.inv.blk id _ hG with ⟨v1, v2, v3⟩ | ⟨v1, pre, cs, post, fr, r1, r2, r3, r4, r5, r6, r7⟩
  · exact absurd v2 hne
  · rw [rowVal_real v1] at hx' ⊢
    have hsh : w.shape? (g.φ id) = some (u, (pre ++ cs ++ post).length) := by simp [World.shape?, r1]
    let w' := w.freeze ⟨g.φ id, (pre ++ cs ++ post).length, none⟩ 1
    have hlt : g.φ id < w.heap.size := hO.inv.lt id _ hG v1
    have hget : w.heap[g.φ id] = .cells (pre ++ cs ++ post).toArray u fr := by
      have := r1
      rw [Array.getElem?_eq_getElem hlt] at this
      injection this
    let N := (pre ++ cs ++ post).length
    let fr' : Nat × Nat := if fr.1 == fr.2 then (N, N + 1) else (min fr.1 N, max fr.2 (N + 1))
    have hw' : w'.heap[g.φ id]? = some (.cells (pre ++ cs ++ post).toArray u fr') := by
      have : w'.heap = w.heap.modify (g.φ id) fun | .cells c elem (lo, hi) => .cells c elem (if lo == hi then (N, N + 1) else (min lo N, max hi (N + 1))) | o => o := by
        simp [w', World.freeze, N, Nat.add_assoc]
        congr 1
      rw [this, Array.getElem?_eq_getElem (by simpa using hlt), Array.getElem_modify, if_pos rfl, hget]
    have hoth : ∀ k, k ≠ g.φ id → w'.heap[k]? = w.heap[k]? := fun k hk => by simp [w', World.freeze, Array.getElem?_modify, Ne.symm hk]
    have hfr : FrOk fr' sz N := by
      have h1 := r2.le
      have h2 := r2.out
      show FrOk (if fr.1 == fr.2 then (N, N + 1) else (min fr.1 N, max fr.2 (N + 1))) sz N
      split
      · exact ⟨by simp, fun h => absurd hsz h, fun o ho => by simp; omega⟩
      · rename_i hne'
        have hlt' : fr.1 < fr.2 := by
          have : fr.1 ≠ fr.2 := by simpa using hne'
          omega
        have hge : N ≤ fr.1 := by
          rcases Nat.lt_or_ge fr.1 N with h | h
          · have := h2 fr.1 h
            simp at this
            omega
          · exact h
        exact ⟨by simp; omega, fun h => absurd hsz h, fun o ho => by simp; omega⟩
    obtain ⟨k1, k2⟩ := hO.set (b := .row u sz es) (b' := .row u sz es) (w' := w') hb (.inl v1) rfl (fun n hn => hn) (fun n hn => hn) (fun _ h => by simp [Blk.len?] at h)
      (.inr ⟨by simp [w', World.freeze], rfl, rfl, rfl, hoth⟩)
      (fun k => .inr ⟨v1, pre, cs, post, fr', hw', hfr, r3, r4, r5.stays (k.stays S0), r6, r7⟩)
    have hset : H.set id (.row u sz es) = H := List.ext_getElem? fun j => by
      by_cases hj : j = id
      · subst hj; rw [List.getElem?_set_self (get_lt hb), hb]
      · rw [List.getElem?_set_ne (Ne.symm hj)]
    rw [hset] at k1
    refine ⟨_, w', _, ?_, k1, k2, (hx'.step k2 (k2.stays S0))⟩
    simp [convert, run_underlying ht, run_underlying he, markStringish, shape, Sem.run, hsh, w', Result.andThen]
end
/-! ### Maps, of keys that are arrays of numbers -/
section
variable {C : Cfg} {S0 : Nat → Nat → Prop} {g : Gh} {w : World} {H : Heap}
theorem keyOk_of {P : Program} {kt : TypeId} {kv : CV} (h : keyOk P kt kv = true) : ∃ n k ns e, kv = .arr n k ns ∧ P.underlying kt = some (.array n e) ∧ P.underlying e = some (.int k) ∧ P.cellsOf e = 1 ∧ (P.info? e).isSome = true := by
  unfold keyOk at h
  split at h
  · rename_i n k ns
    split at h
    · rename_i m e hu
      split at h
      · rename_i k' he
        simp only [Bool.and_eq_true, decide_eq_true_eq] at h
        obtain ⟨⟨⟨rfl, rfl⟩, h1⟩, h2⟩ := h
        exact ⟨_, _, _, _, rfl, hu, he, h1, h2⟩
      · cases h
    · cases h
  · cases h
theorem run_checkKey_ints {P : Program} {w : World} {kt e : TypeId} {n : Nat} {k : IntKind} {ns : List Int} (em : Bool) (hu : P.underlying kt = some (.array n e)) (he : P.underlying e = some (.int k)) (h1 : P.cellsOf e = 1) (h2 : (P.info? e).isSome = true) (hl : ns.length = n) (d : Nat) :
    (Instr.checkKey em (d + 2) kt (.agg (ns.map (Value.int k)).toArray)).run P w = .ok () w := by
  obtain ⟨i, hi⟩ := Option.isSome_iff_exists.1 h2
  have hsz : i.size = 1 := by simpa [Program.cellsOf, hi] using h1
  have inner : ∀ x, (Instr.checkKey em (d + 1) e (.int k x)).run P w = .ok () w := fun x => by
    simp [Instr.checkKey, run_underlying he]
  rw [Instr.checkKey]
  simp only [Sem.run_bind, run_underlying hu, Result.andThen_ok]
  simp only [Std.Legacy.Range.forIn_eq_forIn_range', Std.Legacy.Range.size, Nat.sub_zero, Nat.add_one_sub_one, Nat.div_one]
  have each : ∀ j ∈ List.range' 0 n, j < ns.length := fun j hj => by
    rw [List.mem_range'_1] at hj; omega
  generalize List.range' 0 n = is at each
  induction is with
  | nil => simp
  | cons j is ih =>
    have hj := each j (by simp)
    have hp : (part e (ns.map (Value.int k)).toArray (j * i.size)).run P w = .ok (.int k ns[j]) w := by
      rw [hsz, Nat.mul_one]
      simp [part, isAgg, run_underlying he, hj]
    simp only [List.forIn_cons, Sem.run_bind, run_sizeOf (w := w) hi, Result.andThen_ok, hp, inner, Sem.run_pure]
    exact ih (fun y hy => each y (by simp [hy]))
theorem run_findAsking {P : Program} {w : World} {S : Nat → Nat → Prop} {kt : TypeId} {kv : CV} {ku : Value} (hk : RV g w S ku (.c kv)) :
    ∀ (es : List (CV × CV)) (ents : List MapEntry) (i : Nat) (r : Option CV), findE P kt kv es = some r → ents.length = es.length →
      (∀ (j : Nat) (a v : CV), es[j]? = some (a, v) → ∃ en : MapEntry, ents[j]? = some en ∧ RV g w S en.key (.c a) ∧ RV g w S en.val (.c v)) →
      (r = none ∧ (Instr.findAsking kt ku ents i).run P w = .ok none w ∧ ∀ cv, putM P kt kv cv es = some (es ++ [(kv, cv)])) ∨
      (∃ j a v en, r = some v ∧ es[j]? = some (a, v) ∧ ents[j]? = some en ∧ RV g w S en.key (.c a) ∧ RV g w S en.val (.c v) ∧ (Instr.findAsking kt ku ents i).run P w = .ok (some (i + j, en.val)) w ∧ aeq P 12 kt (.c kv) (.c a) = some true ∧ ∀ cv, putM P kt kv cv es = some (es.set j (kv, cv)))
  | [], ents, i, r, h, hl, he => by
    have : ents = [] := List.length_eq_zero_iff.1 hl
    subst this
    simp only [findE, Option.some.injEq] at h
    subst h
    exact .inl ⟨rfl, by simp [Instr.findAsking], fun cv => rfl⟩
  | (a, v) :: es, [], i, r, h, hl, he => by simp at hl
  | (a, v) :: es, en :: ents, i, r, h, hl, he => by
    obtain ⟨en', h1, h2, h3⟩ := he 0 a v rfl
    simp only [List.getElem?_cons_zero, Option.some.injEq] at h1
    subst h1
    simp only [findE] at h
    split at h
    · rename_i ha
      simp only [Option.some.injEq] at h
      subst h
      have hq : (Op.equal kt ku en.key).run P w = .ok true w := aeq_ok 12 kt _ _ true ha 10000 ku en.key (by decide) hk h2
      exact .inr ⟨0, a, v, en, rfl, rfl, rfl, h2, h3, by simp [Instr.findAsking, hq], ha, fun cv => by simp [putM, ha]⟩
    · rename_i ha
      have hq : (Op.equal kt ku en.key).run P w = .ok false w := aeq_ok 12 kt _ _ false ha 10000 ku en.key (by decide) hk h2
      rcases run_findAsking hk es ents (i + 1) r h (by simpa using hl) (fun j a' v' hj => he (j + 1) a' v' (by simpa using hj)) with ⟨k1, k2, k3⟩ | ⟨j, a', v', en', k1, k2, k3, k4, k5, k6, k7, k8⟩
      · exact .inl ⟨k1, by simp [Instr.findAsking, hq, k2], fun cv => by simp [putM, ha, k3]⟩
      · exact .inr ⟨j + 1, a', v', en', k1, by simpa using k2, by simpa using k3, k4, k5, by simp [Instr.findAsking, hq, k6]; omega, k7, fun cv => by simp [putM, ha, k8]⟩
    · cases h
theorem putM_find {P : Program} {kt : TypeId} {kv cv : CV} : ∀ {es es' : List (CV × CV)}, putM P kt kv cv es = some es' → ∃ r, findE P kt kv es = some r
  | [], _, _ => ⟨none, rfl⟩
  | (a, v) :: es, es', h => by
    simp only [putM] at h
    split at h
    · rename_i ha; exact ⟨some v, by simp [findE, ha]⟩
    · rename_i ha
      simp only [Option.map_eq_some_iff] at h
      obtain ⟨x, hx, _⟩ := h
      obtain ⟨r, hr⟩ := putM_find hx
      exact ⟨r, by simp [findE, ha, hr]⟩
    · cases h
theorem run_findKey {P : Program} {w : World} {kt e : TypeId} {n : Nat} (hu : P.underlying kt = some (.array n e)) (x : Value) (es : List MapEntry) : (Instr.findKey kt x es).run P w = (Instr.findAsking kt x es).run P w :=
  run_findKey_eq w (by rw [hu]) x es
/-- What a map holds. -/
theorem ents_ok (hO : Ok C S0 g w H) {m : AV} {mu : Value} {es : List (CV × CV)} (hm : RV g w (g.St S0) mu m) (h : entsOf H m = some es) : ∃ ents : Array MapEntry, ((mu = .map none ∧ ents = #[]) ∨ ∃ r clock, mu = .map (some r) ∧ w.heap[r]? = some (.map ents clock)) ∧ ents.size = es.length ∧
    ∀ (i : Nat) (k v : CV), es[i]? = some (k, v) → ∃ en : MapEntry, ents.toList[i]? = some en ∧ RV g w (g.St S0) en.key (.c k) ∧ RV g w (g.St S0) en.val (.c v) := by
  unfold entsOf at h
  split at h
  · simp only [Option.some.injEq] at h
    subst h
    exact ⟨#[], .inl ⟨RV_nilmap hm, rfl⟩, rfl, fun i k v hi => by simp at hi⟩
  · rename_i id
    split at h
    · rename_i es' hid
      simp only [Option.some.injEq] at h
      subst h
      have hG : g.G id = some (.mp es') := by rw [hO.heap]; exact hid
      obtain ⟨ents, clock, h1, h2, h3⟩ := hO.inv.blk id _ hG
      exact ⟨ents, .inr ⟨g.φ id, clock, (RV_mp hm).1, h1⟩, h2, fun i k v hi => by
        obtain ⟨en, e1, e2, e3⟩ := h3 i k v hi
        exact ⟨en, by simpa using e1, e2, e3⟩⟩
    · cases h
  · cases h
theorem alookup_ok (hO : Ok C S0 g w H) {t : TypeId} {m k v : AV} {ok : Bool} {mu ku : Value} {H' : Heap} (hm : RV g w (g.St S0) mu m) (hk : RV g w (g.St S0) ku k) (h : alookup C H t m k ok = some (v, H')) :
    RunsV C S0 g w H' v (Instr.lookup t mu ku ok) := by
  unfold alookup at h
  split at h
  · rename_i kt vt hu
    split at h
    · rename_i z hz
      obtain ⟨i, zv, hi, hzv, _, _, hzr⟩ := zero_ok hz
      unfold alookupK at h
      split at h
      · rename_i kv
        split at h
        · rename_i es hes
          split at h
          · rename_i hko
            obtain ⟨n, kk, ns, e, rfl, ku1, ke, kc, ki⟩ := keyOk_of hko
            obtain ⟨ents, hmu, hsz, hen⟩ := ents_ok hO hm hes
            obtain ⟨e1, l1⟩ := RV_arr hk
            have hck : ∀ em, (Instr.checkKey em 10000 kt ku).run C.P w = .ok () w := fun em => by rw [e1]; exact run_checkKey_ints em ku1 ke kc ki l1 9998
            have hrun : ∀ q, (Instr.findAsking kt ku ents.toList).run C.P w = .ok q w → ∀ u b, (match q with | some (_, x) => (x, true) | none => (zv, false)) = (u, b) →
                (Instr.lookup t mu ku ok).run C.P w = .ok (if ok then .tuple #[u, .bool b] else u) w := fun q hq u b hub => by
              have hz0 := run_zeroValue (w := w) hi hzv
              rcases hmu with ⟨rfl, rfl⟩ | ⟨r, clock, rfl, hr⟩
              · cases q with
                | none => simp only [Prod.mk.injEq] at hub; obtain ⟨rfl, rfl⟩ := hub; cases ok <;> simp [Instr.lookup, run_underlying hu, hck, run_findKey ku1, hq, hz0]
                | some x => simp [Instr.findAsking] at hq
              · cases q with
                | none => simp only [Prod.mk.injEq] at hub; obtain ⟨rfl, rfl⟩ := hub; cases ok <;> simp [Instr.lookup, run_underlying hu, MapKept.run_getObj_map hr, hck, run_findKey ku1, hq, hz0]
                | some x =>
                  obtain ⟨j, x⟩ := x
                  simp only [Prod.mk.injEq] at hub; obtain ⟨rfl, rfl⟩ := hub; cases ok <;> simp [Instr.lookup, run_underlying hu, MapKept.run_getObj_map hr, hck, run_findKey ku1, hq, hz0]
            unfold foundA at h
            have fin : ∀ (u : Value) (c : CV) (b : Bool), RV g w (g.St S0) u (.c c) → RV g w (g.St S0) (if ok then .tuple #[u, .bool b] else u) (if ok then .tup [.c c, .c (.bool b)] else .c c) := fun u c b hu => by
              cases ok with
              | false => exact hu
              | true => exact .tup [u, .bool b] _ (.cons _ _ _ _ hu (.cons _ _ _ _ (RV.ofC1 (.bool b) rfl) .nil))
            split at h
            · rename_i c hf
              simp only [Option.some.injEq, Prod.mk.injEq] at h
              obtain ⟨rfl, rfl⟩ := h
              rcases run_findAsking hk es ents.toList 0 _ hf (by simpa using hsz) hen with ⟨k1, _⟩ | ⟨j, a, v, en, k1, k2, k3, k4, k5, k6, _⟩
              · cases k1
              · simp only [Option.some.injEq] at k1
                subst k1
                exact RunsV.same hO (hrun _ k6 _ _ rfl) (fin _ _ _ k5)
            · rename_i hf
              simp only [Option.some.injEq, Prod.mk.injEq] at h
              obtain ⟨rfl, rfl⟩ := h
              rcases run_findAsking hk es ents.toList 0 _ hf (by simpa using hsz) hen with ⟨_, k2, _⟩ | ⟨j, a, v, en, k1, _⟩
              · exact RunsV.same hO (hrun _ k2 _ _ rfl) (fin _ _ _ (hzr _ _ _))
              · cases k1
            · cases h
          · cases h
        · cases h
      · cases h
    · cases h
  · cases h
theorem sameBits_ints (d : Nat) (k : IntKind) (ns : List Int) : Instr.sameBits (d + 1) (.agg (ns.map (Value.int k)).toArray) (.agg (ns.map (Value.int k)).toArray) = true := by
  simp only [Instr.sameBits, beq_self_eq_true, Bool.true_and, List.all_eq_true]
  intro x hx
  have : x.1 = x.2 ∧ ∃ z, x.1 = Value.int k z := by
    generalize hl : ns.map (Value.int k) = l at hx
    have hz : ∀ (l : List Value) (y : Value × Value), y ∈ l.zip l → y.1 = y.2 := by
      intro l
      induction l with
      | nil => intro y hy; simp at hy
      | cons a l ih =>
        intro y hy
        rw [List.zip_cons_cons, List.mem_cons] at hy
        rcases hy with rfl | h
        · rfl
        · exact ih y h
    refine ⟨hz l x hx, ?_⟩
    have := (List.of_mem_zip (show (x.1, x.2) ∈ l.zip l from hx)).1
    rw [← hl, List.mem_map] at this
    obtain ⟨z, _, hz⟩ := this
    exact ⟨z, hz.symm⟩
  obtain ⟨a, b⟩ := x
  obtain ⟨h1, z, h2⟩ := this
  simp only at h1 h2
  subst h1
  subst h2
  cases d <;> simp [Instr.sameBits]
theorem aeq_key {P : Program} {kt e : TypeId} {n : Nat} {k : IntKind} {ns : List Int} {a : CV} (hu : P.underlying kt = some (.array n e)) (he : P.underlying e = some (.int k)) (h : aeq P 12 kt (.c (.arr n k ns)) (.c a) = some true) : a = .arr n k ns := by
  unfold aeq at h
  rw [hu] at h
  cases a with
  | arr m k' b =>
    simp only [he] at h
    split at h
    · rename_i hc
      obtain ⟨_, rfl, _, rfl, _⟩ := hc
      simp only [Option.some.injEq, beq_iff_eq] at h
      rw [h]
    · cases h
  | _ => simp at h
theorem makeMap_ok (hO : Ok C S0 g w H) (t : TypeId) : RunsV C S0 g w (H ++ [.mp []]) (.mp H.length) (Instr.makeMap t none) := by
  obtain ⟨g', k1, k2, p1, p2, p3, p4⟩ := hO.alloc (Like.refl w) (.map #[] 0) (.mp []) 0 (by
    intro g' hg' k hnew q1 q2 q3 q4
    exact ⟨#[], 0, by rw [q1, hnew], rfl, fun i k v hi => by simp at hi⟩)
  refine ⟨.map (some w.heap.size), _, g', by simp [Instr.makeMap, newObj, Sem.run], k1, k2, .one _ _ ?_ rfl⟩
  rw [← p1]
  exact .mp _ (by rw [k1.heap]; simp [get])
theorem RV_toC {u : Value} {x : AV} {c : CV} {g1 : Gh} {w1 : World} {S : Nat → Nat → Prop} (hu : RV g w (g.St S0) u x) (hn : NT x) (h : RC w1 S u.cells.toList c) (ha : c.isAgg = x.isAgg) : RV g1 w1 S u (.c c) := by
  obtain ⟨h1, h2, h3⟩ := hu.cells hn
  cases hb : x.isAgg with
  | true =>
    obtain ⟨cs, rfl⟩ := h2 hb
    have := RV.agg (g := g1) (w := w1) (S := S) cs.toList (.c c) (.c _ _ h) (by show c.isAgg = true; rw [ha, hb])
    simpa using this
  | false =>
    rw [cells_one (h3 hb)] at h
    exact RV.ofC1 h (by rw [ha, hb])
theorem amapUpdate_ok (hO : Ok C S0 g w H) {t : TypeId} {m k x v : AV} {mu ku xu : Value} {H' : Heap} (hm : RV g w (g.St S0) mu m) (hk : RV g w (g.St S0) ku k) (hx : RV g w (g.St S0) xu x) (hnt : NT x) (h : amapUpdate C H t m k x = some (v, H')) :
    ∃ w' g', (Instr.mapUpdate t mu ku xu).run C.P w = .ok () w' ∧ Ok C S0 g' w' H' ∧ Step g w g' w' ∧ v = AV.undef := by
  unfold amapUpdate at h
  split at h
  · rename_i kt vt hu
    unfold amapUpdateK at h
    split at h
    · rename_i kv
      split at h
      · rename_i id
        split at h
        · rename_i cv H1 hc
          split at h
          · rename_i es hid
            split at h
            · rename_i hko
              obtain ⟨n, kk, ns, e, rfl, ku1, ke, kc, ki⟩ := keyOk_of hko
              obtain ⟨x1, x2, x3⟩ := hx.cells hnt
              obtain ⟨g1, a1, a2, a3, a4⟩ := toC_ok 4 H x cv H1 hc g w xu.cells.toList hO x1
              have hx' : RV g1 w (g1.St S0) xu (.c cv) := RV_toC hx hnt a3 a4
              have hm' := hm.step a2 (a2.stays S0)
              have hk' := hk.step a2 (a2.stays S0)
              have hG : g1.G id = some (.mp es) := by rw [a1.heap]; exact hid
              obtain ⟨ents, clock, b1, b2, b3⟩ := a1.inv.blk id _ hG
              obtain ⟨e1, l1⟩ := RV_arr hk'
              have hmu := (RV_mp hm').1
              have hck : (Instr.checkKey false 10000 kt ku).run C.P w = .ok () w := by rw [e1]; exact run_checkKey_ints false ku1 ke kc ki l1 9998
              have hlt : g1.φ id < w.heap.size := (Array.getElem?_eq_some_iff.1 b1).1
              unfold putA at h
              split at h
              · rename_i es' hput
                simp only [Option.some.injEq, Prod.mk.injEq] at h
                obtain ⟨rfl, rfl⟩ := h
                obtain ⟨r, hf⟩ := putM_find hput
                have fin : ∀ (ents' : Array MapEntry) (clock' : Nat), ents'.size = es'.length → (∀ (w' : World) (S' : Nat → Nat → Prop) (g' : Gh), Step g1 w g' w' → Stays w (g1.St S0) w' S' → ∀ (i : Nat) (k v : CV), es'[i]? = some (k, v) → ∃ en : MapEntry, ents'[i]? = some en ∧ RV g' w' S' en.key (.c k) ∧ RV g' w' S' en.val (.c v)) →
                    ∃ g', Ok C S0 g' { w with heap := w.heap.setIfInBounds (g1.φ id) (.map ents' clock') } (H1.set id (.mp es')) ∧ Step g w g' { w with heap := w.heap.setIfInBounds (g1.φ id) (.map ents' clock') } := fun ents' clock' c1 c2 => by
                  obtain ⟨d1, d2⟩ := a1.set (b := .mp es) (b' := .mp es') (w' := { w with heap := w.heap.setIfInBounds (g1.φ id) (.map ents' clock') }) hid (.inl (a1.real id _ hG rfl rfl)) rfl (fun n hn => by simp [Blk.len?] at hn) (fun n hn => by simp [Blk.sz?] at hn) (fun _ _ => rfl)
                    (.inr ⟨by simp, rfl, rfl, rfl, fun j hj => by simp [Array.getElem?_setIfInBounds, Ne.symm hj]⟩)
                    (fun k => ⟨ents', clock', by
                      show (w.heap.setIfInBounds (g1.φ id) (.map ents' clock'))[g1.φ id]? = _
                      simp [hlt], c1, c2 _ _ _ k (k.stays S0)⟩)
                  exact ⟨_, d1, a2.trans d2⟩
                have hen : ∀ (i : Nat) (k v : CV), es[i]? = some (k, v) → ∃ en : MapEntry, ents.toList[i]? = some en ∧ RV g1 w (g1.St S0) en.key (.c k) ∧ RV g1 w (g1.St S0) en.val (.c v) := fun i k v hi => by
                  obtain ⟨en, q1, q2⟩ := b3 i k v hi
                  exact ⟨en, by simpa using q1, q2⟩
                rcases run_findAsking hk' es ents.toList 0 _ hf (by simpa using b2) hen with ⟨rfl, k2, k3⟩ | ⟨j, a, v0, en, rfl, k2, k3, k4, k5, k6, k7, k8⟩
                · have := k3 cv
                  rw [hput] at this
                  simp only [Option.some.injEq] at this
                  subst this
                  obtain ⟨g', f1, f2⟩ := fin (ents.push { key := ku, val := xu, born := clock }) (clock + 1) (by simp [b2]) (fun w' S' g' ks kst i k v hi => by
                    by_cases hil : i < es.length
                    · rw [List.getElem?_append_left hil] at hi
                      obtain ⟨en, q1, q2, q3⟩ := b3 i k v hi
                      exact ⟨en, by rw [Array.getElem?_push_lt (by omega), ← Array.getElem?_eq_getElem (by omega)]; exact q1, q2.step ks kst, q3.step ks kst⟩
                    · have hie : i = es.length := by
                        have := (List.getElem?_eq_some_iff.1 hi).1
                        simp at this; omega
                      subst hie
                      simp only [List.getElem?_append_right (Nat.le_refl _), Nat.sub_self, List.getElem?_cons_zero, Option.some.injEq, Prod.mk.injEq] at hi
                      obtain ⟨rfl, rfl⟩ := hi
                      exact ⟨_, by rw [← b2, Array.getElem?_push_size], hk'.step ks kst, hx'.step ks kst⟩)
                  exact ⟨_, g', by rw [hmu]; simp [Instr.mapUpdate, run_underlying hu, MapKept.run_getObj_map b1, hck, run_findKey ku1, k2, MapKept.run_setObj_map _ b1], f1, f2, rfl⟩
                · have := k8 cv
                  rw [hput] at this
                  simp only [Option.some.injEq] at this
                  subst this
                  obtain rfl := aeq_key ku1 ke k7
                  have e2 := (RV_arr k4).1
                  have hsame : en.key = ku := by rw [e1, e2]
                  have hj : ents[j]? = some en := by simpa using k3
                  obtain ⟨g', f1, f2⟩ := fin (ents.modify j fun e => { e with key := ku, val := xu }) clock (by simp [b2]) (fun w' S' g' ks kst i k v hi => by
                    by_cases hij : j = i
                    · subst hij
                      have hlt2 : j < es.length := (List.getElem?_eq_some_iff.1 k2).1
                      rw [List.getElem?_set_self hlt2] at hi
                      simp only [Option.some.injEq, Prod.mk.injEq] at hi
                      obtain ⟨rfl, rfl⟩ := hi
                      exact ⟨{ en with key := ku, val := xu }, by simp [Array.getElem?_modify, hj], hk'.step ks kst, hx'.step ks kst⟩
                    · rw [List.getElem?_set_ne hij] at hi
                      obtain ⟨en, q1, q2, q3⟩ := b3 i k v hi
                      exact ⟨en, by simp [Array.getElem?_modify, hij, q1], q2.step ks kst, q3.step ks kst⟩)
                  have hst : (Instr.keyThatStays ku ku).run C.P w = .ok ku w := by
                    have : Instr.sameBits 10000 ku ku = true := by rw [e1]; exact sameBits_ints 9999 kk ns
                    simp [Instr.keyThatStays, this]
                  exact ⟨_, g', by rw [hmu]; simp [Instr.mapUpdate, run_underlying hu, MapKept.run_getObj_map b1, hck, run_findKey ku1, k6, hj, hsame, hst, MapKept.run_setObj_map _ b1], f1, f2, rfl⟩
              · cases h
            · cases h
          · cases h
        · cases h
      · cases h
    · cases h
  · cases h
end
end Go.Fm
/-
  One operation: what the interpreter says of it is so.
-/
set_option linter.unusedSimpArgs false
set_option linter.unusedVariables false
namespace Go.Fm
open Go
/-- What a function's call comes to. -/
def CallsV (C : Cfg) (S0 : Nat → Nat → Prop) (g : Gh) (w : World) (H' : Heap) (v : AV) (f : FuncId) (us : Array Value) : Prop :=
  Calls C.P f us w fun e w' => ∃ u g', e = .returned u ∧ Ok C S0 g' w' H' ∧ Step g w g' w' ∧ RV g' w' (g'.St S0) u v
/-- What has been let go stays as it is. -/
def Keeps (H H' : Heap) : Prop := H.length ≤ H'.length ∧ ∀ (id : Nat) (b : Blk), H[id]? = some b → b.ok = true → H'[id]? = some b
/-- What is known of the interpreter's calls. -/
structure CfOk (C : Cfg) (cf : CallFn) : Prop where
  keeps : ∀ f args H v H', cf f args H = some (v, H') → Keeps H H'
  fn : ∀ f args H r, cf f args H = some r → ∃ fn c, C.P.funcs[f]? = some fn ∧ fn.body = some c ∧ (fn.name == "runtime.NumGoroutine") = false
  run : ∀ f args H v H', cf f args H = some (v, H') → ∀ (S0 : Nat → Nat → Prop) (g : Gh) (w : World) (us : List Value), Ok C S0 g w H → RVs g w (g.St S0) us args → CallsV C S0 g w H' v f us.toArray
/-- What is to be shown of an operation. -/
def RunsN (C : Cfg) (S0 : Nat → Nat → Prop) (g : Gh) (w : World) (H' : Heap) (v : AV) (s : Sem Next) : Prop :=
  (∃ u w' g', (s.run C.P w = .ok (.value u) w' ∨ (s.run C.P w = .ok .skip w' ∧ u = undef)) ∧ Ok C S0 g' w' H' ∧ Step g w g' w' ∧ RV g' w' (g'.St S0) u v) ∨
  (∃ f us, s.run C.P w = .ok (.enter f us) w ∧ CallsV C S0 g w H' v f us)
section
variable {C : Cfg} {S0 : Nat → Nat → Prop} {g : Gh} {w : World} {H H' : Heap} {v : AV}
theorem RunsV.next {s : Sem Value} (h : RunsV C S0 g w H' v s) : RunsN C S0 g w H' v (do pure (.value (← s))) := by
  obtain ⟨u, w', g', h1, h2⟩ := h
  exact .inl ⟨u, w', g', .inl (by simp [h1]), h2⟩
theorem RunsN.val (hO : Ok C S0 g w H) {u : Value} (hu : RV g w (g.St S0) u v) : RunsN C S0 g w H v (Pure.pure (.value u)) := .inl ⟨u, w, g, .inl rfl, hO, Step.refl g w, hu⟩
theorem RunsN.congr {s s' : Sem Next} (he : s'.run C.P w = s.run C.P w) (h : RunsN C S0 g w H' v s) : RunsN C S0 g w H' v s' := by
  unfold RunsN at h ⊢
  rw [he]
  exact h
/-- The operands of an operation. -/
def REv (C : Cfg) (e : Env) (ρ : Operand → Value) (o : Oper) (g : Gh) (w : World) (S : Nat → Nat → Prop) : Prop :=
  ∀ x ∈ o.op.operands, ∀ t v, ev C e t x = some v → RV g w S (ρ x) v
theorem ev1_of {e : Env} {t : TypeId} {x : Operand} (h : ev1 C e t x = some v) : ev C e t x = some v ∧ NT v := by
  unfold ev1 at h
  split at h
  · simp at h
  · simp at h
  · rename_i hn hn'
    exact ⟨h, fun e' => hn' (e' ▸ h), fun l e' => hn l (e' ▸ h)⟩
theorem evs_of {e : Env} {ρ : Operand → Value} {S : Nat → Nat → Prop} : ∀ (xs : List Operand) (ts : List TypeId) (vs : List AV), (∀ x ∈ xs, ∀ t v, ev C e t x = some v → RV g w S (ρ x) v) → evs C e xs ts = some vs → RVs g w S (xs.map ρ) vs
  | [], _, vs, _, h => by simp only [evs, Option.some.injEq] at h; subst h; exact .nil
  | x :: xs, [], vs, _, h => by simp [evs] at h
  | x :: xs, t :: ts, vs, hr, h => by
    simp only [evs] at h
    cases h1 : ev C e t x with
    | none => simp [h1] at h
    | some v =>
      cases h2 : evs C e xs ts with
      | none => simp [h1, h2] at h
      | some us =>
        simp only [h1, h2, Option.some.injEq] at h
        subst h
        exact .cons _ _ _ _ (hr x (by simp) t v h1) (evs_of xs ts us (fun y hy => hr y (by simp [hy])) h2)
theorem evp_of {e : Env} {ρ : Operand → Value} {S : Nat → Nat → Prop} {t : TypeId} : ∀ (ps : List (Nat × Operand)) (vs : List (Nat × AV)), (∀ x ∈ ps.map (·.2), ∀ t v, ev C e t x = some v → RV g w S (ρ x) v) → evp C e t ps = some vs →
    RP g w S (ps.map fun (i, x) => (i, ρ x)) vs
  | [], vs, _, h => by simp only [evp, Option.some.injEq] at h; subst h; exact .nil
  | (i, x) :: ps, vs, hr, h => by
    simp only [evp] at h
    split at h
    · rename_i v us h1 h2
      simp only [Option.some.injEq] at h
      subst h
      obtain ⟨h3, h4⟩ := ev1_of h1
      exact .cons i _ _ _ _ (hr x (by simp) _ _ h3) h4 (evp_of ps us (fun y hy => hr y (by simp at hy ⊢; exact .inr hy)) h2)
    · simp at h
theorem callV_ok {cf : CallFn} (hcf : CfOk C cf) (hO : Ok C S0 g w H) {f : FuncId} {us vs : List Value} {args : List AV} {c : Call} {ρ : Operand → Value} {ty : TypeId} {fo : Operand} (hc : c.callee = .value fo) (hf : ρ fo = .func (.func f) #[] vs.toArray)
    (ha : (c.args.toList.map ρ) = us) (hr : RVs g w (g.St S0) (us ++ vs) args) (h : cf f args H = some (v, H')) : RunsN C S0 g w H' v (do let d ← resolve ρ c ty; invoke d.target d.args) := by
  obtain ⟨fn, code, h1, h2, h3⟩ := hcf.fn f args H _ h
  have hcall := hcf.run f args H v H' h S0 g w (us ++ vs) hO hr
  have hargs : c.args.map ρ = us.toArray := by apply Array.ext'; simp [← ha]
  refine .inr ⟨f, (us ++ vs).toArray, ?_, hcall⟩
  have h3' : ¬ fn.name = "runtime.NumGoroutine" := by simpa using h3
  have hprog : (program : Sem Program).run C.P w = .ok C.P w := rfl
  simp [resolve, hc, Deferred.ofValue, hf, invoke, callFunc, hargs, hprog, h1, h2, h3']
set_option maxHeartbeats 2000000 in
theorem astep_ok {cf : CallFn} (hcf : CfOk C cf) (hO : Ok C S0 g w H) {e : Env} {o : Oper} {ρ : Operand → Value} (hr : REv C e ρ o g w (g.St S0)) (h : astep C cf e H o = some (v, H')) :
    RunsN C S0 g w H' v (execOp ρ o) := by
  obtain ⟨dst, op, type, pos, after, guard⟩ := o
  unfold REv at hr
  simp only at hr
  unfold astep at h
  simp only at h
  cases op <;> (try simp only at h) <;> (try simp only [Op.operands, List.mem_toArray, Array.mem_def, List.mem_cons, List.not_mem_nil, or_false, forall_eq_or_imp, forall_eq] at hr) <;> (try simp only [execOp])
  case move x =>
    simp only [Option.map_eq_some_iff, Prod.mk.injEq] at h
    obtain ⟨_, h1, rfl, rfl⟩ := h
    exact RunsN.val hO (hr _ _ h1)
  case assign x =>
    simp only [Option.map_eq_some_iff, Prod.mk.injEq] at h
    obtain ⟨_, h1, rfl, rfl⟩ := h
    exact RunsN.val hO (hr _ _ h1)
  case pick c a b =>
    split at h
    · rename_i t hc
      split at h
      · rename_i x y hx hy
        simp only [Option.some.injEq, Prod.mk.injEq] at h
        obtain ⟨rfl, rfl⟩ := h
        have h1 := RV_bool (hr.1 _ _ hc)
        refine .inl ⟨if t then ρ a else ρ b, w, g, .inl ?_, hO, Step.refl g w, ?_⟩
        · have : (asBool (ρ c)).run C.P w = .ok t w := by rw [h1]; rfl
          simp [this]
        · cases t
          · exact hr.2.2 _ _ hy
          · exact hr.2.1 _ _ hx
      · simp at h
    · simp at h
  case alloc t =>
    simp only [Option.map_eq_some_iff, Prod.mk.injEq] at h
    obtain ⟨z, h1, rfl, rfl⟩ := h
    exact (alloc_ok hO h1 _).next
  case box t x =>
    split at h
    · rename_i a ha
      simp only [Option.some.injEq, Prod.mk.injEq] at h
      obtain ⟨rfl, rfl⟩ := h
      obtain ⟨h1, h2⟩ := ev1_of ha
      exact (box_ok hO (hr _ _ h1) h2).next
    · simp at h
  case build t parts =>
    split at h
    · rename_i ps hps
      simp only [Option.map_eq_some_iff, Prod.mk.injEq] at h
      obtain ⟨a, h1, rfl, rfl⟩ := h
      have hrp := evp_of (g := g) (w := w) (S := g.St S0) (ρ := ρ) parts.toList ps (by simpa using hr) hps
      exact (abuild_ok hO (us := parts.map fun (i, x) => (i, ρ x)) (by simpa using hrp) h1).next
    · simp at h
  case buildSlice t len parts =>
    split at h
    · rename_i ps hps
      have hrp := evp_of (g := g) (w := w) (S := g.St S0) (ρ := ρ) parts.toList ps (by simpa using hr) hps
      exact (abuildSlice_ok hO (us := parts.map fun (i, x) => (i, ρ x)) (by simpa using hrp) h).next
    · simp at h
  case load t a =>
    split at h
    · rename_i x hx
      simp only [Option.map_eq_some_iff, Prod.mk.injEq] at h
      obtain ⟨y, h1, rfl, rfl⟩ := h
      exact (aload_ok hO (hr _ _ hx) h1).next
    · simp at h
  case store t a x =>
    split at h
    · rename_i p y hp hy
      simp only [Option.map_eq_some_iff, Prod.mk.injEq] at h
      obtain ⟨d, h1, rfl, rfl⟩ := h
      obtain ⟨h2, h3⟩ := ev1_of hy
      obtain ⟨w', g', k1, k2, k3⟩ := astore_ok hO (hr.1 _ _ hp) (hr.2 _ _ h2) h3 h1
      exact .inl ⟨undef, w', g', .inr ⟨by simp [k1], rfl⟩, k2, k3, RV_undef⟩
    · simp at h
  case nilCheck x =>
    split at h <;> simp only [Option.some.injEq, Prod.mk.injEq, reduceCtorEq] at h <;> obtain ⟨rfl, rfl⟩ := h <;> rename_i hx <;> have h1 := hr _ _ hx
    · obtain ⟨b, o, cs, h2, _⟩ := RV_ptr h1
      rw [h2] at h1 ⊢
      exact RunsN.val hO h1
    · obtain ⟨h2, _⟩ := RV_ov h1
      rw [h2] at h1 ⊢
      exact RunsN.val hO h1
    · obtain ⟨ad, h2, _⟩ := RV_oe h1
      rw [h2] at h1 ⊢
      exact RunsN.val hO h1
    · obtain ⟨y, h2, _⟩ := RV_iface h1
      rw [h2] at h1 ⊢
      exact RunsN.val hO h1
    · have h2 := RV_cfn h1
      rw [h2] at h1 ⊢
      exact RunsN.val hO h1
    · obtain ⟨vs, h2, _⟩ := RV_fn h1
      rw [h2] at h1 ⊢
      exact RunsN.val hO h1
  case binOp op t x y ty =>
    split at h
    · rename_i a b ha hb
      simp only [Option.map_eq_some_iff, Prod.mk.injEq] at h
      obtain ⟨c, h1, rfl, rfl⟩ := h
      exact (abin_ok hO (hr.1 _ _ ha) (hr.2 _ _ hb) h1).next
    · simp at h
  case unOp op t x =>
    split at h
    · rename_i a ha
      simp only [Option.map_eq_some_iff, Prod.mk.injEq] at h
      obtain ⟨c, h1, rfl, rfl⟩ := h
      exact (aun_ok hO (hr _ _ ha) h1).next
    · simp at h
  case convert s d x =>
    split at h
    · rename_i a ha
      have hx := hr _ _ ha
      split at h
      · rename_i hsd
        subst hsd
        split at h
        · rename_i el hel
          split at h
          · rename_i id hu8
            split at h
            · rename_i u sz c cs hrow
              split at h
              · rename_i hsz
                simp only [Option.some.injEq, Prod.mk.injEq] at h
                obtain ⟨rfl, rfl⟩ := h
                exact (mark_ok hO hsz (elemOf_eq hel) hu8 hx hrow (by simp)).next
              · simp at h
            · simp at h
          · simp at h
        · simp only [Option.map_eq_some_iff, Prod.mk.injEq] at h
          obtain ⟨c, h1, rfl, rfl⟩ := h
          exact (aconvert_ok hO hx h1).next
      · split at h
        · rename_i el hs hd
          split at h
          · rename_i b hu8
            split at h
            · rename_i hc
              simp only [Option.some.injEq, Prod.mk.injEq] at h
              obtain ⟨rfl, rfl⟩ := h
              have := RV_str hx
              rw [this]
              exact (stringBytes_ok hO hs (elemOf_eq hd) hu8 hc.2).next
            · simp at h
          · simp at h
        · simp only [Option.map_eq_some_iff, Prod.mk.injEq] at h
          obtain ⟨c, h1, rfl, rfl⟩ := h
          exact (aconvert_ok hO hx h1).next
    · simp at h
  case makeSlice t l c =>
    split at h
    · rename_i k l' k' c' hl hc
      have h1 := RV_int (hr.1 _ _ hl)
      have h2 := RV_int (hr.2 _ _ hc)
      rw [h1, h2]
      exact (amakeSlice_ok hO h).next
    · simp at h
  case index t x i =>
    split at h
    · rename_i a b ha hb
      simp only [Option.map_eq_some_iff, Prod.mk.injEq] at h
      obtain ⟨c, h1, rfl, rfl⟩ := h
      exact (aindex_ok hO (hr.1 _ _ ha) (hr.2 _ _ hb) h1).next
    · simp at h
  case field t x f =>
    split at h
    · rename_i a ha
      simp only [Option.map_eq_some_iff, Prod.mk.injEq] at h
      obtain ⟨c, h1, rfl, rfl⟩ := h
      exact (afield_ok hO (hr _ _ ha) h1).next
    · simp at h
  case sliceToArrayPointer t x =>
    split at h
    · rename_i a ha
      exact (aarrayAt_ok hO (hr _ _ ha) h).next
    · simp at h
  case makeFunc fn first cap =>
    cases fn with
    | func f =>
      simp only at h
      split at h
      · rename_i hf hc
        simp only [Option.some.injEq, Prod.mk.injEq] at h
        obtain ⟨rfl, rfl⟩ := h
        have hf' : first = #[] := by apply Array.ext'; simpa using hf
        have hc' : cap = #[] := by
          apply Array.ext'
          cases hcl : cap.toList with
          | nil => rfl
          | cons x xs =>
            rw [hcl] at hc
            simp only [List.map_cons, evs] at hc
            split at hc <;> simp at hc
        subst hf'
        subst hc'
        exact .inl ⟨.func (.func f) #[] #[], w, g, .inl (by simp [Instr.makeFunc]), hO, Step.refl g w, RV.ofC1 (.fn f) rfl⟩
      · rename_i l hne hf hc
        simp only [Option.some.injEq, Prod.mk.injEq] at h
        obtain ⟨rfl, rfl⟩ := h
        have hf' : first = #[] := by apply Array.ext'; simpa using hf
        subst hf'
        have hrv := evs_of (g := g) (w := w) (S := g.St S0) (ρ := ρ) cap.toList _ l (by simpa using hr) hc
        exact .inl ⟨.func (.func f) #[] (cap.toList.map ρ).toArray, w, g, .inl (by
          have he : cap.map ρ = (cap.toList.map ρ).toArray := by apply Array.ext'; simp
          simp [Instr.makeFunc, he]), hO, Step.refl g w, .one _ _ (.fn f _ l hrv) rfl⟩
      · simp at h
    | _ => simp at h
  case makeInterface t x =>
    split at h
    · rename_i a ha
      split at h
      · rename_i hc
        split at h
        · rename_i c H1 hcv
          simp only [Option.some.injEq, Prod.mk.injEq] at h
          obtain ⟨rfl, rfl⟩ := h
          obtain ⟨h1, h2⟩ := ev1_of ha
          exact (makeInterface_ok hO (hr _ _ h1) h2 hc hcv).next
        · simp at h
      · simp at h
    · simp at h
  case slice t x lo hi mx =>
    cases mx with
    | some m => simp at h
    | none =>
      simp only at h
      split at h
      · rename_i a ha
        split at h
        · rename_i l hh hl hhi
          have hx := hr x (by simp) _ _ ha
          have hlo : RO g w (g.St S0) (lo.map ρ) l := by
            cases lo with
            | none => simp at hl; subst hl; trivial
            | some y =>
              simp only [Option.map_eq_some_iff] at hl
              obtain ⟨y', h1, rfl⟩ := hl
              exact hr y (by simp) _ _ h1
          have hho : RO g w (g.St S0) (hi.map ρ) hh := by
            cases hi with
            | none => simp at hhi; subst hhi; trivial
            | some y =>
              simp only [Option.map_eq_some_iff] at hhi
              obtain ⟨y', h1, rfl⟩ := hhi
              exact hr y (by simp) _ _ h1
          exact (aslice_ok hO hx hlo hho h).next
        · simp at h
      · simp at h
  case fieldAddr s x f =>
    split at h
    · rename_i a ha
      simp only [Option.map_eq_some_iff, Prod.mk.injEq] at h
      obtain ⟨c, h1, rfl, rfl⟩ := h
      exact (afieldAddr_ok hO (hr _ _ ha) h1).next
    · simp at h
  case indexAddr t x ix =>
    split at h
    · rename_i a b ha hb
      simp only [Option.map_eq_some_iff, Prod.mk.injEq] at h
      obtain ⟨c, h1, rfl, rfl⟩ := h
      exact (aindexAddr_ok hO (hr.1 _ _ ha) (hr.2 _ _ hb) h1).next
    · simp at h
  case extract t i =>
    split at h
    · rename_i l hl
      simp only [Option.map_eq_some_iff, Prod.mk.injEq] at h
      obtain ⟨c, h1, rfl, rfl⟩ := h
      exact (extract_ok hO (hr _ _ hl) h1).next
    · simp at h
  case call c =>
    split at h
    · rename_i b hcal
      split at h
      · rename_i args hargs
        have hrv := evs_of (g := g) (w := w) (S := g.St S0) (ρ := ρ) c.args.toList _ args (fun x hx => hr x (by simp [Call.operands, hcal, hx])) hargs
        have hmap : c.args.map ρ = (c.args.toList.map ρ).toArray := by apply Array.ext'; simp
        have hres : ∀ (s : Sem Value), RunsV C S0 g w H' v s → (∀ consts, builtin b c.argTypes type consts (c.args.map ρ) = (do pure (.value (← s)))) →
            RunsN C S0 g w H' v (do let d ← resolve ρ c type; invoke d.target d.args) := by
          intro s hs hb
          refine RunsN.congr ?_ hs.next
          simp [resolve, hcal, invoke, hb]
        split at h
        · rename_i x t hts
          simp only [Option.map_eq_some_iff, Prod.mk.injEq] at h
          obtain ⟨y, h1, rfl, rfl⟩ := h
          have hts' : c.argTypes = #[t] := by apply Array.ext'; simpa using hts
          cases hrv' : c.args.toList.map ρ with
          | nil => rw [hrv'] at hrv; cases hrv
          | cons xu us =>
            rw [hrv'] at hrv hmap
            cases hrv with
            | cons _ _ _ _ hx hs =>
              cases hs
              exact hres _ (alen_ok hO (ty := type) hx h1) (fun consts => by rw [hmap, hts']; rfl)
        · rename_i s x t tx hts
          have hts' : c.argTypes = #[t, tx] := by apply Array.ext'; simpa using hts
          cases hrv' : c.args.toList.map ρ with
          | nil => rw [hrv'] at hrv; cases hrv
          | cons su us =>
            rw [hrv'] at hrv hmap
            cases hrv with
            | cons _ _ _ _ hsu hs =>
              cases hs with
              | cons xu us' _ _ hxu hs =>
                cases hs
                exact hres _ (aappend_ok hO (ty := type) hsu hxu h) (fun consts => by rw [hmap, hts']; rfl)
        · simp only [Option.map_eq_some_iff, Prod.mk.injEq] at h
          obtain ⟨y, h1, rfl, rfl⟩ := h
          exact hres _ (amin_ok hO c.argTypes type hrv h1) (fun consts => by rw [hmap]; rfl)
        · simp only [Option.map_eq_some_iff, Prod.mk.injEq] at h
          obtain ⟨y, h1, rfl, rfl⟩ := h
          exact hres _ (amax_ok hO c.argTypes type hrv h1) (fun consts => by rw [hmap]; rfl)
        · simp at h
      · simp at h
    · rename_i f hcal
      have hops : ∀ x, x = f ∨ x ∈ c.args → ∀ t v, ev C e t x = some v → RV g w (g.St S0) (ρ x) v := fun x hx => hr x (by
        simp [Call.operands, hcal]
        exact hx)
      split at h
      · rename_i fn args hfn hargs
        have hrv := evs_of (g := g) (w := w) (S := g.St S0) (ρ := ρ) c.args.toList _ args (fun x hx => hops x (.inr (by simpa using hx))) hargs
        exact callV_ok hcf hO (vs := []) hcal (by simpa using RV_cfn (hops f (.inl rfl) _ _ hfn)) rfl (by simpa using hrv) h
      · rename_i fn cap args hfn hargs
        have hrv := evs_of (g := g) (w := w) (S := g.St S0) (ρ := ρ) c.args.toList _ args (fun x hx => hops x (.inr (by simpa using hx))) hargs
        obtain ⟨vs, h1, h2⟩ := RV_fn (hops f (.inl rfl) _ _ hfn)
        exact callV_ok hcf hO (vs := vs) hcal h1 rfl (hrv.append h2) h
      · simp at h
    · simp at h
  case makeMap t r =>
    cases r with
    | some r => simp at h
    | none =>
      simp only [Option.some.injEq, Prod.mk.injEq] at h
      obtain ⟨rfl, rfl⟩ := h
      exact (makeMap_ok hO t).next
  case lookup t x i ok =>
    split at h
    · rename_i m k hm hk
      exact (alookup_ok hO (hr.1 _ _ hm) (hr.2 _ _ hk) h).next
    · simp at h
  case mapUpdate t m k x =>
    split at h
    · rename_i m' k' x' hm hk hx
      obtain ⟨h2, h3⟩ := ev1_of hx
      obtain ⟨w', g', k1, k2, k3, rfl⟩ := amapUpdate_ok hO (hr.1 _ _ hm) (hr.2.1 _ _ hk) (hr.2.2 _ _ h2) h3 h
      exact .inl ⟨undef, w', g', .inr ⟨by simp [k1], rfl⟩, k2, k3, RV_undef⟩
    · simp at h
  all_goals simp at h
end
end Go.Fm
/-
  Frames: what a part of a heap does, the whole does.
-/
set_option linter.unusedSimpArgs false
set_option linter.unusedVariables false
namespace Go.Fm
open Go
mutual
/-- Do all numbers of blocks that a value names pass a test? -/
def AV.all (p : Nat → Bool) : AV → Bool
  | .c _ => true
  | .ov id _ _ => p id
  | .os id => p id
  | .oe id _ _ _ => p id
  | .mp id => p id
  | .agg l => AV.alls p l
  | .tup l => AV.alls p l
  | .fn _ l => AV.alls p l
  | .any => true
def AV.alls (p : Nat → Bool) : List AV → Bool
  | [] => true
  | v :: vs => v.all p && AV.alls p vs
end
def Blk.all (p : Nat → Bool) : Blk → Bool
  | .var _ v => v.all p
  | _ => true
def Blk.isDead : Blk → Bool
  | .dead => true
  | _ => false
/-- One table of blocks in another one. -/
structure Emb (g g' : Gh) (off : Nat) (p : Nat → Bool) : Prop where
  some : ∀ id, p id = true → (g.G id).isSome = true → (g'.G (id + off)).isSome = true ∧ g'.φ (id + off) = g.φ id
  len : ∀ id m, p id = true → (g.G id).isSome = true → (g'.G (id + off)).bind Blk.len? = .some m → (g.G id).bind Blk.len? = .some m ∧ g'.rowVal (id + off) m = g.rowVal id m
  sz : ∀ id m, p id = true → (g.G id).isSome = true → (g'.G (id + off)).bind Blk.sz? = .some m → (g.G id).bind Blk.sz? = .some m ∧ g'.β (id + off) = g.β id
section
variable {g g' : Gh} {w w' : World} {S S' : Nat → Nat → Prop} {off : Nat} {p : Nat → Bool}
theorem RA.emb (k : Emb g g' off p) (ks : Stays w S w' S') {cs : List Value} {a : AV} (h : RA g w S cs a) : a.all p = true → RA g' w' S' cs (a.shift off) :=
  RA.rec (motive_1 := fun cs a _ => a.all p = true → RA g' w' S' cs (a.shift off)) (motive_2 := fun cs a _ => AV.alls p a = true → RAF g' w' S' cs (AV.shifts off a))
    (motive_3 := fun v a _ => a.all p = true → RV g' w' S' v (a.shift off)) (motive_4 := fun v a _ => AV.alls p a = true → RVs g' w' S' v (AV.shifts off a))
    (fun cs v h _ => by simp only [AV.shift]; exact .c cs v (h.stays ks))
    (fun id path o hs hp => by
      simp only [AV.all] at hp
      obtain ⟨h1, h2⟩ := k.some id hp hs
      simp only [AV.shift]
      rw [← h2]
      exact .ov (id + off) path o h1)
    (fun id a n c hs h hp => by
      simp only [AV.all] at hp
      simp only [AV.shift]
      exact .os (id + off) a n c (k.some id hp hs).1 fun m hm => by
        obtain ⟨h1, h2⟩ := k.len id m hp hs hm
        rw [h2]; exact h m h1)
    (fun id i path o ad hs h hp => by
      simp only [AV.all] at hp
      simp only [AV.shift]
      obtain ⟨h3, h4⟩ := k.some id hp hs
      exact .oe (id + off) i path o ad h3 fun m hm => by
        obtain ⟨h1, h2⟩ := k.sz id m hp hs hm
        rw [h2, h4]; exact h m h1)
    (fun id hs hp => by
      simp only [AV.all] at hp
      obtain ⟨h1, h2⟩ := k.some id hp hs
      simp only [AV.shift]
      rw [← h2]
      exact .mp (id + off) h1)
    (fun f vs cap _ h hp => by simp only [AV.all] at hp; simp only [AV.shift]; exact .fn f vs _ (h hp))
    (fun cs l _ h hp => by simp only [AV.all] at hp; simp only [AV.shift]; exact .agg cs _ (h hp))
    (fun _ => by simp only [AV.shifts]; exact .nil)
    (fun c cs f fs _ _ h hs hp => by
      simp only [AV.alls, Bool.and_eq_true] at hp
      simp only [AV.shifts]
      exact .cons c cs _ _ (h hp.1) (hs hp.2))
    (fun v a _ ha h hp => .one v _ (h hp) (by cases a <;> simp_all [AV.shift, AV.isAgg]))
    (fun cs a _ ha h hp => .agg cs _ (h hp) (by cases a <;> simp_all [AV.shift, AV.isAgg]))
    (fun vs l _ h hp => by simp only [AV.all] at hp; simp only [AV.shift]; exact .tup vs _ (h hp))
    (fun v _ => by simp only [AV.shift]; exact .any v)
    (fun _ => by simp only [AV.shifts]; exact .nil)
    (fun v vs a as _ _ h hs hp => by
      simp only [AV.alls, Bool.and_eq_true] at hp
      simp only [AV.shifts]
      exact .cons v vs _ _ (h hp.1) (hs hp.2)) h
theorem RV.emb (k : Emb g g' off p) (ks : Stays w S w' S') {v : Value} {a : AV} (h : RV g w S v a) : a.all p = true → RV g' w' S' v (a.shift off) :=
  RV.rec (motive_1 := fun cs a _ => a.all p = true → RA g' w' S' cs (a.shift off)) (motive_2 := fun cs a _ => AV.alls p a = true → RAF g' w' S' cs (AV.shifts off a))
    (motive_3 := fun v a _ => a.all p = true → RV g' w' S' v (a.shift off)) (motive_4 := fun v a _ => AV.alls p a = true → RVs g' w' S' v (AV.shifts off a))
    (fun cs v h _ => by simp only [AV.shift]; exact .c cs v (h.stays ks))
    (fun id path o hs hp => by
      simp only [AV.all] at hp
      obtain ⟨h1, h2⟩ := k.some id hp hs
      simp only [AV.shift]
      rw [← h2]
      exact .ov (id + off) path o h1)
    (fun id a n c hs h hp => by
      simp only [AV.all] at hp
      simp only [AV.shift]
      exact .os (id + off) a n c (k.some id hp hs).1 fun m hm => by
        obtain ⟨h1, h2⟩ := k.len id m hp hs hm
        rw [h2]; exact h m h1)
    (fun id i path o ad hs h hp => by
      simp only [AV.all] at hp
      simp only [AV.shift]
      obtain ⟨h3, h4⟩ := k.some id hp hs
      exact .oe (id + off) i path o ad h3 fun m hm => by
        obtain ⟨h1, h2⟩ := k.sz id m hp hs hm
        rw [h2, h4]; exact h m h1)
    (fun id hs hp => by
      simp only [AV.all] at hp
      obtain ⟨h1, h2⟩ := k.some id hp hs
      simp only [AV.shift]
      rw [← h2]
      exact .mp (id + off) h1)
    (fun f vs cap _ h hp => by simp only [AV.all] at hp; simp only [AV.shift]; exact .fn f vs _ (h hp))
    (fun cs l _ h hp => by simp only [AV.all] at hp; simp only [AV.shift]; exact .agg cs _ (h hp))
    (fun _ => by simp only [AV.shifts]; exact .nil)
    (fun c cs f fs _ _ h hs hp => by
      simp only [AV.alls, Bool.and_eq_true] at hp
      simp only [AV.shifts]
      exact .cons c cs _ _ (h hp.1) (hs hp.2))
    (fun v a _ ha h hp => .one v _ (h hp) (by cases a <;> simp_all [AV.shift, AV.isAgg]))
    (fun cs a _ ha h hp => .agg cs _ (h hp) (by cases a <;> simp_all [AV.shift, AV.isAgg]))
    (fun vs l _ h hp => by simp only [AV.all] at hp; simp only [AV.shift]; exact .tup vs _ (h hp))
    (fun v _ => by simp only [AV.shift]; exact .any v)
    (fun _ => by simp only [AV.shifts]; exact .nil)
    (fun v vs a as _ _ h hs hp => by
      simp only [AV.alls, Bool.and_eq_true] at hp
      simp only [AV.shifts]
      exact .cons v vs _ _ (h hp.1) (hs hp.2)) h
end
mutual
theorem AV.shift_zero : ∀ a : AV, a.shift 0 = a
  | .c _ => by simp [AV.shift]
  | .ov .. => by simp [AV.shift]
  | .os _ => by simp [AV.shift]
  | .oe .. => by simp [AV.shift]
  | .mp _ => by simp [AV.shift]
  | .agg l => by simp [AV.shift, AV.shifts_zero l]
  | .tup l => by simp [AV.shift, AV.shifts_zero l]
  | .fn _ l => by simp [AV.shift, AV.shifts_zero l]
  | .any => by simp [AV.shift]
theorem AV.shifts_zero : ∀ l : List AV, AV.shifts 0 l = l
  | [] => rfl
  | v :: vs => by simp [AV.shifts, AV.shift_zero v, AV.shifts_zero vs]
end
end Go.Fm
/-
  Frames, second part: into a part of the heap, and back out of it.
-/
set_option linter.unusedSimpArgs false
set_option linter.unusedVariables false
namespace Go.Fm
open Go
/-- Is a block there, and not left out? -/
def live (kl : Nat → Bool) (F : Heap) (id : Nat) : Bool := decide (id < F.length) && !kl id
/-- A part of the blocks. -/
def Gh.inn (g : Gh) (kl : Nat → Bool) (F : Heap) : Gh := { g with vt := fun id => if live kl F id = true then g.vt id else true, G := get F }
def inS (S0 : Nat → Nat → Prop) (g : Gh) (kl : Nat → Bool) (F : Heap) (b o : Nat) : Prop :=
  S0 b o ∧ ∀ id blk, g.G id = some blk → blk.ok = false → g.vt id = false → live kl F id = false → g.φ id ≠ b
/-- A heap with blocks left out. -/
def Part (g : Gh) (kl : Nat → Bool) (F : Heap) : Prop := ∀ id b, F[id]? = some b → (kl id = true ∧ b.isDead = true) ∨ (kl id = false ∧ g.G id = some b)
theorem notdead {b : Blk} (h : b.ok = false) : b.isDead = false := by cases b <;> simp_all [Blk.ok, Blk.isDead]
theorem notdead_len {b : Blk} {m : Nat} (h : b.len? = some m) : b.isDead = false := by cases b <;> simp_all [Blk.len?, Blk.isDead]
theorem notdead_sz {b : Blk} {m : Nat} (h : b.sz? = some m) : b.isDead = false := by cases b <;> simp_all [Blk.sz?, Blk.isDead]
section
variable {C : Cfg} {S0 : Nat → Nat → Prop} {g : Gh} {w : World} {F : Heap} {kl : Nat → Bool}
theorem Part.live (h : Part g kl F) {id : Nat} (hl : live kl F id = true) : ∃ b, F[id]? = some b ∧ g.G id = some b ∧ kl id = false := by
  simp only [Fm.live, Bool.and_eq_true, decide_eq_true_eq, Bool.not_eq_true'] at hl
  obtain ⟨h1, h2⟩ := hl
  have hb : F[id]? = some F[id] := List.getElem?_eq_getElem h1
  rcases h id _ hb with ⟨h3, _⟩ | ⟨_, h3⟩
  · rw [h2] at h3; cases h3
  · exact ⟨_, hb, h3, h2⟩
theorem Part.of (h : Part g kl F) {id : Nat} {b : Blk} (hb : F[id]? = some b) (hd : b.isDead = false) : Fm.live kl F id = true := by
  have hlt : id < F.length := (List.getElem?_eq_some_iff.1 hb).1
  rcases h id b hb with ⟨_, h3⟩ | ⟨h3, _⟩
  · rw [hd] at h3; cases h3
  · simp [Fm.live, hlt, h3]
theorem inn_St (hp : Part g kl F) (b o : Nat) : (g.inn kl F).St (inS S0 g kl F) b o ↔ g.St S0 b o := by
  constructor
  · rintro ⟨⟨h0, h1⟩, h2⟩
    refine ⟨h0, fun id blk hG hok hvt => ?_⟩
    cases hl : live kl F id with
    | false => exact h1 id blk hG hok hvt hl
    | true =>
      obtain ⟨b', k1, k2, k3⟩ := hp.live hl
      rw [hG] at k2
      injection k2 with k2
      subst k2
      exact h2 id blk k1 hok (by simp [Gh.inn, hl, hvt])
  · rintro ⟨h0, h1⟩
    refine ⟨⟨h0, fun id blk hG hok hvt _ => h1 id blk hG hok hvt⟩, fun id blk hG hok hvt => ?_⟩
    have hl := hp.of hG (notdead hok)
    obtain ⟨b', k1, k2, k3⟩ := hp.live hl
    have : F[id]? = some blk := hG
    rw [this] at k1
    injection k1 with k1
    subst k1
    simp only [Gh.inn, hl, if_true] at hvt
    exact h1 id blk k2 hok hvt
theorem inn_stays (hp : Part g kl F) : Stays w (g.St S0) w ((g.inn kl F).St (inS S0 g kl F)) := fun b o v hc hs => ⟨hc, (inn_St hp b o).2 hs, fun h => h, fun h q => (inn_St hp b q).2 (h q)⟩
theorem inn_emb (hp : Part g kl F) : Emb g (g.inn kl F) 0 (fun id => decide (id < F.length)) where
  some := fun id hid _ => ⟨by simp [Gh.inn, get] at hid ⊢; exact hid, rfl⟩
  len := fun id m hid _ hm => by
    simp only [Nat.add_zero] at hm ⊢
    have hm' : (F[id]?).bind Blk.len? = some m := hm
    cases hb : F[id]? with
    | none => rw [hb] at hm'; simp at hm'
    | some b =>
      rw [hb] at hm'
      have hl := hp.of hb (notdead_len hm')
      obtain ⟨b', k1, k2, k3⟩ := hp.live hl
      rw [hb] at k1
      injection k1 with k1
      subst k1
      exact ⟨by rw [k2]; exact hm', by simp [Gh.rowVal, Gh.inn, hl]⟩
  sz := fun id m hid _ hm => by
    simp only [Nat.add_zero] at hm ⊢
    have hm' : (F[id]?).bind Blk.sz? = some m := hm
    cases hb : F[id]? with
    | none => rw [hb] at hm'; simp at hm'
    | some b =>
      rw [hb] at hm'
      have hl := hp.of hb (notdead_sz hm')
      obtain ⟨b', k1, k2, k3⟩ := hp.live hl
      rw [hb] at k1
      injection k1 with k1
      subst k1
      exact ⟨by rw [k2]; exact hm', rfl⟩
theorem RB.emb {g g' : Gh} {w w' : World} {S S' : Nat → Nat → Prop} {off id : Nat} {p : Nat → Bool} (k : Emb g g' off p) (ks : Stays w S w' S') (hh : ∀ j : Nat, w'.heap[j]? = w.heap[j]?) {b : Blk} (hb : b.all p = true)
    (h1 : g'.φ (id + off) = g.φ id) (h2 : g'.β (id + off) = g.β id) (h3 : g'.κ (id + off) = g.κ id) (h4 : g'.vt (id + off) = g.vt id) (h : RB g w S id b) : RB g' w' S' (id + off) (b.shift off) := by
  cases b with
  | var t v =>
    obtain ⟨cs, h6, h7⟩ := h
    exact ⟨cs, by rw [h1, hh]; exact h6, h7.emb k ks hb⟩
  | fvar t v =>
    obtain ⟨cs, h6, h7⟩ := h
    exact ⟨cs, by rw [h1]; exact h6.stays ks, h7.stays ks⟩
  | row t sz es =>
    rcases h with ⟨h6, h7, h8⟩ | ⟨h6, pre, cs, post, fr, h7, h8, h9, h10, h11, h12, h13⟩
    · exact .inl ⟨by rw [h4]; exact h6, h7, by rw [h3]; exact h8⟩
    · exact .inr ⟨by rw [h4]; exact h6, pre, cs, post, fr, by rw [h1, hh]; exact h7, h8, by rw [h2]; exact h9, by rw [h3]; exact h10, h11.stays ks, by rw [h3]; exact h12, by rw [h3]; exact h13⟩
  | frow t sz es =>
    rcases h with ⟨h6, h7⟩ | ⟨h6, cs, h7, h8, h9, h10⟩
    · exact .inl ⟨by rw [h4]; exact h6, h7⟩
    · exact .inr ⟨by rw [h4]; exact h6, cs, by rw [h1, h2]; exact h7.stays ks, h8.stays ks, by rw [h3]; exact h9, by rw [h3]; exact h10⟩
  | mp es =>
    obtain ⟨ents, clock, h6, h7, h8⟩ := h
    refine ⟨ents, clock, by rw [h1, hh]; exact h6, h7, fun i kk v hi => ?_⟩
    obtain ⟨en, k1, k2, k3⟩ := h8 i kk v hi
    refine ⟨en, k1, ?_, ?_⟩
    · have := k2.emb k ks rfl
      simpa [AV.shift] using this
    · have := k3.emb k ks rfl
      simpa [AV.shift] using this
  | dead => trivial
/-- Into a part of the heap. -/
theorem frameIn (hI : Inv S0 g w) (hR : g.real) (hgl : GlOK C w (g.St S0)) (hp : Part g kl F) (hwf : ∀ (id : Nat) (b : Blk), F[id]? = some b → b.all (fun id => decide (id < F.length)) = true) : Ok C (inS S0 g kl F) (g.inn kl F) w F where
  inv := {
    blk := fun id b hb => by
      have hb' : F[id]? = some b := hb
      cases hd : b.isDead with
      | true => cases b <;> simp [Blk.isDead] at hd; trivial
      | false =>
        have hl := hp.of hb' hd
        obtain ⟨b', k1, k2, k3⟩ := hp.live hl
        rw [hb'] at k1
        injection k1 with k1
        subst k1
        have := RB.emb (id := id) (inn_emb hp) (inn_stays (S0 := S0) (w := w) hp) (fun _ => rfl) (hwf id b hb') rfl rfl rfl (by simp [Gh.inn, hl]) (hI.blk id b k2)
        have e : b.shift 0 = b := by cases b <;> simp [Blk.shift, AV.shift_zero]
        rwa [e] at this
    lt := fun id b hb hv => by
      have hl : live kl F id = true := by
        cases hl : live kl F id with
        | true => rfl
        | false => simp [Gh.inn, hl] at hv
      obtain ⟨b', k1, k2, k3⟩ := hp.live hl
      simp only [Gh.inn, hl, if_true] at hv
      exact hI.lt id b' k2 hv
    inj := fun i bi j bj hi hj oi oj vi vj hij => by
      have li := hp.of hi (notdead oi)
      have lj := hp.of hj (notdead oj)
      obtain ⟨b1, k1, k2, _⟩ := hp.live li
      obtain ⟨b2, m1, m2, _⟩ := hp.live lj
      have hi' : F[i]? = some bi := hi
      have hj' : F[j]? = some bj := hj
      rw [hi'] at k1; injection k1 with k1; subst k1
      rw [hj'] at m1; injection m1 with m1; subst m1
      simp only [Gh.inn, li, lj, if_true] at vi vj
      exact hI.inj i bi j bj k2 m2 oi oj vi vj hij
    fresh := fun b o hb => ⟨hI.fresh b o hb, fun id blk hG hok hvt _ e => by
      have := hI.lt id blk hG hvt
      omega⟩
    s0 := fun id b hb hok hv o => by
      have hl := hp.of hb (notdead hok)
      obtain ⟨b', k1, k2, _⟩ := hp.live hl
      have hb' : F[id]? = some b := hb
      rw [hb'] at k1; injection k1 with k1; subst k1
      simp only [Gh.inn, hl, if_true] at hv
      refine ⟨hI.s0 id b k2 hok hv o, fun j blk hG ho hvj hlj e => ?_⟩
      have hne : j ≠ id := fun e => by rw [e, hl] at hlj; cases hlj
      exact hI.inj j blk id b hG k2 ho hok hvj hv hne e }
  real := fun id b hb hok hlen => by
    have hl := hp.of hb (notdead hok)
    obtain ⟨b', k1, k2, _⟩ := hp.live hl
    have hb' : F[id]? = some b := hb
    rw [hb'] at k1; injection k1 with k1; subst k1
    simp only [Gh.inn, hl, if_true]
    exact hR id b k2 hok hlen
  gl := hgl.stays (inn_stays hp)
  heap := rfl
theorem RV.inn (hp : Part g kl F) {u : Value} {v : AV} (h : RV g w (g.St S0) u v) (hv : v.all (fun id => decide (id < F.length)) = true) : RV (g.inn kl F) w ((g.inn kl F).St (inS S0 g kl F)) u v := by
  have := h.emb (inn_emb hp) (inn_stays (S0 := S0) (w := w) hp) hv
  rwa [AV.shift_zero] at this
/-- What a part's own blocks are, in the whole. -/
def own (kl : Nat → Bool) (F : Heap) (i : Nat) : Bool := decide (F.length ≤ i) || live kl F i
def taken (kl : Nat → Bool) (F F3 : Heap) (off id : Nat) : Bool := decide (off ≤ id) && decide (id - off < F3.length) && own kl F (id - off)
def Gh.out (g g3 : Gh) (kl : Nat → Bool) (F F3 : Heap) (off : Nat) : Gh where
  φ := fun id => if taken kl F F3 off id = true then g3.φ (id - off) else g.φ id
  β := fun id => if taken kl F F3 off id = true then g3.β (id - off) else g.β id
  κ := fun id => if taken kl F F3 off id = true then g3.κ (id - off) else g.κ id
  vt := fun id => if taken kl F F3 off id = true then g3.vt (id - off) else g.vt id
  G := fun id => if taken kl F F3 off id = true then (F3[id - off]?).map (Blk.shift off) else g.G id
theorem Blk.shift_ok (b : Blk) (off : Nat) : (b.shift off).ok = b.ok := by cases b <;> rfl
theorem Blk.shift_len (b : Blk) (off : Nat) : (b.shift off).len? = b.len? := by cases b <;> rfl
theorem Blk.shift_sz (b : Blk) (off : Nat) : (b.shift off).sz? = b.sz? := by cases b <;> rfl
/-- Out of a part of the heap. -/
theorem frameOut {off : Nat} {F3 : Heap} {g3 : Gh} {w3 : World} (hI : Inv S0 g w) (hR : g.real) (hp : Part g kl F) (hoff : off = 0 ∨ F = []) (hO3 : Ok C (inS S0 g kl F) g3 w3 F3) (hst : Step (g.inn kl F) w g3 w3)
    (hnew : ∀ i, F.length ≤ i → i < F3.length → g.G (i + off) = none) (hav : ∀ (i : Nat) (b : Blk), F3[i]? = some b → own kl F i = true → b.all (own kl F) = true) :
    Inv S0 (g.out g3 kl F F3 off) w3 ∧ (g.out g3 kl F F3 off).real ∧ GlOK C w3 ((g.out g3 kl F F3 off).St S0) ∧ Step g w (g.out g3 kl F F3 off) w3 ∧
      ∀ u v, RV g3 w3 (g3.St (inS S0 g kl F)) u v → v.all (own kl F) = true → RV (g.out g3 kl F F3 off) w3 ((g.out g3 kl F F3 off).St S0) u (v.shift off) := by
  have hG3 : ∀ i, g3.G i = F3[i]? := fun i => by rw [hO3.heap]; rfl
  have hle : F.length ≤ F3.length := by
    rcases Nat.eq_zero_or_pos F.length with h | h
    · omega
    · have h1 : (g.inn kl F).G (F.length - 1) = some (F[F.length - 1]'(by omega)) := List.getElem?_eq_getElem _
      obtain ⟨b', h2, _⟩ := hst.ids _ _ h1
      rw [hG3] at h2
      have := (List.getElem?_eq_some_iff.1 h2).1
      omega
  have t1 : ∀ id, taken kl F F3 off id = true → ∃ i, id = i + off ∧ i < F3.length ∧ own kl F i = true := fun id h => by
    simp only [taken, Bool.and_eq_true, decide_eq_true_eq] at h
    exact ⟨id - off, by omega, h.1.2, h.2⟩
  have t2 : ∀ i, i < F3.length → own kl F i = true → taken kl F F3 off (i + off) = true := fun i h1 h2 => by simp [taken, h1, h2]
  -- what is not taken was left out
  have u1 : ∀ id b, taken kl F F3 off id = false → g.G id = some b → live kl F id = false := fun id b ht hb => by
    cases hl : live kl F id with
    | false => rfl
    | true =>
      rcases hoff with rfl | rfl
      · obtain ⟨b', h1, _⟩ := hp.live hl
        have hlt := (List.getElem?_eq_some_iff.1 h1).1
        have := t2 id (by omega) (by simp [own, hl])
        rw [Nat.add_zero, ht] at this
        cases this
      · simp [live] at hl
  have gt : ∀ i, i < F3.length → own kl F i = true → (g.out g3 kl F F3 off).φ (i + off) = g3.φ i ∧ (g.out g3 kl F F3 off).β (i + off) = g3.β i ∧ (g.out g3 kl F F3 off).κ (i + off) = g3.κ i ∧ (g.out g3 kl F F3 off).vt (i + off) = g3.vt i ∧
      (g.out g3 kl F F3 off).G (i + off) = (g3.G i).map (Blk.shift off) := fun i h1 h2 => by simp [Gh.out, t2 i h1 h2, hG3]
  have gn : ∀ id, taken kl F F3 off id = false → (g.out g3 kl F F3 off).φ id = g.φ id ∧ (g.out g3 kl F F3 off).β id = g.β id ∧ (g.out g3 kl F F3 off).κ id = g.κ id ∧ (g.out g3 kl F F3 off).vt id = g.vt id ∧
      (g.out g3 kl F F3 off).G id = g.G id := fun id h => by simp [Gh.out, h]
  generalize hg4 : g.out g3 kl F F3 off = g4 at *
  have lt3 : ∀ i, (g3.G i).isSome = true → i < F3.length := fun i h => by
    rw [hG3] at h
    obtain ⟨b, hb⟩ := Option.isSome_iff_exists.1 h
    exact (List.getElem?_eq_some_iff.1 hb).1
  have hst34 : ∀ b o, g3.St (inS S0 g kl F) b o → g4.St S0 b o := by
    rintro b o ⟨⟨h0, h1⟩, h2⟩
    refine ⟨h0, fun id blk hG hok hvt => ?_⟩
    cases ht : taken kl F F3 off id with
    | true =>
      obtain ⟨i, rfl, hi, hown⟩ := t1 id ht
      obtain ⟨e1, e2, e3, e4, e5⟩ := gt i hi hown
      rw [e5, Option.map_eq_some_iff] at hG
      obtain ⟨b', hb', rfl⟩ := hG
      rw [e1]
      exact h2 i b' hb' (by rw [← Blk.shift_ok]; exact hok) (by rw [← e4]; exact hvt)
    | false =>
      obtain ⟨e1, e2, e3, e4, e5⟩ := gn id ht
      rw [e5] at hG
      rw [e1]
      exact h1 id blk hG hok (by rw [← e4]; exact hvt) (u1 id blk ht hG)
  have hstays : Stays w3 (g3.St (inS S0 g kl F)) w3 (g4.St S0) := fun b o v hc hs => ⟨hc, hst34 b o hs, fun h => h, fun h q => hst34 b q (h q)⟩
  have hemb : Emb g3 g4 off (own kl F) := {
    some := fun i hown hs => by
      obtain ⟨e1, e2, e3, e4, e5⟩ := gt i (lt3 i hs) hown
      exact ⟨by rw [e5]; simpa using hs, e1⟩
    len := fun i m hown hs hm => by
      obtain ⟨e1, e2, e3, e4, e5⟩ := gt i (lt3 i hs) hown
      rw [e5] at hm
      refine ⟨?_, by simp only [Gh.rowVal, e1, e2, e3, e4]⟩
      cases hb : g3.G i with
      | none => rw [hb] at hm; simp at hm
      | some b => rw [hb] at hm; simpa [Blk.shift_len] using hm
    sz := fun i m hown hs hm => by
      obtain ⟨e1, e2, e3, e4, e5⟩ := gt i (lt3 i hs) hown
      rw [e5] at hm
      refine ⟨?_, e2⟩
      cases hb : g3.G i with
      | none => rw [hb] at hm; simp at hm
      | some b => rw [hb] at hm; simpa [Blk.shift_sz] using hm }
  -- what was left out lies as it lay
  have keepF : ∀ id b, taken kl F F3 off id = false → g.G id = some b → b.ok = false → g.vt id = false → w3.heap[g.φ id]? = w.heap[g.φ id]? ∧ g3.free (g.φ id) := fun id b ht hb hok hv => by
    refine hst.keep _ (hI.lt id b hb hv) fun j blk hj hoj hvj => ?_
    have hl := hp.of hj (notdead hoj)
    obtain ⟨b', k1, k2, _⟩ := hp.live hl
    have hj' : F[j]? = some blk := hj
    rw [hj'] at k1; injection k1 with k1; subst k1
    simp only [Gh.inn, hl, if_true] at hvj
    have hne : j ≠ id := fun e => by rw [e, u1 id b ht hb] at hl; cases hl
    exact hI.inj j blk id b k2 hb hoj hok hvj hv hne
  have hfree34 : ∀ b, g.free b → g3.free b → g4.free b := fun b h1 h2 id blk hG hok hvt => by
    cases ht : taken kl F F3 off id with
    | true =>
      obtain ⟨i, rfl, hi, hown⟩ := t1 id ht
      obtain ⟨e1, e2, e3, e4, e5⟩ := gt i hi hown
      rw [e5, Option.map_eq_some_iff] at hG
      obtain ⟨b', hb', rfl⟩ := hG
      rw [e1]
      exact h2 i b' hb' (by rw [← Blk.shift_ok]; exact hok) (by rw [← e4]; exact hvt)
    | false =>
      obtain ⟨e1, e2, e3, e4, e5⟩ := gn id ht
      rw [e5] at hG
      rw [e1]
      exact h1 id blk hG hok (by rw [← e4]; exact hvt)
  have hstep : Step g w g4 w3 := {
    size := hst.size
    os := hst.os
    tape := hst.tape
    output := hst.output
    ids := fun id b hb => by
      cases ht : taken kl F F3 off id with
      | true =>
        obtain ⟨i, rfl, hi, hown⟩ := t1 id ht
        obtain ⟨e1, e2, e3, e4, e5⟩ := gt i hi hown
        have hlv : live kl F i = true := by
          simp only [own, Bool.or_eq_true, decide_eq_true_eq] at hown
          rcases hown with h | h
          · rw [hnew i h hi] at hb; cases hb
          · exact h
        have h0 : off = 0 := by
          rcases hoff with h | h
          · exact h
          · rw [h] at hlv; simp [live] at hlv
        subst h0
        simp only [Nat.add_zero] at *
        obtain ⟨bb, k1, k2, _⟩ := hp.live hlv
        rw [hb] at k2; injection k2 with k2; subst k2
        obtain ⟨b', m1, m2, m3, m4, m5, m6, m7⟩ := hst.ids i b k1
        refine ⟨b'.shift 0, by rw [e5, m1]; rfl, by rw [e1, m2]; rfl, by rw [e2, m3]; rfl, by rw [e3, m4]; rfl, by rw [e4, m5]; simp [Gh.inn, hlv], fun n hn => m6 n (by rw [← Blk.shift_len]; exact hn), fun n hn => m7 n (by rw [← Blk.shift_sz]; exact hn)⟩
      | false =>
        obtain ⟨e1, e2, e3, e4, e5⟩ := gn id ht
        exact ⟨b, by rw [e5]; exact hb, e1, e2, e3, e4, fun _ h => h, fun _ h => h⟩
    keep := fun b hb hf => by
      obtain ⟨h1, h2⟩ := hst.keep b hb (fun id blk hG hok hvt => by
        have hl := hp.of hG (notdead hok)
        obtain ⟨b', k1, k2, _⟩ := hp.live hl
        have hj' : F[id]? = some blk := hG
        rw [hj'] at k1; injection k1 with k1; subst k1
        simp only [Gh.inn, hl, if_true] at hvt
        exact hf id blk k2 hok hvt)
      exact ⟨h1, hfree34 b hf h2⟩ }
  refine ⟨⟨fun id b hb => ?_, fun id b hb hv => ?_, fun i bi j bj hi hj oi oj vi vj hij => ?_, fun b o hb => hI.fresh b o (Nat.le_trans hst.size hb), fun id b hb hok hv o => ?_⟩, fun id b hb hok hlen => ?_, hO3.gl.stays hstays, hstep,
    fun u v hv hall => hv.emb hemb hstays hall⟩
  · cases ht : taken kl F F3 off id with
    | true =>
      obtain ⟨i, rfl, hi, hown⟩ := t1 id ht
      obtain ⟨e1, e2, e3, e4, e5⟩ := gt i hi hown
      rw [e5, Option.map_eq_some_iff] at hb
      obtain ⟨b', hb', rfl⟩ := hb
      exact RB.emb hemb hstays (fun _ => rfl) (hav i b' (by rw [← hG3]; exact hb') hown) e1 e2 e3 e4 (hO3.inv.blk i b' hb')
    | false =>
      obtain ⟨e1, e2, e3, e4, e5⟩ := gn id ht
      rw [e5] at hb
      exact (hI.blk id b hb).step hstep (hstep.stays S0) hb (fun hok hv => (keepF id b ht hb hok hv).1) (fun hok hl => hR id b hb hok hl)
  · cases ht : taken kl F F3 off id with
    | true =>
      obtain ⟨i, rfl, hi, hown⟩ := t1 id ht
      obtain ⟨e1, e2, e3, e4, e5⟩ := gt i hi hown
      rw [e5, Option.map_eq_some_iff] at hb
      obtain ⟨b', hb', rfl⟩ := hb
      rw [e1]
      exact hO3.inv.lt i b' hb' (by rw [← e4]; exact hv)
    | false =>
      obtain ⟨e1, e2, e3, e4, e5⟩ := gn id ht
      rw [e5] at hb
      rw [e1]
      exact Nat.lt_of_lt_of_le (hI.lt id b hb (by rw [← e4]; exact hv)) hst.size
  · cases ti : taken kl F F3 off i with
    | true =>
      obtain ⟨i', rfl, hi', owni⟩ := t1 i ti
      obtain ⟨e1, e2, e3, e4, e5⟩ := gt i' hi' owni
      rw [e5, Option.map_eq_some_iff] at hi
      obtain ⟨b1, hb1, rfl⟩ := hi
      rw [Blk.shift_ok] at oi
      cases tj : taken kl F F3 off j with
      | true =>
        obtain ⟨j', rfl, hj', ownj⟩ := t1 j tj
        obtain ⟨d1, d2, d3, d4, d5⟩ := gt j' hj' ownj
        rw [d5, Option.map_eq_some_iff] at hj
        obtain ⟨b2, hb2, rfl⟩ := hj
        rw [Blk.shift_ok] at oj
        rw [e1, d1]
        exact hO3.inv.inj i' b1 j' b2 hb1 hb2 oi oj (by rw [← e4]; exact vi) (by rw [← d4]; exact vj) (fun e => hij (by rw [e]))
      | false =>
        obtain ⟨d1, d2, d3, d4, d5⟩ := gn j tj
        rw [d5] at hj
        rw [e1, d1]
        exact (keepF j bj tj hj oj (by rw [← d4]; exact vj)).2 i' b1 hb1 oi (by rw [← e4]; exact vi)
    | false =>
      obtain ⟨e1, e2, e3, e4, e5⟩ := gn i ti
      rw [e5] at hi
      cases tj : taken kl F F3 off j with
      | true =>
        obtain ⟨j', rfl, hj', ownj⟩ := t1 j tj
        obtain ⟨d1, d2, d3, d4, d5⟩ := gt j' hj' ownj
        rw [d5, Option.map_eq_some_iff] at hj
        obtain ⟨b2, hb2, rfl⟩ := hj
        rw [Blk.shift_ok] at oj
        rw [e1, d1]
        exact fun e => (keepF i bi ti hi oi (by rw [← e4]; exact vi)).2 j' b2 hb2 oj (by rw [← d4]; exact vj) e.symm
      | false =>
        obtain ⟨d1, d2, d3, d4, d5⟩ := gn j tj
        rw [d5] at hj
        rw [e1, d1]
        exact hI.inj i bi j bj hi hj oi oj (by rw [← e4]; exact vi) (by rw [← d4]; exact vj) hij
  · cases ht : taken kl F F3 off id with
    | true =>
      obtain ⟨i, rfl, hi, hown⟩ := t1 id ht
      obtain ⟨e1, e2, e3, e4, e5⟩ := gt i hi hown
      rw [e5, Option.map_eq_some_iff] at hb
      obtain ⟨b', hb', rfl⟩ := hb
      rw [Blk.shift_ok] at hok
      rw [e1]
      exact (hO3.inv.s0 i b' hb' hok (by rw [← e4]; exact hv) o).1
    | false =>
      obtain ⟨e1, e2, e3, e4, e5⟩ := gn id ht
      rw [e5] at hb
      rw [e1]
      exact hI.s0 id b hb hok (by rw [← e4]; exact hv) o
  · cases ht : taken kl F F3 off id with
    | true =>
      obtain ⟨i, rfl, hi, hown⟩ := t1 id ht
      obtain ⟨e1, e2, e3, e4, e5⟩ := gt i hi hown
      rw [e5, Option.map_eq_some_iff] at hb
      obtain ⟨b', hb', rfl⟩ := hb
      rw [Blk.shift_ok] at hok
      rw [Blk.shift_len] at hlen
      rw [e4]
      exact hO3.real i b' hb' hok hlen
    | false =>
      obtain ⟨e1, e2, e3, e4, e5⟩ := gn id ht
      rw [e5] at hb
      rw [e4]
      exact hR id b hb hok hlen
end
end Go.Fm
/-
  Code: regions, loops, calls. (Definitions.)
-/
set_option linter.unusedSimpArgs false
set_option linter.unusedVariables false
namespace Go.Fm
open Go
def execOps (C : Cfg) (cf : CallFn) (all : List Oper) : List Oper → Env → Heap → Option (Env × Heap)
  | [], e, H => some (e, H)
  | o :: r, e, H => match wantedA all e o with
    | some true => match astep C cf e H o with
      | some (v, H') => execOps C cf all r (putE e o.dst v) H'
      | none => none
    | some false => execOps C cf all r (putE e o.dst AV.undef) H
    | none => none
/-! ### A region whose order is drawn -/
/-- What an operation wrote: may it have written, what it reached, the numbers that it made. -/
abbrev Trail := Bool × List Nat × Nat × Nat
mutual
/-- The numbers that a value leads to. -/
def reachV : Nat → Heap → AV → List Nat
  | 0, _, _ => []
  | _ + 1, _, .c _ => []
  | d + 1, H, .ov id _ _ => id :: (match H[id]? with
    | some (.var _ v) => reachV d H v
    | _ => [])
  | _ + 1, _, .os id => [id]
  | _ + 1, _, .oe id _ _ _ => [id]
  | _ + 1, _, .mp id => [id]
  | d + 1, H, .agg l => reachVs d H l
  | d + 1, H, .tup l => reachVs d H l
  | d + 1, H, .fn _ l => reachVs d H l
  | _ + 1, _, .any => []
def reachVs : Nat → Heap → List AV → List Nat
  | 0, _, _ => []
  | _ + 1, _, [] => []
  | d + 1, H, v :: vs => reachV d H v ++ reachVs d H vs
end
def reachOp (e : Env) (H : Heap) (o : Oper) : List Nat := o.op.operands.toList.flatMap fun
  | .tmp i => match e[i]? with
    | some v => reachV 24 H v
    | none => []
  | _ => []
def killFrom (q : Nat → Bool) : Nat → Heap → Heap
  | _, [] => []
  | i, b :: r => (if q i = true then .dead else b) :: killFrom q (i + 1) r
def restFrom (q : Nat → Bool) : Nat → Heap → Heap → Heap
  | _, [], F => F
  | _, _ :: _, [] => []
  | i, b :: r, c :: F => (if q i = true then b else c) :: restFrom q (i + 1) r F
/-- Operations that leave the heap as it is. -/
def readOp (C : Cfg) (o : Oper) : Bool :=
  match o.op with
  | .move _ | .assign _ | .pick .. | .load .. | .nilCheck _ | .binOp .. | .unOp .. | .makeFunc .. | .index .. | .field .. | .fieldAddr .. | .indexAddr .. | .extract .. | .lookup .. => true
  | .convert s d _ => s == d || (elemOf C.P d).isNone
  | .call c => match c.callee with
    | .builtin .len | .builtin .min | .builtin .max => true
    | _ => false
  | _ => false
def blksAll (p : Nat → Bool) (own : Nat → Bool) : Nat → Heap → Bool
  | _, [] => true
  | i, b :: r => (!own i || b.all p) && blksAll p own (i + 1) r
def aliveAt (H : Heap) (id : Nat) : Bool := match H[id]? with
  | some b => !b.ok
  | none => false
def opBelow (e : Env) (o : Oper) (n : Nat) : Bool := o.op.operands.toList.all fun
  | .tmp i => match e[i]? with
    | some v => v.all fun id => decide (id < n)
    | none => true
  | _ => true
/-- A copy: it touches no memory. -/
def moved (o : Oper) : Option Operand := match o.op with
  | .move x => some x
  | .assign x => some x
  | _ => none
def drawStep (C : Cfg) (cf : CallFn) (all : List Oper) (e : Env) (H : Heap) (o : Oper) : Option (Env × Heap × Trail) :=
  match wantedA all e o with
  | none => none
  | some false => some (putE e o.dst AV.undef, H, (false, [], H.length, H.length))
  | some true => match moved o with
    | some x => match ev C e o.type x with
      | some v => some (putE e o.dst v, H, (false, [], H.length, H.length))
      | none => none
    | none =>
      let rs := reachOp e H o
      let q : Nat → Bool := fun id => !rs.contains id
      let F := killFrom q 0 H
      match astep C cf e F o with
      | none => none
      | some (v, F') =>
        if v.all (own q F) = true ∧ blksAll (own q F) (own q F) 0 F' = true ∧ rs.all (fun id => decide (id < H.length)) = true ∧ opBelow e o H.length = true ∧ blksAll (fun id => decide (id < H.length)) (fun _ => true) 0 F = true then
          some (putE e o.dst v, restFrom q 0 H F', (!readOp C o && rs.any (aliveAt H), rs, H.length, F'.length))
        else none
def ancOf (acc : List Nat) (o : Oper) : Nat := o.after.toList.foldl (fun m e => if Region.binds .any e = true then (m ||| (1 <<< e.on)) ||| acc.getD e.on 0 else m) 0
def ancsFrom : List Oper → List Nat → List Nat
  | [], acc => acc
  | o :: r, acc => ancsFrom r (acc ++ [ancOf acc o])
def orderAt (ops : Array Oper) (ancs : List Nat) (j : Nat) : Bool := match ops[j]? with
  | some oj => (oj.after.toList.all fun e => !Region.binds .any e || decide (e.on < j)) && (match oj.op with | .select .. => false | _ => true) && (List.range j).all fun k => match ops[k]? with
    | some ok => (ancs.getD j 0).testBit k || ok.apart ops oj
    | none => true
  | none => true
def orderOK (ops : Array Oper) (ancs : List Nat) : Bool := (List.range ops.size).all (orderAt ops ancs)
/-- Do an earlier and a later one get in each other's way? -/
def clash (a b : Option Trail) : Bool := match a, b with
  | some (w, rs, s, t), some (w', rs', _, _) => rs'.any fun id => (decide (s ≤ id) && decide (id < t)) || ((w || w') && rs.contains id)
  | _, _ => false
def clashFree (ancs : List Nat) (hist : List Trail) : Bool :=
  (List.range hist.length).all fun j => (List.range j).all fun k => (ancs.getD j 0).testBit k || !clash hist[k]? hist[j]?
def drawOps (C : Cfg) (cf : CallFn) (all : List Oper) : List Oper → List Trail → Env → Heap → Option (Env × Heap × List Trail)
  | [], hist, e, H => some (e, H, hist)
  | o :: r, hist, e, H => match drawStep C cf all e H o with
    | some (e', H', t) => drawOps C cf all r (hist ++ [t]) e' H'
    | none => none
/-- The blocks that are let go between two heaps. -/
def letGo : Heap → Heap → Nat → List (Bool × Nat)
  | b :: r, c :: r', id => match b, c with
    | .row .., .frow .. => (true, id) :: letGo r r' (id + 1)
    | .var .., .fvar .. => (false, id) :: letGo r r' (id + 1)
    | _, _ => letGo r r' (id + 1)
  | _, _, _ => []
def freezeAll : List (Bool × Nat) → Heap → Option Heap
  | [], H => some H
  | (b, id) :: r, H => match toC 8 H (if b = true then .os id else .ov id [] 0) with
    | some (_, H') => freezeAll r H'
    | none => none
def execDraw (C : Cfg) (cf : CallFn) (ops : Array Oper) (e : Env) (H : Heap) : Option (Env × Heap) :=
  match drawOps C cf ops.toList ops.toList [] e H with
  | some (e', H', hist) => if clashFree (ancsFrom ops.toList []) hist = true then some (e', H') else
    match freezeAll (letGo H H' 0) H with
    | some H0 => match drawOps C cf ops.toList ops.toList [] e H0 with
      | some (e', H', hist) => if clashFree (ancsFrom ops.toList []) hist = true then some (e', H') else none
      | none => none
    | none => none
  | none => none
/-- The static part of the check of all regions whose order is drawn. -/
def ordered : Code → Bool
  | .region _ ops true => orderOK ops (ancsFrom ops.toList [])
  | .seq a b => ordered a && ordered b
  | .cond _ a b => ordered a && ordered b
  | .block _ a => ordered a
  | .loop a => ordered a
  | _ => true
abbrev Ex := Option (AExit × Env × Heap)
def loopN (f : Env → Heap → Ex) : Nat → Env → Heap → Ex
  | 0, _, _ => none
  | n + 1, e, H => match f e H with
    | some (.normal, e', H') => loopN f n e' H'
    | r => r
def execC (C : Cfg) (cf : CallFn) (n : Nat) : Code → Env → Heap → Ex
  | .skip, e, H => some (.normal, e, H)
  | .region _ ops false, e, H => match execOps C cf ops.toList ops.toList e H with
    | some (e', H') => some (.normal, e', H')
    | none => none
  | .region _ ops true, e, H => match execDraw C cf ops e H with
    | some (e', H') => some (.normal, e', H')
    | none => none
  | .seq a b, e, H => match execC C cf n a e H with
    | some (.normal, e', H') => execC C cf n b e' H'
    | r => r
  | .cond c a b, e, H => match ev C e 4 c with
    | some (.c (.bool t)) => if t then execC C cf n a e H else execC C cf n b e H
    | _ => none
  | .block id body, e, H => match execC C cf n body e H with
    | some (.exit id', e', H') => if id' = id then some (.normal, e', H') else some (.exit id', e', H')
    | r => r
  | .loop body, e, H => loopN (execC C cf n body) n e H
  | .exit id, e, H => some (.exit id, e, H)
  | .ret, e, H => some (.ret, e, H)
  | _, _, _ => none
/-- A function's body on a heap. -/
def runF (C : Cfg) (cf : CallFn) (n : Nat) (f : FuncId) (args : List AV) (H : Heap) : Option (AV × Heap) :=
  match C.P.funcs[f]? with
  | some fn => match fn.body with
    | some code => if (fn.name == "runtime.NumGoroutine") = false ∧ ordered code = true then
      match execC C cf n code (args ++ List.replicate (fn.ntmps - args.length) AV.undef) H with
      | some (.exit _, _, _) => none
      | some (_, e, H') => match resultsOf C e H' fn.results.toList with
        | some vs => match handCs C (C.keepR f) H' vs with
          | some (vs', H'') => some (tupOf vs', H'')
          | none => none
        | none => none
      | none => none else none
    | none => none
  | none => none
def callF (C : Cfg) : Nat → CallFn
  | 0, _, _, _ => none
  | n + 1, f, args, H => match handCs C (C.keepA f) H args with
    | some (as, H0) => match C.prim f with
      | some p => p as H0
      | none => if as.all AV.isC = true then
          match runF C (callF C n) n f as [] with
          | some (r, Hl) => if resC r = true then some (r, H0) else some (r.shift H0.length, H0 ++ Hl.map (Blk.shift H0.length))
          | none => none
        else runF C (callF C n) n f as H0
    | none => none
end Go.Fm
/-
  A region whose order is drawn: every order comes to what the text's order comes to.
-/
set_option linter.unusedSimpArgs false
set_option linter.unusedVariables false
namespace Go.Fm
open Go
theorem killFrom_len (q : Nat → Bool) : ∀ (i : Nat) (H : Heap), (killFrom q i H).length = H.length
  | _, [] => rfl
  | i, b :: r => by simp [killFrom, killFrom_len q (i + 1) r]
theorem killFrom_get (q : Nat → Bool) : ∀ (i : Nat) (H : Heap) (j : Nat), (killFrom q i H)[j]? = if q (i + j) = true then (H[j]?).map (fun _ => Blk.dead) else H[j]?
  | i, [], j => by simp [killFrom]
  | i, b :: r, 0 => by simp [killFrom]; split <;> rfl
  | i, b :: r, j + 1 => by
    simp only [killFrom, List.getElem?_cons_succ]
    rw [killFrom_get q (i + 1) r j, show i + 1 + j = i + (j + 1) by omega]
theorem restFrom_get (q : Nat → Bool) : ∀ (i : Nat) (H F : Heap) (j : Nat), H.length ≤ F.length → (restFrom q i H F)[j]? = if j < H.length ∧ q (i + j) = true then H[j]? else F[j]?
  | i, [], F, j, h => by simp [restFrom]
  | i, b :: r, [], j, h => by simp at h
  | i, b :: r, c :: F, 0, h => by simp [restFrom]; split <;> rfl
  | i, b :: r, c :: F, j + 1, h => by
    simp only [restFrom, List.getElem?_cons_succ]
    rw [restFrom_get q (i + 1) r F j (by simpa using h), show i + 1 + j = i + (j + 1) by omega]
    simp
theorem restFrom_len (q : Nat → Bool) : ∀ (i : Nat) (H F : Heap), H.length ≤ F.length → (restFrom q i H F).length = F.length
  | i, [], F, h => by simp [restFrom]
  | i, b :: r, [], h => by simp at h
  | i, b :: r, c :: F, h => by simp [restFrom, restFrom_len q (i + 1) r F (by simpa using h)]
theorem blksAll_get (p own : Nat → Bool) : ∀ (i : Nat) (F : Heap) (j : Nat) (b : Blk), blksAll p own i F = true → F[j]? = some b → own (i + j) = true → b.all p = true
  | i, [], j, b, h, hb, ho => by simp at hb
  | i, c :: r, 0, b, h, hb, ho => by
    simp at hb
    subst hb
    simp only [blksAll, Bool.and_eq_true, Bool.or_eq_true, Bool.not_eq_true'] at h
    rcases h.1 with h1 | h1
    · rw [Nat.add_zero] at ho; rw [ho] at h1; cases h1
    · exact h1
  | i, c :: r, j + 1, b, h, hb, ho => by
    simp only [blksAll, Bool.and_eq_true] at h
    exact blksAll_get p own (i + 1) r j b h.2 (by simpa using hb) (by rw [show i + 1 + j = i + (j + 1) by omega]; exact ho)
theorem readOp_same {C : Cfg} {cf : CallFn} {e : Env} {H H' : Heap} {o : Oper} {v : AV} (hr : readOp C o = true) (h : astep C cf e H o = some (v, H')) : H' = H := by
  obtain ⟨dst, op, type, pos, after, guard⟩ := o
  unfold astep at h
  cases op <;> simp only [readOp, reduceCtorEq, Bool.false_eq_true] at hr <;> (try simp only at h)
  case makeFunc fn first cap =>
    cases fn with
    | func f =>
      simp only at h
      split at h <;> simp_all
    | _ => simp at h
  case lookup t x i ok =>
    split at h
    · unfold alookup at h
      split at h
      · split at h
        · unfold alookupK at h
          split at h
          · split at h
            · split at h
              · unfold foundA at h
                split at h
                · simp only [Option.some.injEq, Prod.mk.injEq] at h; exact h.2.symm
                · simp only [Option.some.injEq, Prod.mk.injEq] at h; exact h.2.symm
                · cases h
              · cases h
            · cases h
          · cases h
        · cases h
      · cases h
    · cases h
  case convert s d x =>
    split at h
    · split at h
      · split at h
        · split at h
          · split at h <;> simp_all
          · simp at h
        · simp only [Option.map_eq_some_iff, Prod.mk.injEq] at h
          obtain ⟨_, _, _, h⟩ := h
          exact h.symm
      · rename_i hne
        have : (elemOf C.P d) = none := by simpa [hne] using hr
        split at h
        · rename_i h1 h2
          rw [this] at h2
          cases h2
        · simp only [Option.map_eq_some_iff, Prod.mk.injEq] at h
          obtain ⟨_, _, _, h⟩ := h
          exact h.symm
    · simp at h
  case call c =>
    split at hr <;> simp only [Bool.false_eq_true] at hr <;> rename_i hc <;> rw [hc] at h <;> simp only at h <;> split at h <;> first
      | (simp at h; done)
      | (simp only [Option.map_eq_some_iff, Prod.mk.injEq] at h; obtain ⟨_, _, _, h⟩ := h; exact h.symm)
      | (split at h <;> first
          | (simp at h; done)
          | (simp only [Option.map_eq_some_iff, Prod.mk.injEq] at h; obtain ⟨_, _, _, h⟩ := h; exact h.symm)
          | (simp_all; done))
  all_goals
    first
    | (simp only [Option.map_eq_some_iff, Prod.mk.injEq] at h; obtain ⟨_, _, _, h⟩ := h; exact h.symm)
    | (split at h <;> first
        | (simp only [Option.map_eq_some_iff, Prod.mk.injEq] at h; obtain ⟨_, _, _, h⟩ := h; exact h.symm)
        | (simp only [Option.some.injEq, Prod.mk.injEq] at h; exact h.2.symm)
        | (split at h <;> first
            | (simp only [Option.some.injEq, Prod.mk.injEq] at h; exact h.2.symm)
            | (simp at h; done))
        | (simp at h; done))
/-! ### What stands ahead -/
theorem ancOf_bit {acc : List Nat} {k : Nat} : ∀ (es : List Edge) (m : Nat), (es.foldl (fun m e => if Region.binds .any e = true then (m ||| (1 <<< e.on)) ||| acc.getD e.on 0 else m) m).testBit k = true →
    m.testBit k = true ∨ ∃ e ∈ es, Region.binds .any e = true ∧ (e.on = k ∨ (acc.getD e.on 0).testBit k = true)
  | [], m, h => .inl h
  | e :: es, m, h => by
    simp only [List.foldl_cons] at h
    rcases ancOf_bit es _ h with h1 | ⟨e', h1, h2⟩
    · split at h1
      · rename_i hb
        simp only [Nat.testBit_or, Bool.or_eq_true] at h1
        rcases h1 with (h1 | h1) | h1
        · exact .inl h1
        · refine .inr ⟨e, by simp, hb, .inl ?_⟩
          rw [Nat.testBit_shiftLeft, Bool.and_eq_true] at h1
          obtain ⟨h1, h2⟩ := h1
          have h3 : k - e.on = 0 := by
            rcases Nat.eq_zero_or_pos (k - e.on) with h | h
            · exact h
            · rw [Nat.testBit_one_eq_true_iff_self_eq_zero] at h2
              exact h2
          have : k ≥ e.on := by simpa using h1
          omega
        · exact .inr ⟨e, by simp, hb, .inr h1⟩
      · exact .inl h1
    · exact .inr ⟨e', by simp [h1], h2⟩
theorem ancsFrom_spec : ∀ (r : List Oper) (acc : List Nat), (ancsFrom r acc).length = acc.length + r.length ∧ (∀ j, j < acc.length → (ancsFrom r acc).getD j 0 = acc.getD j 0) ∧
    ∀ j o, r[j]? = some o → ∃ acc', (ancsFrom r acc).getD (acc.length + j) 0 = ancOf acc' o ∧ acc'.length = acc.length + j ∧ ∀ i, i < acc.length + j → acc'.getD i 0 = (ancsFrom r acc).getD i 0
  | [], acc => by simp [ancsFrom]
  | o :: r, acc => by
    obtain ⟨h1, h2, h3⟩ := ancsFrom_spec r (acc ++ [ancOf acc o])
    simp only [ancsFrom]
    refine ⟨by simp [h1]; omega, fun j hj => ?_, fun j o' hj => ?_⟩
    · rw [h2 j (by simp; omega)]
      simp [List.getD_eq_getElem?_getD, List.getElem?_append_left hj]
    · cases j with
      | zero =>
        simp at hj
        subst hj
        refine ⟨acc, ?_, by simp, fun i hi => ?_⟩
        · rw [Nat.add_zero, h2 acc.length (by simp)]
          simp [List.getD_eq_getElem?_getD]
        · rw [h2 i (by simp; omega)]
          simp [List.getD_eq_getElem?_getD, List.getElem?_append_left (show i < acc.length by omega)]
      | succ j =>
        obtain ⟨acc', k1, k2, k3⟩ := h3 j o' (by simpa using hj)
        have e : (acc ++ [ancOf acc o]).length + j = acc.length + (j + 1) := by simp; omega
        rw [e] at k1 k2 k3
        exact ⟨acc', k1, k2, k3⟩
theorem anc_closed {ops : Array Oper} {L : Nat → Prop} (hcl : ∀ (j : Nat) (o : Oper), ops[j]? = some o → L j → ∀ e ∈ o.after, Region.binds .any e = true → L e.on) (hlt : ∀ (j : Nat) (o : Oper), ops[j]? = some o → ∀ e ∈ o.after, Region.binds .any e = true → e.on < j) :
    ∀ (n j k : Nat) (o : Oper), j < n → ops[j]? = some o → (∀ e ∈ o.after, Region.binds .any e = true → L e.on) → ((ancsFrom ops.toList []).getD j 0).testBit k = true → L k := by
  intro n
  induction n with
  | zero => intro j k o h; omega
  | succ n ih =>
    intro j k o hj ho hL hb
    obtain ⟨h1, h2, h3⟩ := ancsFrom_spec ops.toList []
    obtain ⟨acc', k1, k2, k3⟩ := h3 j o (by simpa using ho)
    simp only [List.length_nil, Nat.zero_add] at k1 k2 k3
    rw [k1] at hb
    rcases ancOf_bit _ _ hb with hb | ⟨e, he, hbi, hk⟩
    · simp at hb
    · have he' : e ∈ o.after := by simpa using he
      have hLe := hL e he' hbi
      rcases hk with rfl | hk
      · exact hLe
      · have helt := hlt j o ho e he' hbi
        rw [k3 e.on helt] at hk
        have hex : ∃ oe, ops[e.on]? = some oe := by
          have : j < ops.size := (Array.getElem?_eq_some_iff.1 ho).1
          exact ⟨ops[e.on]'(by omega), Array.getElem?_eq_getElem _⟩
        obtain ⟨oe, hoe⟩ := hex
        exact ih e.on k oe (by omega) hoe (hcl e.on oe hoe hLe) hk
end Go.Fm
/-
  What has been let go is never touched again.
-/
set_option linter.unusedSimpArgs false
set_option linter.unusedVariables false
namespace Go.Fm
open Go
theorem Keeps.refl (H : Heap) : Keeps H H := ⟨Nat.le_refl _, fun _ _ h _ => h⟩
theorem Keeps.trans {H H' H'' : Heap} (h : Keeps H H') (k : Keeps H' H'') : Keeps H H'' := ⟨Nat.le_trans h.1 k.1, fun id b hb ho => k.2 id b (h.2 id b hb ho) ho⟩
theorem Keeps.append (H X : Heap) : Keeps H (H ++ X) := ⟨by simp, fun id b hb _ => by
  have hlt := (List.getElem?_eq_some_iff.1 hb).1
  rw [List.getElem?_append_left hlt]; exact hb⟩
theorem Keeps.set {H : Heap} {id : Nat} {b x : Blk} (hb : H[id]? = some b) (ho : b.ok = false) : Keeps H (H.set id x) := ⟨by simp, fun j c hc hok => by
  by_cases hj : j = id
  · subst hj
    rw [hb] at hc
    injection hc with hc
    subst hc
    rw [ho] at hok
    cases hok
  · rw [List.getElem?_set_ne (Ne.symm hj)]; exact hc⟩
theorem Keeps.move {H : Heap} {id : Nat} {b x : Blk} (X : Heap) (hb : H[id]? = some b) (ho : b.ok = false) : Keeps H (H.set id x ++ X) := (Keeps.set hb ho).trans (Keeps.append _ _)
theorem toC_keeps : ∀ (d : Nat) (H : Heap) (v : AV) (c : CV) (H' : Heap), toC d H v = some (c, H') → Keeps H H' := by
  intro d
  induction d with
  | zero => intro H v c H' h; simp [toC] at h
  | succ d ih =>
    have ihs : ∀ (l : List AV) (H : Heap) (vs : List CV) (H' : Heap), toCsW (toC d) H l = some (vs, H') → Keeps H H' := by
      intro l
      induction l with
      | nil =>
        intro H vs H' h
        simp only [toCsW, Option.some.injEq, Prod.mk.injEq] at h
        rw [h.2]
        exact .refl _
      | cons v l ihl =>
        intro H vs H' h
        simp only [toCsW] at h
        split at h
        · rename_i c H1 h1
          split at h
          · rename_i cs' H2 h2
            simp only [Option.some.injEq, Prod.mk.injEq] at h
            rw [← h.2]
            exact (ih H v c H1 h1).trans (ihl H1 cs' H2 h2)
          · simp at h
        · simp at h
    intro H v c H' h
    cases v with
    | c v => simp only [toC, Option.some.injEq, Prod.mk.injEq] at h; rw [h.2]; exact .refl _
    | os id =>
      simp only [toC] at h
      split at h
      · rename_i t sz es hb
        simp only [Option.some.injEq, Prod.mk.injEq] at h
        rw [← h.2]
        exact .set hb rfl
      · simp only [Option.some.injEq, Prod.mk.injEq] at h; rw [h.2]; exact .refl _
      · simp at h
    | ov id p off =>
      cases p with
      | cons _ _ => simp [toC] at h
      | nil =>
        simp only [toC] at h
        split at h
        · split at h
          · split at h
            · rename_i cv H1 h1
              split at h
              · rename_i hb1
                simp only [Option.some.injEq, Prod.mk.injEq] at h
                rw [← h.2]
                exact (ih _ _ _ _ h1).trans (.set hb1 rfl)
              · simp at h
            · simp at h
          · simp only [Option.some.injEq, Prod.mk.injEq] at h; rw [h.2]; exact .refl _
          · simp at h
        · simp at h
    | agg l =>
      simp only [toC] at h
      split at h
      · rename_i vs H1 h1
        simp only [Option.some.injEq, Prod.mk.injEq] at h
        rw [← h.2]
        exact ihs _ _ _ _ h1
      · simp at h
    | _ => simp [toC] at h
theorem toCparts_keeps : ∀ (ps : List (Nat × AV)) (H H' : Heap) (cs : List (Nat × CV)), toCparts H ps = some (cs, H') → Keeps H H'
  | [], H, H', cs, h => by simp only [toCparts, Option.some.injEq, Prod.mk.injEq] at h; rw [h.2]; exact .refl _
  | (i, a) :: ps, H, H', cs, h => by
    simp only [toCparts] at h
    split at h
    · rename_i c H1 h1
      split at h
      · rename_i cs' H2 h2
        simp only [Option.some.injEq, Prod.mk.injEq] at h
        rw [← h.2]
        exact (toC_keeps _ _ _ _ _ h1).trans (toCparts_keeps ps H1 H2 cs' h2)
      · simp at h
    · simp at h
section
variable {C : Cfg} {H H' : Heap} {v : AV}
theorem astore_keeps {t : TypeId} {a x : AV} {d : Dl} (h : astore C H t a x = some d) : Keeps H (d.on H) := by
  unfold astore at h
  split at h
  · split at h
    · rename_i hb
      split at h
      · split at h
        · simp only [Option.some.injEq] at h; subst h; exact .set hb rfl
        · simp at h
      · simp at h
    · simp at h
  · split at h
    · rename_i hb
      split at h
      · split at h
        · simp only [Option.some.injEq] at h; subst h; exact .set hb rfl
        · simp at h
      · simp at h
    · simp at h
  · simp at h
theorem abuildSlice_keeps {t : TypeId} {len : Nat} {ps : List (Nat × AV)} (h : abuildSlice C H t len ps = some (v, H')) : Keeps H H' := by
  unfold abuildSlice at h
  split at h
  · split at h
    · rename_i hp
      split at h
      · split at h
        · simp only [Option.some.injEq, Prod.mk.injEq] at h
          rw [← h.2]
          exact (toCparts_keeps _ _ _ _ hp).trans (.append _ _)
        · simp at h
      · simp at h
    · simp at h
  · simp at h
theorem aappend_keeps {t tx : TypeId} {s x : AV} (h : aappend C H t tx s x = some (v, H')) : Keeps H H' := by
  unfold aappend at h
  split at h
  · split at h
    · split at h
      · split at h
        · split at h
          · split at h
            · simp only [Option.some.injEq, Prod.mk.injEq] at h; rw [← h.2]; exact .append _ _
            · simp at h
          · split at h
            · rename_i hb
              split at h
              · split at h
                · simp only [Option.some.injEq, Prod.mk.injEq] at h; rw [← h.2]; exact .move _ hb rfl
                · simp at h
              · simp at h
            · simp at h
          · simp at h
        · simp at h
      · simp at h
    · simp at h
  · simp at h
theorem tailOf_keeps {e : TypeId} {x : AV} {lo hi : Option AV} (h : tailOf C H e x lo hi = some (v, H')) : Keeps H H' := by
  unfold tailOf at h
  split at h
  · split at h
    · rename_i hb
      split at h
      · split at h
        · simp only [Option.some.injEq, Prod.mk.injEq] at h; rw [← h.2]; exact .move _ hb rfl
        · simp at h
      · simp at h
    · simp at h
  · simp at h
theorem aslice_keeps {t : TypeId} {x : AV} {lo hi : Option AV} (h : aslice C H t x lo hi = some (v, H')) : Keeps H H' := by
  unfold aslice at h
  split at h
  · split at h
    · split at h
      · split at h
        · simp only [Option.some.injEq, Prod.mk.injEq] at h; rw [h.2]; exact .refl _
        · simp at h
      · simp at h
    · simp at h
  · split at h
    · rename_i r hr
      simp only [Option.some.injEq] at h
      subst h
      exact tailOf_keeps hr
    · split at h
      · rename_i hc
        split at h
        · split at h
          · split at h
            · simp only [Option.some.injEq, Prod.mk.injEq] at h; rw [← h.2]; exact toC_keeps _ _ _ _ _ hc
            · simp at h
          · simp at h
        · simp at h
      · rename_i hc
        split at h
        · split at h
          · split at h
            · simp only [Option.some.injEq, Prod.mk.injEq] at h; rw [← h.2]; exact toC_keeps _ _ _ _ _ hc
            · simp at h
          · simp at h
        · simp at h
      · simp at h
  · split at h
    · rename_i hm
      split at h
      · split at h
        · split at h
          · split at h
            · simp only [Option.some.injEq, Prod.mk.injEq] at h
              rw [← h.2]
              split at hm
              · simp only [Option.some.injEq, Prod.mk.injEq] at hm; rw [hm.2.2.2]; exact .refl _
              · split at hm
                · rename_i hc
                  simp only [Option.some.injEq, Prod.mk.injEq] at hm
                  rw [← hm.2.2.2]
                  exact toC_keeps _ _ _ _ _ hc
                · simp at hm
              · simp at hm
            · simp at h
          · simp at h
        · simp at h
      · simp at h
    · simp at h
  · simp at h
theorem aarrayAt_keeps {t : TypeId} {x : AV} (h : aarrayAt C H t x = some (v, H')) : Keeps H H' := by
  unfold aarrayAt at h
  split at h
  · rename_i hc
    split at h
    · split at h
      · split at h
        · simp only [Option.some.injEq, Prod.mk.injEq] at h; rw [← h.2]; exact toC_keeps _ _ _ _ _ hc
        · simp at h
      · simp at h
    · simp at h
  · simp at h
theorem amakeSlice_keeps {t : TypeId} {l c : Int} (h : amakeSlice C H t l c = some (v, H')) : Keeps H H' := by
  unfold amakeSlice at h
  split at h
  · split at h
    · split at h
      · split at h
        · simp only [Option.some.injEq, Prod.mk.injEq] at h; rw [← h.2]; exact .append _ _
        · simp at h
      · simp at h
    · simp at h
  · simp at h
theorem astep_keeps {cf : CallFn} (hcf : ∀ f args H v H', cf f args H = some (v, H') → Keeps H H') {e : Env} {o : Oper} (h : astep C cf e H o = some (v, H')) : Keeps H H' := by
  by_cases hr : readOp C o = true
  · rw [readOp_same hr h]; exact .refl _
  obtain ⟨dst, op, type, pos, after, guard⟩ := o
  unfold astep at h
  cases op <;> simp only [readOp, not_true_eq_false] at hr <;> (try simp only at h)
  case alloc t =>
    simp only [Option.map_eq_some_iff, Prod.mk.injEq] at h
    obtain ⟨_, _, _, h⟩ := h
    rw [← h]; exact .append _ _
  case box t x =>
    split at h
    · simp only [Option.some.injEq, Prod.mk.injEq] at h; rw [← h.2]; exact .append _ _
    · simp at h
  case build t ps =>
    split at h
    · simp only [Option.map_eq_some_iff, Prod.mk.injEq] at h
      obtain ⟨_, _, _, h⟩ := h
      rw [h]; exact .refl _
    · simp at h
  case buildSlice t l ps =>
    split at h
    · exact abuildSlice_keeps h
    · simp at h
  case store t a x =>
    split at h
    · simp only [Option.map_eq_some_iff, Prod.mk.injEq] at h
      obtain ⟨d, h1, _, h⟩ := h
      rw [← h]; exact astore_keeps h1
    · simp at h
  case convert s d x =>
    split at h
    · split at h
      · split at h
        · split at h
          · split at h
            · split at h
              · simp only [Option.some.injEq, Prod.mk.injEq] at h; rw [h.2]; exact .refl _
              · simp at h
            · simp at h
          · simp at h
        · simp only [Option.map_eq_some_iff, Prod.mk.injEq] at h
          obtain ⟨_, _, _, h⟩ := h
          rw [h]; exact .refl _
      · split at h
        · split at h
          · split at h
            · simp only [Option.some.injEq, Prod.mk.injEq] at h; rw [← h.2]; exact .append _ _
            · simp at h
          · simp at h
        · simp only [Option.map_eq_some_iff, Prod.mk.injEq] at h
          obtain ⟨_, _, _, h⟩ := h
          rw [h]; exact .refl _
    · simp at h
  case makeSlice t l c =>
    split at h
    · exact amakeSlice_keeps h
    · simp at h
  case sliceToArrayPointer t x =>
    split at h
    · exact aarrayAt_keeps h
    · simp at h
  case makeInterface t x =>
    split at h
    · split at h
      · split at h
        · rename_i hc
          simp only [Option.some.injEq, Prod.mk.injEq] at h
          rw [← h.2]; exact toC_keeps _ _ _ _ _ hc
        · simp at h
      · simp at h
    · simp at h
  case slice t x lo hi mx =>
    cases mx with
    | some m => simp at h
    | none =>
      simp only at h
      split at h
      · split at h
        · exact aslice_keeps h
        · simp at h
      · simp at h
  case call c =>
    split at h
    · split at h
      · split at h
        · simp only [Option.map_eq_some_iff, Prod.mk.injEq] at h
          obtain ⟨_, _, _, h⟩ := h
          rw [h]; exact .refl _
        · exact aappend_keeps h
        · simp only [Option.map_eq_some_iff, Prod.mk.injEq] at h
          obtain ⟨_, _, _, h⟩ := h
          rw [h]; exact .refl _
        · simp only [Option.map_eq_some_iff, Prod.mk.injEq] at h
          obtain ⟨_, _, _, h⟩ := h
          rw [h]; exact .refl _
        · simp at h
      · simp at h
    · split at h
      · exact hcf _ _ _ _ _ h
      · exact hcf _ _ _ _ _ h
      · simp at h
    · simp at h
  case makeMap t r =>
    cases r with
    | some r => simp at h
    | none =>
      simp only [Option.some.injEq, Prod.mk.injEq] at h
      rw [← h.2]; exact .append _ _
  case mapUpdate t m k x =>
    split at h
    · unfold amapUpdate at h
      split at h
      · unfold amapUpdateK at h
        split at h
        · split at h
          · split at h
            · rename_i hc
              split at h
              · rename_i hid
                split at h
                · unfold putA at h
                  split at h
                  · simp only [Option.some.injEq, Prod.mk.injEq] at h
                    rw [← h.2]
                    exact (toC_keeps _ _ _ _ _ hc).trans (Keeps.set hid rfl)
                  · cases h
                · cases h
              · cases h
            · cases h
          · cases h
        · cases h
      · cases h
    · cases h
  all_goals simp at h
end
end Go.Fm
/-
  A region whose order is drawn: what has run so far, and what is ready.
-/
set_option linter.unusedSimpArgs false
set_option linter.unusedVariables false
namespace Go.Fm
open Go
section
variable {C : Cfg} {cf : CallFn}
theorem drawStep_spec {all : List Oper} {e e' : Env} {H H' : Heap} {o : Oper} {t : Trail} (h : drawStep C cf all e H o = some (e', H', t)) :
    (wantedA all e o = some false ∧ e' = putE e o.dst AV.undef ∧ H' = H ∧ t = (false, [], H.length, H.length)) ∨
    (wantedA all e o = some true ∧ ∃ x v, moved o = some x ∧ ev C e o.type x = some v ∧ e' = putE e o.dst v ∧ H' = H ∧ t = (false, [], H.length, H.length)) ∨
    (wantedA all e o = some true ∧ ∃ rs q F v F', rs = reachOp e H o ∧ q = (fun id : Nat => !rs.contains id) ∧ F = killFrom q 0 H ∧ astep C cf e F o = some (v, F') ∧ v.all (own q F) = true ∧ blksAll (own q F) (own q F) 0 F' = true ∧
      rs.all (fun id => decide (id < H.length)) = true ∧ opBelow e o H.length = true ∧ blksAll (fun id => decide (id < H.length)) (fun _ => true) 0 F = true ∧
      e' = putE e o.dst v ∧ H' = restFrom q 0 H F' ∧ t = (!readOp C o && rs.any (aliveAt H), rs, H.length, F'.length)) := by
  unfold drawStep at h
  split at h
  · simp at h
  · rename_i hw
    simp only [Option.some.injEq, Prod.mk.injEq] at h
    obtain ⟨rfl, rfl, rfl⟩ := h
    exact .inl ⟨hw, rfl, rfl, rfl⟩
  · rename_i hw
    split at h
    · rename_i x hx
      split at h
      · rename_i v hv
        simp only [Option.some.injEq, Prod.mk.injEq] at h
        obtain ⟨rfl, rfl, rfl⟩ := h
        exact .inr (.inl ⟨hw, x, v, hx, hv, rfl, rfl, rfl⟩)
      · simp at h
    · simp only at h
      split at h
      · simp at h
      · rename_i v F' hst
        split at h
        · rename_i hc
          obtain ⟨c1, c2, c3, c4, c5⟩ := hc
          simp only [Option.some.injEq, Prod.mk.injEq] at h
          obtain ⟨rfl, rfl, rfl⟩ := h
          exact .inr (.inr ⟨hw, _, _, _, v, F', rfl, rfl, rfl, hst, c1, c2, c3, c4, c5, rfl, rfl, rfl⟩)
        · simp at h
theorem drawOps_trace {all : List Oper} : ∀ (r : List Oper) (hist : List Trail) (e : Env) (H : Heap) (e' : Env) (H' : Heap) (hist' : List Trail), drawOps C cf all r hist e H = some (e', H', hist') →
    hist'.length = hist.length + r.length ∧ ∃ (E : Nat → Env) (Hs : Nat → Heap), E hist.length = e ∧ Hs hist.length = H ∧ E (hist.length + r.length) = e' ∧ Hs (hist.length + r.length) = H' ∧
      (∀ k, k < hist.length → hist'[k]? = hist[k]?) ∧
      ∀ (i : Nat) (o : Oper), r[i]? = some o → ∃ t, hist'[hist.length + i]? = some t ∧ drawStep C cf all (E (hist.length + i)) (Hs (hist.length + i)) o = some (E (hist.length + i + 1), Hs (hist.length + i + 1), t)
  | [], hist, e, H, e', H', hist', h => by
    simp only [drawOps, Option.some.injEq, Prod.mk.injEq] at h
    obtain ⟨rfl, rfl, rfl⟩ := h
    exact ⟨by simp, fun _ => e, fun _ => H, rfl, rfl, rfl, rfl, fun _ _ => rfl, fun i o hi => by simp at hi⟩
  | o :: r, hist, e, H, e', H', hist', h => by
    simp only [drawOps] at h
    split at h
    · rename_i e1 H1 t hst
      obtain ⟨h1, E, Hs, h2, h3, h4, h5, h6, h7⟩ := drawOps_trace r (hist ++ [t]) e1 H1 e' H' hist' h
      simp only [List.length_append, List.length_singleton] at h1 h2 h3 h4 h5 h6 h7
      refine ⟨by simp [h1]; omega, fun k => if k ≤ hist.length then e else E k, fun k => if k ≤ hist.length then H else Hs k, by simp, by simp, ?_, ?_, fun k hk => ?_, fun i o' hi => ?_⟩
      · simp only [List.length_cons]
        rw [if_neg (by omega), ← h4]; congr 1; omega
      · simp only [List.length_cons]
        rw [if_neg (by omega), ← h5]; congr 1; omega
      · rw [h6 k (by omega), List.getElem?_append_left hk]
      · cases i with
        | zero =>
          simp at hi
          subst hi
          refine ⟨t, by rw [Nat.add_zero, h6 _ (by omega)]; simp, ?_⟩
          dsimp only
          rw [if_pos (by omega), if_pos (by omega), if_neg (by omega), if_neg (by omega)]
          simp only [Nat.add_zero]
          rw [h2, h3]
          exact hst
        | succ i =>
          obtain ⟨t', k1, k2⟩ := h7 i o' (by simpa using hi)
          refine ⟨t', by rw [← k1]; congr 1; omega, ?_⟩
          dsimp only
          rw [if_neg (by omega), if_neg (by omega), if_neg (by omega), if_neg (by omega)]
          have e1 : hist.length + (i + 1) = hist.length + 1 + i := by omega
          rw [e1]
          exact k2
    · simp at h
/-- What stands at a place when some have run: what the last of them wrote. -/
def val {α : Type} (L wr : Nat → Bool) (c : Nat → α) : Nat → α
  | 0 => c 0
  | m + 1 => if (L m && wr m) = true then c (m + 1) else val L wr c m
theorem val_read {α : Type} {L wr : Nat → Bool} {c : Nat → α} {j : Nat} : ∀ (n : Nat), j ≤ n → (∀ m, m < n → wr m = false → c (m + 1) = c m) → (∀ k, k < n → wr k = true → L k = decide (k < j)) → val L wr c n = c j
  | 0, hj, can, h => by have : j = 0 := by omega
                        subst this; rfl
  | n + 1, hj, can, h => by
    simp only [val]
    by_cases hjn : j = n + 1
    · subst hjn
      cases hw : wr n with
      | true => rw [h n (by omega) hw]; simp
      | false =>
        simp only [Bool.and_false, Bool.false_eq_true, if_false]
        rw [can n (by omega) hw]
        exact val_read n (Nat.le_refl _) (fun m hm => can m (by omega)) (fun k hk hwk => by
          rw [h k (by omega) hwk]
          simp
          omega)
    · have hj' : j ≤ n := by omega
      cases hw : wr n with
      | true =>
        rw [h n (by omega) hw, if_neg (by simp; omega)]
        exact val_read n hj' (fun m hm => can m (by omega)) (fun k hk => h k (by omega))
      | false =>
        simp only [Bool.and_false, Bool.false_eq_true, if_false]
        exact val_read n hj' (fun m hm => can m (by omega)) (fun k hk => h k (by omega))
theorem val_below {α : Type} {L L' wr : Nat → Bool} {c : Nat → α} : ∀ (n : Nat), (∀ k, k < n → L' k = L k) → val L' wr c n = val L wr c n
  | 0, _ => rfl
  | n + 1, h => by simp only [val]; rw [h n (by omega), val_below n (fun k hk => h k (by omega))]
theorem val_set {α : Type} {L L' wr : Nat → Bool} {c : Nat → α} {j : Nat} (hL : ∀ k, L' k = if k = j then true else L k) (hLj : L j = false) : ∀ (n : Nat), j < n → (wr j = true → ∀ k, j < k → k < n → wr k = true → L k = false) →
    val L' wr c n = if wr j = true then c (j + 1) else val L wr c n
  | 0, hj, h => by omega
  | n + 1, hj, h => by
    simp only [val]
    by_cases hjn : n = j
    · subst hjn
      rw [hL n, if_pos rfl, hLj]
      simp only [Bool.true_and, Bool.false_and, Bool.false_eq_true, if_false]
      rw [val_below n (fun k hk => by rw [hL k, if_neg (by omega)])]
    · have hj' : j < n := by omega
      rw [hL n, if_neg hjn, val_set hL hLj n hj' (fun h1 k h2 h3 => h h1 k h2 (by omega))]
      cases hw : wr j with
      | true =>
        cases hwn : wr n with
        | true => rw [h hw n hj' (by omega) hwn]; simp
        | false => simp
      | false => simp
def wrB (T : Nat → Trail) (k id : Nat) : Bool := (decide ((T k).2.2.1 ≤ id) && decide (id < (T k).2.2.2)) || ((T k).1 && (T k).2.1.contains id)
def dstIs (ops : Array Oper) (k s : Nat) : Bool := (ops[k]?).bind (·.dst) == some s
/-- All that is known of a drawn region's run in the text's order. -/
structure Tr (C : Cfg) (cf : CallFn) (ops : Array Oper) (E : Nat → Env) (Hs : Nat → Heap) (T : Nat → Trail) : Prop where
  step : ∀ (j : Nat) (o : Oper), ops[j]? = some o → drawStep C cf ops.toList (E j) (Hs j) o = some (E (j + 1), Hs (j + 1), T j)
  order : orderOK ops (ancsFrom ops.toList []) = true
  clash : ∀ j k, j < ops.size → k < j → ((ancsFrom ops.toList []).getD j 0).testBit k = true ∨ clash (some (T k)) (some (T j)) = false
section
variable {ops : Array Oper} {E : Nat → Env} {Hs : Nat → Heap} {T : Nat → Trail}
theorem putE_get {e : Env} {d : Option Tmp} {v : AV} {s : Nat} (h : (d == some s) = false) : (putE e d v)[s]? = e[s]? := by
  cases d with
  | none => rfl
  | some d =>
    have : d ≠ s := by simpa using h
    simp [putE, List.getElem?_set_ne this]
theorem putE_len (e : Env) (d : Option Tmp) (v : AV) : (putE e d v).length = e.length := by cases d <;> simp [putE]
theorem killed_keeps {q : Nat → Bool} {H F' : Heap} (hk : Keeps (killFrom q 0 H) F') {id : Nat} (hq : q id = false) (hal : aliveAt H id = false) (hlt : id < H.length) : F'[id]? = H[id]? := by
  have hb : H[id]? = some H[id] := List.getElem?_eq_getElem hlt
  have hF : (killFrom q 0 H)[id]? = some H[id] := by rw [killFrom_get, Nat.zero_add, hq]; simpa using hb
  have hok : H[id].ok = true := by simpa [aliveAt, hb] using hal
  rw [hk.2 id _ hF hok, hb]
theorem Tr.facts (hT : Tr C cf ops E Hs T) (hcf : CfOk C cf) {j : Nat} (hj : j < ops.size) : (T j).2.2.1 = (Hs j).length ∧ (T j).2.2.2 = (Hs (j + 1)).length ∧ (Hs j).length ≤ (Hs (j + 1)).length ∧ (∀ id ∈ (T j).2.1, id < (Hs j).length) ∧
    (∀ id, wrB T j id = false → get (Hs (j + 1)) id = get (Hs j) id) ∧ (∀ s, dstIs ops j s = false → (E (j + 1))[s]? = (E j)[s]?) ∧ (E (j + 1)).length = (E j).length := by
  have ho : ops[j]? = some ops[j] := Array.getElem?_eq_getElem hj
  have hdst : ∀ s, dstIs ops j s = (ops[j].dst == some s) := fun s => by simp [dstIs, ho]
  rcases drawStep_spec (hT.step j _ ho) with ⟨h1, h2, h3, h4⟩ | ⟨h1, _, _, _, _, h2, h3, h4⟩ | ⟨h1, rs, q, F, v, F', hrs, hq, hF, hst, c1, c2, c3, c4, c5, h2, h3, h4⟩
  · rw [h4, h3, h2]
    exact ⟨rfl, rfl, Nat.le_refl _, by simp, fun _ _ => rfl, fun s hs => putE_get (by rw [← hdst]; exact hs), putE_len _ _ _⟩
  · rw [h4, h3, h2]
    exact ⟨rfl, rfl, Nat.le_refl _, by simp, fun _ _ => rfl, fun s hs => putE_get (by rw [← hdst]; exact hs), putE_len _ _ _⟩
  · have hkeep := astep_keeps hcf.keeps hst
    have hlF : F.length = (Hs j).length := by rw [hF, killFrom_len]
    have hle : (Hs j).length ≤ F'.length := by rw [← hlF]; exact hkeep.1
    have hl := restFrom_len q 0 (Hs j) F' hle
    refine ⟨by rw [h4], by rw [h4, h3, hl], by rw [h3, hl]; exact hle, fun id hid => ?_, fun id hw => ?_, fun s hs => by rw [h2]; exact putE_get (by rw [← hdst]; exact hs), by rw [h2, putE_len]⟩
    · rw [h4] at hid
      have := List.all_eq_true.1 c3 id hid
      simpa using this
    · unfold get
      rw [h3, restFrom_get q 0 (Hs j) F' id hle, Nat.zero_add]
      simp only [wrB, h4, Bool.or_eq_false_iff, Bool.and_eq_false_iff, decide_eq_false_iff_not] at hw
      obtain ⟨w1, w2⟩ := hw
      by_cases hlt : id < (Hs j).length
      · cases hqi : q id with
        | true => rw [if_pos ⟨hlt, rfl⟩]
        | false =>
          rw [if_neg (by simp)]
          have hin : rs.contains id = true := by rw [hq] at hqi; simpa using hqi
          have hw : (!readOp C ops[j] && rs.any (aliveAt (Hs j))) = false := by
            rcases w2 with h | h
            · exact Bool.and_eq_false_iff.2 h
            · rw [hin] at h; cases h
          cases hr : readOp C ops[j] with
          | true =>
            have := readOp_same hr hst
            rw [this, hF, killFrom_get, Nat.zero_add, hqi]
            simp
          | false =>
            rw [hr] at hw
            simp only [Bool.not_false, Bool.true_and] at hw
            have hal : aliveAt (Hs j) id = false := by
              cases ha : aliveAt (Hs j) id with
              | false => rfl
              | true =>
                have : rs.any (aliveAt (Hs j)) = true := List.any_eq_true.2 ⟨id, by simpa using hin, ha⟩
                rw [hw] at this
                cases this
            rw [hF] at hkeep
            exact killed_keeps hkeep hqi hal hlt
      · rw [if_neg (fun h => hlt h.1)]
        rw [List.getElem?_eq_none (show F'.length ≤ id by
          rcases w1 with h | h
          · omega
          · omega), List.getElem?_eq_none (by omega)]
theorem Tr.mono (hT : Tr C cf ops E Hs T) (hcf : CfOk C cf) {i : Nat} : ∀ (j : Nat), i ≤ j → j ≤ ops.size → (Hs i).length ≤ (Hs j).length
  | 0, h, _ => by have : i = 0 := by omega
                  subst this; exact Nat.le_refl _
  | j + 1, h, hn => by
    by_cases e : i = j + 1
    · subst e; exact Nat.le_refl _
    · exact Nat.le_trans (Tr.mono hT hcf j (by omega) (by omega)) (hT.facts hcf (by omega)).2.2.1
theorem Tr.orderAt (hT : Tr C cf ops E Hs T) {j : Nat} {o : Oper} (ho : ops[j]? = some o) : (∀ e ∈ o.after, Region.binds .any e = true → e.on < j) ∧
    ∀ (k : Nat) (ok : Oper), k < j → ops[k]? = some ok → ((ancsFrom ops.toList []).getD j 0).testBit k = true ∨ ok.apart ops o = true := by
  have hj : j < ops.size := (Array.getElem?_eq_some_iff.1 ho).1
  have h1 := List.all_eq_true.1 hT.order j (List.mem_range.2 hj)
  simp only [Fm.orderAt, ho, Bool.and_eq_true] at h1
  obtain ⟨⟨h2, _⟩, h3⟩ := h1
  refine ⟨fun e he hb => ?_, fun k ok hk hok => ?_⟩
  · have := List.all_eq_true.1 h2 e (by simpa using he)
    simpa [hb] using this
  · have := List.all_eq_true.1 h3 k (List.mem_range.2 hk)
    simpa [hok] using this
/-- Who wrote what is ready to be read stands ahead of it, or behind. -/
theorem Tr.near (hT : Tr C cf ops E Hs T) (hcf : CfOk C cf) {L : Nat → Bool} {j id : Nat} (hcl : ∀ (j : Nat) (o : Oper), ops[j]? = some o → L j = true → ∀ e ∈ o.after, Region.binds .any e = true → L e.on = true) (hj : j < ops.size) (hLj : L j = false)
    (hready : ∀ e ∈ (ops[j]).after, Region.binds .any e = true → L e.on = true) (hid : id ∈ (T j).2.1 ∨ ((Hs j).length ≤ id ∧ id < (Hs (j + 1)).length)) : ∀ k, k < ops.size → wrB T k id = true → L k = decide (k < j) := by
  have hlt : ∀ (j : Nat) (o : Oper), ops[j]? = some o → ∀ e ∈ o.after, Region.binds .any e = true → e.on < j := fun j o ho => (hT.orderAt ho).1
  have hanc : ∀ (k i : Nat) (o : Oper), ops[k]? = some o → (∀ e ∈ o.after, Region.binds .any e = true → L e.on = true) → ((ancsFrom ops.toList []).getD k 0).testBit i = true → L i = true := fun k i o ho h1 h2 => anc_closed (L := fun i => L i = true) hcl hlt (k + 1) k i o (by omega) ho h1 h2
  intro k hk hw
  obtain ⟨a1, a2, a3, a4, _⟩ := hT.facts hcf hj
  obtain ⟨b1, b2, b3, b4, _⟩ := hT.facts hcf hk
  simp only [wrB, Bool.or_eq_true, Bool.and_eq_true, decide_eq_true_eq] at hw
  rcases Nat.lt_trichotomy k j with hkj | hkj | hkj
  · have hm := hT.mono hcf (i := k + 1) j (by omega) (by omega)
    rcases hT.clash j k hj hkj with h | h
    · rw [hanc j k _ (Array.getElem?_eq_getElem hj) hready h]
      simp [hkj]
    · exfalso
      simp only [Fm.clash, List.any_eq_false, Bool.or_eq_true, Bool.and_eq_true, decide_eq_true_eq, not_or] at h
      rcases hid with hid | hid
      · obtain ⟨h1, h2⟩ := h id hid
        rcases hw with hw | hw
        · exact h1 hw
        · exact h2 ⟨.inl hw.1, hw.2⟩
      · rcases hw with hw | hw
        · omega
        · have := b4 id (by simpa using hw.2)
          omega
  · subst hkj
    rw [hLj]
    simp
  · have hm := hT.mono hcf (i := j + 1) k (by omega) (by omega)
    rcases hT.clash k j hk hkj with h | h
    · cases hLk : L k with
      | false => simp; omega
      | true =>
        have := hanc k j _ (Array.getElem?_eq_getElem hk) (hcl k _ (Array.getElem?_eq_getElem hk) hLk) h
        rw [hLj] at this
        cases this
    · exfalso
      simp only [Fm.clash, List.any_eq_false, Bool.or_eq_true, Bool.and_eq_true, decide_eq_true_eq, not_or] at h
      rcases hw with hw | hw
      · rcases hid with hid | hid
        · have := a4 id hid
          omega
        · omega
      · have hin : id ∈ (T k).2.1 := by simpa using hw.2
        obtain ⟨h1, h2⟩ := h id hin
        rcases hid with hid | hid
        · exact h2 ⟨.inr hw.1, by simpa using hid⟩
        · exact h1 (by rw [a1, a2]; exact hid)
theorem Tr.nearS (hT : Tr C cf ops E Hs T) {L : Nat → Bool} {j s : Nat} (hcl : ∀ (j : Nat) (o : Oper), ops[j]? = some o → L j = true → ∀ e ∈ o.after, Region.binds .any e = true → L e.on = true) (hj : j < ops.size) (hLj : L j = false)
    (hready : ∀ e ∈ (ops[j]).after, Region.binds .any e = true → L e.on = true) (hs : s ∈ (ops[j]).looksAt ops ∨ (ops[j]).dst = some s) : ∀ k, k < ops.size → dstIs ops k s = true → L k = decide (k < j) := by
  have hlt : ∀ (j : Nat) (o : Oper), ops[j]? = some o → ∀ e ∈ o.after, Region.binds .any e = true → e.on < j := fun j o ho => (hT.orderAt ho).1
  have hanc : ∀ (k i : Nat) (o : Oper), ops[k]? = some o → (∀ e ∈ o.after, Region.binds .any e = true → L e.on = true) → ((ancsFrom ops.toList []).getD k 0).testBit i = true → L i = true := fun k i o ho h1 h2 => anc_closed (L := fun i => L i = true) hcl hlt (k + 1) k i o (by omega) ho h1 h2
  intro k hk hw
  have hok : ops[k]? = some ops[k] := Array.getElem?_eq_getElem hk
  have hoj : ops[j]? = some ops[j] := Array.getElem?_eq_getElem hj
  have hd : (ops[k]).dst = some s := by simpa [dstIs, hok] using hw
  rcases Nat.lt_trichotomy k j with hkj | hkj | hkj
  · rcases (hT.orderAt hoj).2 k _ hkj hok with h | h
    · rw [hanc j k _ hoj hready h]
      simp [hkj]
    · exfalso
      obtain ⟨p1, p2, p3⟩ := Oper.apart_spec h
      rcases hs with hs | hs
      · exact p1 s hd hs
      · exact p2 s hd hs
  · subst hkj
    rw [hLj]
    simp
  · rcases (hT.orderAt hok).2 j _ hkj hoj with h | h
    · cases hLk : L k with
      | false => simp; omega
      | true =>
        have := hanc k j _ hok (hcl k _ hok hLk) h
        rw [hLj] at this
        cases this
    · exfalso
      obtain ⟨p1, p2, p3⟩ := Oper.apart_spec h
      rcases hs with hs | hs
      · exact p3 s hd hs
      · exact p2 s hs hd
end
end
end Go.Fm
/-
  A region whose order is drawn: every order comes to the same.
-/
set_option linter.unusedSimpArgs false
set_option linter.unusedVariables false
namespace Go.Fm
open Go
/-- What is so when some of a region's operations have run. -/
def SI (C : Cfg) (S0 : Nat → Nat → Prop) (g0 : Gh) (w0 : World) (a0 : Act) (ops : Array Oper) (E : Nat → Env) (Hs : Nat → Heap) (T : Nat → Trail) (L : Nat → Bool) (a : Act) (w : World) : Prop :=
  ∃ g, Inv S0 g w ∧ g.real ∧ GlOK C w (g.St S0) ∧ Step g0 w0 g w ∧ (∀ id, g.G id = val L (wrB T · id) (fun m => get (Hs m) id) ops.size) ∧ a.tmps.size = a0.tmps.size ∧
    (∀ s x, val L (dstIs ops · s) (fun m => (E m)[s]?) ops.size = some x → ∃ u, a.tmps[s]? = some u ∧ RV g w (g.St S0) u x) ∧ a.defers = a0.defers
theorem wanted_ok {ops : Array Oper} {e : Env} {o : Oper} {b : Bool} {a : Act} {g : Gh} {w : World} {S : Nat → Nat → Prop} (h : wantedA ops.toList e o = some b)
    (hr : ∀ s x, s ∈ o.looksAt ops → e[s]? = some x → ∃ u, a.tmps[s]? = some u ∧ RV g w S u x) : Region.wanted o (yielded ops a.tmps) = b := by
  unfold wantedA at h
  unfold Region.wanted
  cases hg : o.guard with
  | none => rw [hg] at h; simpa using h
  | some gw =>
    obtain ⟨j, want⟩ := gw
    rw [hg] at h
    simp only at h ⊢
    have hdst : dstOf ops.toList j = (ops[j]?).bind (·.dst) := by simp [dstOf]
    rw [hdst] at h
    split at h
    · rename_i d hd
      have hin : d ∈ o.looksAt ops := by simp [Oper.looksAt, hg, hd]
      split at h
      · rename_i b' hb
        simp only [Option.some.injEq] at h
        obtain ⟨u, h1, h2⟩ := hr d _ hin hb
        have := RV_bool h2
        subst this
        rw [← h]
        simp only [yielded, hd, Option.bind_some, h1]
        cases b' <;> cases want <;> rfl
      · rename_i hb
        simp only [Option.some.injEq] at h
        obtain ⟨u, h1, h2⟩ := hr d _ hin hb
        obtain ⟨vs, h3, h4⟩ := RV_tup h2
        subst h3
        rw [← h]
        simp only [yielded, hd, Option.bind_some, h1]
        rfl
      · simp at h
    · simp at h
theorem RV_const {C : Cfg} {g : Gh} {w : World} {S : Nat → Nat → Prop} {a : Act} {e : Env} (hg : GlOK C w S) {t : TypeId} {x : Operand} {v : AV} (hx : ∀ i, x ≠ .tmp i) (h : ev C e t x = some v) : RV g w S (a.eval x) v := by
  cases x with
  | tmp i => exact absurd rfl (hx i)
  | const u => exact absV_RV h
  | global n =>
    simp only [ev, Option.map_eq_some_iff] at h
    obtain ⟨c, h1, rfl⟩ := h
    obtain ⟨cs, h2, h3⟩ := hg n c h1
    exact .one _ _ (.c _ _ (by simpa [Act.eval] using RC.ptr n 0 0 [] c cs h2 h3)) rfl
  | func f =>
    simp only [ev, Option.some.injEq] at h
    subst h
    exact .one _ _ (.c _ _ (.fn f)) rfl
section
variable {C : Cfg} {cf : CallFn} {S0 : Nat → Nat → Prop} {g0 : Gh} {w0 : World} {a0 : Act} {ops : Array Oper} {E : Nat → Env} {Hs : Nat → Heap} {T : Nat → Trail}
theorem put_tmps (a : Act) (d : Option Tmp) (u : Value) : (a.put d u).tmps.size = a.tmps.size ∧ (a.put d u).defers = a.defers ∧
    (∀ s, (d == some s) = false → (a.put d u).tmps[s]? = a.tmps[s]?) ∧ (∀ s, d = some s → s < a.tmps.size → (a.put d u).tmps[s]? = some u) := by
  cases d with
  | none => exact ⟨rfl, rfl, fun _ _ => rfl, fun s h => by cases h⟩
  | some d =>
    refine ⟨by simp [Act.put], rfl, fun s hs => ?_, fun s hs hlt => ?_⟩
    · have : d ≠ s := by simpa using hs
      simp [Act.put, Array.getElem?_setIfInBounds_ne this]
    · injection hs with hs
      subst hs
      simp [Act.put, hlt]
/-- The slots, when one operation more has run. -/
theorem SI_slots (hT : Tr C cf ops E Hs T) (hcf : CfOk C cf) {L L' : Nat → Bool} {j : Nat} {a : Act} {g g' : Gh} {w w' : World} (hj : j < ops.size) (hLj : L j = false) (hL : ∀ k, L' k = if k = j then true else L k)
    (hcl : ∀ (j : Nat) (o : Oper), ops[j]? = some o → L j = true → ∀ e ∈ o.after, Region.binds .any e = true → L e.on = true) (hready : ∀ e ∈ (ops[j]).after, Region.binds .any e = true → L e.on = true)
    (hs : ∀ s x, val L (dstIs ops · s) (fun m => (E m)[s]?) ops.size = some x → ∃ u, a.tmps[s]? = some u ∧ RV g w (g.St S0) u x) (hst : Step g w g' w') {u : Value} {v : AV} (hE : E (j + 1) = putE (E j) (ops[j]).dst v) (hv : RV g' w' (g'.St S0) u v)
    (hsize : ∀ m, m ≤ ops.size → (E m).length = a.tmps.size) :
    ∀ s x, val L' (dstIs ops · s) (fun m => (E m)[s]?) ops.size = some x → ∃ u', (a.put (ops[j]).dst u).tmps[s]? = some u' ∧ RV g' w' (g'.St S0) u' x := by
  intro s x hx
  have hoj : ops[j]? = some ops[j] := Array.getElem?_eq_getElem hj
  have hdst : dstIs ops j s = ((ops[j]).dst == some s) := by simp [dstIs, hoj]
  obtain ⟨p1, p2, p3, p4⟩ := put_tmps a (ops[j]).dst u
  rw [val_set hL hLj ops.size hj (fun hw k hjk hk hwk => by
    have hd : (ops[j]).dst = some s := by rw [hdst] at hw; simpa using hw
    rw [hT.nearS hcl hj hLj hready (.inr hd) k hk hwk]
    simp; omega)] at hx
  cases hw : dstIs ops j s with
  | true =>
    rw [hw, if_pos rfl] at hx
    have hd : (ops[j]).dst = some s := by rw [hdst] at hw; simpa using hw
    rw [hE, hd] at hx
    simp only [putE] at hx
    have hlt : s < (E j).length := by
      rcases Nat.lt_or_ge s (E j).length with h | h
      · exact h
      · rw [List.getElem?_eq_none (by simpa using h)] at hx; cases hx
    rw [List.getElem?_set_self hlt] at hx
    injection hx with hx
    subst hx
    exact ⟨u, p4 s hd (by rw [← hsize j (by omega)]; exact hlt), hv⟩
  | false =>
    rw [hw, if_neg (by simp)] at hx
    obtain ⟨u', h1, h2⟩ := hs s x hx
    exact ⟨u', by rw [p3 s (by rw [← hdst]; exact hw)]; exact h1, h2.step hst (hst.stays S0)⟩
theorem SI_step (hT : Tr C cf ops E Hs T) (hcf : CfOk C cf) {L L' : Nat → Bool} {j : Nat} {a : Act} {w : World} {Q : Exit → Act → World → Prop} (hj : j < ops.size) (hLj : L j = false) (hL : ∀ k, L' k = if k = j then true else L k)
    (hcl : ∀ (j : Nat) (o : Oper), ops[j]? = some o → L j = true → ∀ e ∈ o.after, Region.binds .any e = true → L e.on = true) (hready : ∀ e ∈ (ops[j]).after, Region.binds .any e = true → L e.on = true)
    (hsize : ∀ m, m ≤ ops.size → (E m).length = a0.tmps.size) (h : SI C S0 g0 w0 a0 ops E Hs T L a w) : wpOp C.P ops Q j (SI C S0 g0 w0 a0 ops E Hs T L') a w := by
  obtain ⟨g, hI, hR, hgl, hst, hG, hsz, hs, hdf⟩ := h
  have hoj : ops[j]? = some ops[j] := Array.getElem?_eq_getElem hj
  obtain ⟨f1, f2, f3, f4, f5, f6, f7⟩ := hT.facts hcf hj
  -- what is read is as it was in the text's order
  have canH : ∀ id m, m < ops.size → wrB T m id = false → get (Hs (m + 1)) id = get (Hs m) id := fun id m hm => (hT.facts hcf hm).2.2.2.2.1 id
  have canE : ∀ s m, m < ops.size → dstIs ops m s = false → (E (m + 1))[s]? = (E m)[s]? := fun s m hm => (hT.facts hcf hm).2.2.2.2.2.1 s
  have rdH : ∀ id, (id ∈ (T j).2.1 ∨ ((Hs j).length ≤ id ∧ id < (Hs (j + 1)).length)) → g.G id = get (Hs j) id := fun id hid => by
    rw [hG id]
    exact val_read ops.size (by omega) (canH id) (hT.near hcf hcl hj hLj hready hid)
  have rdS : ∀ s x, s ∈ (ops[j]).looksAt ops → (E j)[s]? = some x → ∃ u, a.tmps[s]? = some u ∧ RV g w (g.St S0) u x := fun s x hin hx => by
    refine hs s x ?_
    rw [val_read ops.size (by omega) (canE s) (hT.nearS hcl hj hLj hready (.inl hin))]
    exact hx
  have setH : ∀ id, val L' (wrB T · id) (fun m => get (Hs m) id) ops.size = if wrB T j id = true then get (Hs (j + 1)) id else g.G id := fun id => by
    rw [val_set hL hLj ops.size hj (fun hw k hjk hk hwk => by
      have hid : id ∈ (T j).2.1 ∨ ((Hs j).length ≤ id ∧ id < (Hs (j + 1)).length) := by
        simp only [wrB, Bool.or_eq_true, Bool.and_eq_true, decide_eq_true_eq] at hw
        rcases hw with hw | hw
        · exact .inr (by rw [f1, f2] at hw; exact hw)
        · exact .inl (by simpa using hw.2)
      rw [hT.near hcf hcl hj hLj hready hid k hk hwk]
      simp; omega), hG id]
  have hsize' : ∀ m, m ≤ ops.size → (E m).length = a.tmps.size := fun m hm => by rw [hsz]; exact hsize m hm
  have hwant := fun b (hb : wantedA ops.toList (E j) ops[j] = some b) => wanted_ok (a := a) (g := g) (w := w) (S := g.St S0) hb rdS
  unfold wpOp
  simp only [hoj]
  rcases drawStep_spec (hT.step j _ hoj) with ⟨h1, h2, h3, h4⟩ | ⟨h1, x, v, hmv, hev, h2, h3, h4⟩ | ⟨h1, rs, q, F, v, F', hrs, hq, hF, hstep, c1, c2, c3, c4, c5, h2, h3, h4⟩
  · rw [hwant _ h1, if_neg (by simp)]
    refine ⟨g, hI, hR, hgl, hst, fun id => ?_, by rw [(put_tmps a _ _).1]; exact hsz, SI_slots hT hcf hj hLj hL hcl hready hs (Step.refl g w) h2 RV_undef hsize', by rw [(put_tmps a _ _).2.1]; exact hdf⟩
    rw [setH id, if_neg]
    simp [wrB, h4]
  · rw [hwant _ h1, if_pos rfl]
    left
    unfold Oper.wp
    have hop : execOp a.eval ops[j] = Pure.pure (.value (a.eval x)) := by
      unfold moved at hmv
      unfold execOp
      split at hmv <;> first | (injection hmv with hmv; subst hmv; rename_i heq; rw [heq]) | cases hmv
    have hin : x ∈ (ops[j]).op.operands := by
      unfold moved at hmv
      split at hmv <;> first | (injection hmv with hmv; subst hmv; rename_i heq; rw [heq]; simp [Op.operands]) | cases hmv
    have hrv : RV g w (g.St S0) (a.eval x) v := by
      cases x with
      | tmp i =>
        have hlook : i ∈ (ops[j]).looksAt ops := List.mem_append_left _ (List.mem_filterMap.2 ⟨.tmp i, by simpa using hin, rfl⟩)
        have hy' : (E j)[i]? = some v := hev
        obtain ⟨u, k1, k2⟩ := rdS i v hlook hy'
        have he : a.eval (.tmp i) = u := by simp [Act.eval, Array.getD_eq_getD_getElem?, k1]
        rw [he]
        exact k2
      | _ => exact RV_const hgl (by simp) hev
    rw [hop]
    show SI C S0 g0 w0 a0 ops E Hs T L' (a.put (ops[j]).dst (a.eval x)) w
    refine ⟨g, hI, hR, hgl, hst, fun id => ?_, by rw [(put_tmps a _ _).1]; exact hsz, SI_slots hT hcf hj hLj hL hcl hready hs (Step.refl g w) h2 hrv hsize', by rw [(put_tmps a _ _).2.1]; exact hdf⟩
    rw [setH id, if_neg]
    simp [wrB, h4]
  · rw [hwant _ h1, if_pos rfl]
    have hkeep := astep_keeps hcf.keeps hstep
    have hlF : F.length = (Hs j).length := by rw [hF, killFrom_len]
    have hle : (Hs j).length ≤ F'.length := by rw [← hlF]; exact hkeep.1
    have hF' : (Hs (j + 1)).length = F'.length := by rw [h3, restFrom_len q 0 _ _ hle]
    have hFget : ∀ id, F[id]? = if q id = true then ((Hs j)[id]?).map (fun _ => Blk.dead) else (Hs j)[id]? := fun id => by rw [hF, killFrom_get, Nat.zero_add]
    have hin : ∀ id, q id = false → id ∈ (T j).2.1 := fun id hid => by
      rw [h4]
      rw [hq] at hid
      simpa using hid
    have hp : Part g q F := fun id b hb => by
      rw [hFget] at hb
      cases hqi : q id with
      | true =>
        rw [hqi, if_pos rfl, Option.map_eq_some_iff] at hb
        obtain ⟨_, _, rfl⟩ := hb
        exact .inl ⟨rfl, rfl⟩
      | false =>
        rw [hqi, if_neg (by simp)] at hb
        exact .inr ⟨rfl, by rw [rdH id (.inl (hin id hqi))]; exact hb⟩
    have hwf : ∀ (id : Nat) (b : Blk), F[id]? = some b → b.all (fun id => decide (id < F.length)) = true := fun id b hb => by
      rw [hlF]
      exact blksAll_get _ _ 0 F id b c5 hb rfl
    have hOk := frameIn hI hR hgl hp hwf
    have hrev : REv C (E j) a.eval ops[j] (g.inn q F) w ((g.inn q F).St (inS S0 g q F)) := by
      intro x hx t y hy
      cases x with
      | tmp i =>
        have hlook : i ∈ (ops[j]).looksAt ops := List.mem_append_left _ (List.mem_filterMap.2 ⟨.tmp i, by simpa using hx, rfl⟩)
        have hy' : (E j)[i]? = some y := hy
        obtain ⟨u, k1, k2⟩ := rdS i y hlook hy'
        have he : a.eval (.tmp i) = u := by simp [Act.eval, Array.getD_eq_getD_getElem?, k1]
        rw [he]
        refine k2.inn hp ?_
        have := List.all_eq_true.1 c4 (.tmp i) (by simpa using hx)
        simp only [hy'] at this
        rw [hlF]
        exact this
      | _ => exact RV_const hOk.gl (by simp) hy
    have hnew : ∀ i, F.length ≤ i → i < F'.length → g.G (i + 0) = none := fun i hi hi' => by
      rw [Nat.add_zero, rdH i (.inr ⟨by omega, by omega⟩)]
      exact List.getElem?_eq_none (by omega)
    have hav : ∀ (i : Nat) (b : Blk), F'[i]? = some b → own q F i = true → b.all (own q F) = true := fun i b hb ho => blksAll_get _ _ 0 F' i b c2 hb (by rw [Nat.zero_add]; exact ho)
    have fin : ∀ (u : Value) (w3 : World) (g3 : Gh), Ok C (inS S0 g q F) g3 w3 F' → Step (g.inn q F) w g3 w3 → RV g3 w3 (g3.St (inS S0 g q F)) u v → SI C S0 g0 w0 a0 ops E Hs T L' (a.put (ops[j]).dst u) w3 := by
      intro u w3 g3 k1 k2 k3
      obtain ⟨m1, m2, m3, m4, m5⟩ := frameOut (off := 0) hI hR hp (.inl rfl) k1 k2 hnew hav
      have hvr := m5 u v k3 c1
      rw [AV.shift_zero] at hvr
      refine ⟨_, m1, m2, m3, hst.trans m4, fun id => ?_, by rw [(put_tmps a _ _).1]; exact hsz, SI_slots hT hcf hj hLj hL hcl hready hs m4 h2 hvr hsize', by rw [(put_tmps a _ _).2.1]; exact hdf⟩
      rw [setH id]
      have hsh : ∀ b : Blk, b.shift 0 = b := fun b => by cases b <;> simp [Blk.shift, AV.shift_zero]
      have hres : ∀ id, get (Hs (j + 1)) id = if id < (Hs j).length ∧ q id = true then (Hs j)[id]? else F'[id]? := fun id => by
        unfold get
        rw [h3, restFrom_get q 0 _ _ id hle, Nat.zero_add]
      have hshm : (F'[id]?).map (Blk.shift 0) = F'[id]? := by
        cases F'[id]? with
        | none => rfl
        | some b => simp [hsh]
      show (if taken q F F' 0 id = true then (F'[id - 0]?).map (Blk.shift 0) else g.G id) = _
      rw [Nat.sub_zero, hshm]
      have ht : taken q F F' 0 id = true ↔ id < F'.length ∧ (F.length ≤ id ∨ (id < F.length ∧ q id = false)) := by
        simp [taken, own, live]
      cases hw : wrB T j id with
      | true =>
        rw [if_pos rfl, hres id]
        simp only [wrB, h4, Bool.or_eq_true, Bool.and_eq_true, decide_eq_true_eq] at hw
        rcases hw with hw | hw
        · rw [if_pos (ht.2 ⟨hw.2, .inl (by omega)⟩), if_neg (by omega)]
        · have hmem : id ∈ rs := by simpa using hw.2
          have hlt : id < (Hs j).length := by simpa using List.all_eq_true.1 c3 id hmem
          have hqf : q id = false := by rw [hq]; simpa using hmem
          rw [if_pos (ht.2 ⟨by omega, .inr ⟨by omega, hqf⟩⟩), if_neg (by simp [hqf])]
      | false =>
        simp only [Bool.false_eq_true, if_false]
        by_cases htk : taken q F F' 0 id = true
        · rw [if_pos htk]
          obtain ⟨t1, t2⟩ := ht.1 htk
          have hw' := f5 id hw
          rw [hres id] at hw'
          rcases t2 with t2 | ⟨t2, t3⟩
          · exfalso
            simp only [wrB, h4, Bool.or_eq_false_iff, Bool.and_eq_false_iff, decide_eq_false_iff_not] at hw
            omega
          · rw [if_neg (by simp [t3])] at hw'
            rw [hw', rdH id (.inl (hin id t3))]
        · rw [if_neg htk]
    left
    unfold Oper.wp
    rcases astep_ok hcf hOk hrev hstep with ⟨u, w3, g3, k0, k1, k2, k3⟩ | ⟨f, us, k0, k1⟩
    · rcases k0 with k0 | ⟨k0, rfl⟩
      · rw [k0]
        exact fin u w3 g3 k1 k2 k3
      · rw [k0]
        exact fin undef w3 g3 k1 k2 k3
    · rw [k0]
      refine Calls.mono k1 fun e w3 hh => ?_
      obtain ⟨u, g3, rfl, k1, k2, k3⟩ := hh
      exact fin u w3 g3 k1 k2 k3
theorem gd_both {listed : Array Bool} {i : Nat} (h : listed.getD i true = false) : listed.getD i false = false := by
  rcases Nat.lt_or_ge i listed.size with h' | h'
  · simp [h'] at h ⊢; exact h
  · simp [Array.getElem?_eq_none h'] at h
theorem gd_in {listed : Array Bool} {i : Nat} (hi : i < listed.size) (h : listed.getD i false = false) : listed.getD i true = false := by
  simp [hi] at h ⊢; exact h
theorem SI_any (hT : Tr C cf ops E Hs T) (hcf : CfOk C cf) {Q : Exit → Act → World → Prop} (hsize : ∀ m, m ≤ ops.size → (E m).length = a0.tmps.size)
    (hQ : ∀ a w, SI C S0 g0 w0 a0 ops E Hs T (fun k => decide (k < ops.size)) a w → Q .normal a w) : ∀ (fuel : Nat) (listed : Array Bool) (a : Act) (w : World), listed.size = ops.size →
    (∃ l : List Nat, l.length ≤ fuel ∧ ∀ i, i < ops.size → listed.getD i false = false → i ∈ l) →
    (∀ (j : Nat) (o : Oper), ops[j]? = some o → listed.getD j false = true → ∀ e ∈ o.after, Region.binds .any e = true → listed.getD e.on false = true) →
    SI C S0 g0 w0 a0 ops E Hs T (fun k => listed.getD k false) a w → wpAny C.P .any ops Q fuel listed a w := by
  have hlt : ∀ (j : Nat) (o : Oper), ops[j]? = some o → ∀ e ∈ o.after, Region.binds .any e = true → e.on < j := fun j o ho => (hT.orderAt ho).1
  have hall : ∀ (listed : Array Bool), listed.size = ops.size → Region.ready .any ops listed = [] → ∀ k, k < ops.size → listed.getD k false = true := by
    intro listed hls hr k
    induction k using Nat.strongRecOn with
    | _ k ih =>
      intro hk
      cases hl : listed.getD k false with
      | true => rfl
      | false =>
        exfalso
        have : k ∈ Region.ready .any ops listed := mem_ready.2 ⟨gd_in (by omega) hl, ops[k], Array.getElem?_eq_getElem hk, fun e he hb => by
          have := hlt k _ (Array.getElem?_eq_getElem hk) e he hb
          exact ih e.on this (by omega)⟩
        rw [hr] at this
        cases this
  have hend : ∀ (listed : Array Bool) (a : Act) (w : World), listed.size = ops.size → (∀ k, k < ops.size → listed.getD k false = true) → SI C S0 g0 w0 a0 ops E Hs T (fun k => listed.getD k false) a w → Q .normal a w := by
    intro listed a w hls hk hSI
    refine hQ a w ?_
    have : (fun k => listed.getD k false) = fun k => decide (k < ops.size) := by
      funext k
      by_cases h : k < ops.size
      · rw [hk k h]; simp [h]
      · have : listed[k]? = none := Array.getElem?_eq_none (by omega)
        simp [Array.getD_eq_getD_getElem?, this, h]
    rwa [this] at hSI
  intro fuel
  induction fuel with
  | zero =>
    intro listed a w hls hl hcl hSI
    obtain ⟨l, h1, h2⟩ := hl
    have hnil : l = [] := List.eq_nil_of_length_eq_zero (by omega)
    have hk : ∀ k, k < ops.size → listed.getD k false = true := fun k hk => by
      cases hc : listed.getD k false with
      | true => rfl
      | false => have := h2 k hk hc; rw [hnil] at this; cases this
    refine ⟨?_, hend listed a w hls hk hSI⟩
    cases hr : Region.ready .any ops listed with
    | nil => rfl
    | cons i rest =>
      exfalso
      have hi : i ∈ Region.ready .any ops listed := by rw [hr]; simp
      obtain ⟨h3, o, ho, _⟩ := mem_ready.1 hi
      have := hk i (Array.getElem?_eq_some_iff.1 ho).1
      rw [gd_both h3] at this
      cases this
  | succ fuel ih =>
    intro listed a w hls hl hcl hSI
    refine ⟨fun hr => hend listed a w hls (hall listed hls hr) hSI, fun i hi => ?_⟩
    obtain ⟨h3, o, ho, h4⟩ := mem_ready.1 hi
    have hij : i < ops.size := (Array.getElem?_eq_some_iff.1 ho).1
    have hoi : ops[i] = o := (Array.getElem?_eq_some_iff.1 ho).2
    have hnew : ∀ k, (listed.setIfInBounds i true).getD k false = if k = i then true else listed.getD k false := fun k => by
      by_cases hk : k = i
      · subst hk; simp [Array.getD_eq_getD_getElem?, hls, hij]
      · rw [if_neg hk, getD_set_ne false (Ne.symm hk)]
    refine wpOp_mono (fun a' w' hS => ?_) (SI_step (L' := fun k => (listed.setIfInBounds i true).getD k false) hT hcf hij (gd_both h3) hnew hcl (by rw [hoi]; exact h4) hsize hSI)
    obtain ⟨l, l1, l2⟩ := hl
    refine ih _ a' w' (by simp [hls]) ⟨l.erase i, ?_, fun k hk hkf => ?_⟩ (fun j oj hoj hlj e he hb => ?_) hS
    · rw [List.length_erase_of_mem (l2 i hij (gd_both h3))]; omega
    · rw [hnew k] at hkf
      by_cases hki : k = i
      · rw [if_pos hki] at hkf; cases hkf
      · rw [if_neg hki] at hkf
        exact (List.mem_erase_of_ne hki).2 (l2 k hk hkf)
    · rw [hnew j] at hlj
      rw [hnew e.on]
      by_cases hji : j = i
      · subst hji
        rw [hoj] at ho
        injection ho with ho
        subst ho
        split
        · rfl
        · exact h4 e he hb
      · rw [if_neg hji] at hlj
        split
        · rfl
        · exact hcl j oj hoj hlj e he hb
end
end Go.Fm
/-
  Code, and calls: what the interpreter says is so.
-/
set_option linter.unusedSimpArgs false
set_option linter.unusedVariables false
namespace Go.Fm
open Go
theorem RVs.of {g : Gh} {w : World} {S : Nat → Nat → Prop} : ∀ (as : List AV) (vs : List Value), vs.length = as.length → (∀ (s : Nat) (x : AV), as[s]? = some x → ∃ u, vs[s]? = some u ∧ RV g w S u x) → RVs g w S vs as
  | [], vs, hl, h => by
    have : vs = [] := List.eq_nil_of_length_eq_zero (by simpa using hl)
    subst this
    exact .nil
  | a :: as, [], hl, h => by simp at hl
  | a :: as, v :: vs, hl, h => by
    obtain ⟨u, h1, h2⟩ := h 0 a (by simp)
    simp at h1
    subst h1
    exact .cons _ _ _ _ h2 (RVs.of as vs (by simpa using hl) (fun s x hx => by
      obtain ⟨u', h3, h4⟩ := h (s + 1) x (by simpa using hx)
      exact ⟨u', by simpa using h3, h4⟩))
section
variable {C : Cfg} {cf : CallFn} {S0 : Nat → Nat → Prop} {g : Gh} {w : World} {H H' : Heap} {e e' : Env} {a : Act}
theorem freezeAll_ok : ∀ (l : List (Bool × Nat)) (H H' : Heap) (g : Gh), Ok C S0 g w H → freezeAll l H = some H' → ∃ g', Ok C S0 g' w H' ∧ Step g w g' w
  | [], H, H', g, hO, h => by simp only [freezeAll, Option.some.injEq] at h; subst h; exact ⟨g, hO, Step.refl g w⟩
  | (b, id) :: l, H, H', g, hO, h => by
    simp only [freezeAll] at h
    split at h
    · rename_i c H1 hc
      have key : ∃ cs, RA g w (g.St S0) cs (if b = true then .os id else .ov id [] 0) := by
        cases b with
        | false =>
          have hs : (g.G id).isSome = true := by
            rw [hO.heap]
            simp only [Bool.false_eq_true, if_false] at hc
            unfold toC at hc
            simp only [if_true] at hc
            split at hc
            · rename_i hb; simp [get, hb]
            · rename_i hb; simp [get, hb]
            · simp at hc
          exact ⟨_, .ov id [] 0 hs⟩
        | true =>
          have hs : ∃ bk, H[id]? = some bk := by
            simp only [if_true] at hc
            unfold toC at hc
            simp only at hc
            split at hc
            · rename_i hb; exact ⟨_, hb⟩
            · rename_i hb; exact ⟨_, hb⟩
            · simp at hc
          obtain ⟨bk, hb⟩ := hs
          have hG : g.G id = some bk := by rw [hO.heap]; exact hb
          cases hl : bk.len? with
          | none => exact ⟨_, .os id none 0 0 (by rw [hG]; rfl) (fun m hm => by rw [hG] at hm; simp [hl] at hm)⟩
          | some m =>
            by_cases hv : g.vt id = true
            · exact ⟨_, .os id none 0 0 (by rw [hG]; rfl) (fun m hm => by rw [rowVal_virt hv])⟩
            · have hv' : g.vt id = false := by simpa using hv
              exact ⟨_, .os id _ m (g.κ id) (by rw [hG]; rfl) (fun m' hm => by
                rw [hG] at hm
                simp only [Option.bind_some, hl, Option.some.injEq] at hm
                subst hm
                rw [rowVal_real hv'])⟩
      obtain ⟨cs, hcs⟩ := key
      obtain ⟨g1, k1, k2, _⟩ := toC_ok 8 H _ c H1 hc g w cs hO hcs
      obtain ⟨g2, m1, m2⟩ := freezeAll_ok l H1 H' g1 k1 h
      exact ⟨g2, m1, k2.trans m2⟩
    · simp at h
theorem drawPass_ok (hcf : CfOk C cf) (hm : C.P.follows .mixedOrders = true) {ops : Array Oper} {hist : List Trail} {id : Nat} {Q : Exit → Act → World → Prop} (hord : orderOK ops (ancsFrom ops.toList []) = true)
    (h : drawOps C cf ops.toList ops.toList [] e H = some (e', H', hist)) (hfree : clashFree (ancsFrom ops.toList []) hist = true) (hO : Ok C S0 g w H) (he : REnv g w (g.St S0) a e)
    (hQ : ∀ a' w' g', Ok C S0 g' w' H' → Step g w g' w' → REnv g' w' (g'.St S0) a' e' → a'.defers = a.defers → Q .normal a' w') : (Code.region id ops true).wp C.P Q a w := by
  obtain ⟨h1, E, Hs, h2, h3, h4, h5, h6, h7⟩ := drawOps_trace ops.toList [] e H e' H' hist h
  simp only [List.length_nil, Nat.zero_add, Array.length_toList] at h1 h2 h3 h4 h5 h7
  let T : Nat → Trail := fun j => (hist[j]?).getD (false, [], 0, 0)
  have hTj : ∀ j, j < ops.size → hist[j]? = some (T j) := fun j hj => by simp [T, List.getElem?_eq_getElem (show j < hist.length by omega)]
  have hT : Tr C cf ops E Hs T := {
    step := fun j o ho => by
      obtain ⟨t, k1, k2⟩ := h7 j o (by simpa using ho)
      have hj : j < ops.size := (Array.getElem?_eq_some_iff.1 ho).1
      rw [hTj j hj] at k1
      injection k1 with k1
      rw [k1]; exact k2
    order := hord
    clash := fun j k hj hk => by
      have h8 := List.all_eq_true.1 hfree j (List.mem_range.2 (by omega))
      have h9 := List.all_eq_true.1 h8 k (List.mem_range.2 hk)
      rw [hTj j hj, hTj k (by omega)] at h9
      simpa using h9 }
  have hlen := RVs.length he
  have hsize : ∀ m, m ≤ ops.size → (E m).length = a.tmps.size := by
    intro m
    induction m with
    | zero => intro _; rw [h2, ← hlen]; simp
    | succ m ih => intro hmn; rw [(hT.facts hcf (by omega)).2.2.2.2.2.2, ih (by omega)]
  have canH : ∀ id m, m < ops.size → wrB T m id = false → get (Hs (m + 1)) id = get (Hs m) id := fun id m hm => (hT.facts hcf hm).2.2.2.2.1 id
  have canE : ∀ s m, m < ops.size → dstIs ops m s = false → (E (m + 1))[s]? = (E m)[s]? := fun s m hm => (hT.facts hcf hm).2.2.2.2.2.1 s
  refine wp_region_any hm ?_
  have hlike : Like w { w with drawn := w.drawn + 1 } := ⟨rfl, rfl, rfl, rfl⟩
  have hO1 := hO.like hlike
  have hst1 : Step g w g { w with drawn := w.drawn + 1 } := Step.like hlike
  refine SI_any (S0 := S0) (g0 := g) (w0 := w) (a0 := a) hT hcf hsize (fun a' w' hSI => ?_) ops.size _ a _ (by simp) ⟨List.range ops.size, by simp, fun i hi _ => List.mem_range.2 hi⟩ (fun j o _ hl => by
    exfalso
    rcases Nat.lt_or_ge j ops.size with h | h
    · simp [Array.getD_eq_getD_getElem?, h] at hl
    · simp [Array.getD_eq_getD_getElem?, h] at hl) ⟨g, hO1.inv, hO1.real, hO1.gl, hst1, fun id => ?_, rfl, fun s x hx => ?_, rfl⟩
  · obtain ⟨g', hI, hR, hgl, hst, hG, hsz, hs, hdf⟩ := hSI
    have hG' : g'.G = get H' := by
      funext id
      rw [hG id, val_read ops.size (Nat.le_refl _) (canH id) (fun k hk _ => by simp), h5]
    refine hQ a' w' g' ⟨hI, hR, hgl, hG'⟩ hst (RVs.of e' a'.tmps.toList ?_ fun s x hx => ?_) hdf
    · rw [← h4, hsize ops.size (Nat.le_refl _), ← hsz]; simp
    · obtain ⟨u, k1, k2⟩ := hs s x (by
        rw [val_read ops.size (Nat.le_refl _) (canE s) (fun k hk _ => by simp), h4]
        exact hx)
      exact ⟨u, by simpa using k1, k2⟩
  · rw [val_read ops.size (Nat.zero_le _) (canH id) (fun k hk _ => by
      simp [Array.getD_eq_getD_getElem?, hk]), h3, hO.heap]
  · rw [val_read ops.size (Nat.zero_le _) (canE s) (fun k hk _ => by
      simp [Array.getD_eq_getD_getElem?, hk]), h2] at hx
    obtain ⟨u, k1, k2⟩ := RVs.get he s x hx
    exact ⟨u, by simpa using k1, k2.step hst1 (hst1.stays S0)⟩
theorem execDraw_ok (hcf : CfOk C cf) (hm : C.P.follows .mixedOrders = true) {ops : Array Oper} (hord : orderOK ops (ancsFrom ops.toList []) = true) {id : Nat} {Q : Exit → Act → World → Prop} (h : execDraw C cf ops e H = some (e', H')) (hO : Ok C S0 g w H) (he : REnv g w (g.St S0) a e)
    (hQ : ∀ a' w' g', Ok C S0 g' w' H' → Step g w g' w' → REnv g' w' (g'.St S0) a' e' → a'.defers = a.defers → Q .normal a' w') : (Code.region id ops true).wp C.P Q a w := by
  unfold execDraw at h
  split at h
  · rename_i e1 H1 hist hd
    split at h
    · rename_i hfree
      simp only [Option.some.injEq, Prod.mk.injEq] at h
      obtain ⟨rfl, rfl⟩ := h
      exact drawPass_ok hcf hm hord hd hfree hO he hQ
    · split at h
      · rename_i H0 hfr
        obtain ⟨g1, k1, k2⟩ := freezeAll_ok _ H H0 g hO hfr
        split at h
        · rename_i e2 H2 hist2 hd2
          split at h
          · rename_i hfree
            simp only [Option.some.injEq, Prod.mk.injEq] at h
            obtain ⟨rfl, rfl⟩ := h
            exact drawPass_ok hcf hm hord hd2 hfree k1 (RVs.step k2 (k2.stays S0) he) (fun a' w' g' m1 m2 m3 m4 => hQ a' w' g' m1 (k2.trans m2) m3 m4)
          · simp at h
        · simp at h
      · simp at h
  · simp at h
theorem execOps_ok (hcf : CfOk C cf) {ops : Array Oper} {Q : Exit → Act → World → Prop} : ∀ (l : List Oper) (e : Env) (H : Heap) (a : Act) (w : World) (g : Gh), execOps C cf ops.toList l e H = some (e', H') → Ok C S0 g w H → REnv g w (g.St S0) a e →
    (∀ a' w' g', Ok C S0 g' w' H' → Step g w g' w' → REnv g' w' (g'.St S0) a' e' → a'.defers = a.defers → Q .normal a' w') → wpList C.P ops Q l a w
  | [], e, H, a, w, g, h, hO, he, hQ => by
    simp only [execOps, Option.some.injEq, Prod.mk.injEq] at h
    obtain ⟨rfl, rfl⟩ := h
    exact hQ a w g hO (Step.refl g w) he rfl
  | o :: l, e, H, a, w, g, h, hO, he, hQ => by
    simp only [execOps] at h
    have hw : ∀ b, wantedA ops.toList e o = some b → Region.wanted o (yielded ops a.tmps) = b := fun b hb => wanted_ok (g := g) (w := w) (S := g.St S0) hb fun s x _ hx => by
      obtain ⟨u, k1, k2⟩ := RVs.get he s x hx
      exact ⟨u, by simpa using k1, k2⟩
    have fin : ∀ (u : Value) (w1 : World) (g1 : Gh) (v : AV) (H1 : Heap), execOps C cf ops.toList l (putE e o.dst v) H1 = some (e', H') → Ok C S0 g1 w1 H1 → Step g w g1 w1 → RV g1 w1 (g1.St S0) u v → wpList C.P ops Q l (a.put o.dst u) w1 := by
      intro u w1 g1 v H1 hx k1 k2 k3
      exact execOps_ok hcf l _ H1 _ w1 g1 hx k1 (REnv.put (RVs.step k2 (k2.stays S0) he) k3 o.dst) (fun a' w' g' m1 m2 m3 m4 => hQ a' w' g' m1 (k2.trans m2) m3 (by rw [m4, (put_tmps a o.dst u).2.1]))
    unfold wpList
    split at h
    · rename_i hwa
      rw [hw true hwa, if_pos rfl]
      split at h
      · rename_i v H1 hst
        left
        unfold Oper.wp
        have hrev : REv C e a.eval o g w (g.St S0) := fun x _ t v hv => ev_RV he hO.gl hv
        rcases astep_ok hcf hO hrev hst with ⟨u, w3, g3, k0, k1, k2, k3⟩ | ⟨f, us, k0, k1⟩
        · rcases k0 with k0 | ⟨k0, rfl⟩
          · rw [k0]; exact fin u w3 g3 v H1 h k1 k2 k3
          · rw [k0]; exact fin undef w3 g3 v H1 h k1 k2 k3
        · rw [k0]
          refine Calls.mono k1 fun e w3 hh => ?_
          obtain ⟨u, g3, rfl, k1, k2, k3⟩ := hh
          exact fin u w3 g3 v H1 h k1 k2 k3
      · simp at h
    · rename_i hwa
      rw [hw false hwa, if_neg (by simp)]
      exact fin undef w g AV.undef H h hO (Step.refl g w) RV_undef
    · simp at h
def AExit.to : AExit → Exit
  | .normal => .normal
  | .exit id => .exit id
  | .ret => .ret
end
end Go.Fm
/-
  Calls: what the interpreter says of a function is so.
-/
set_option linter.unusedSimpArgs false
set_option linter.unusedVariables false
namespace Go.Fm
open Go
section
variable {C : Cfg} {cf : CallFn}
/-! ### What has been let go -/
theorem handC_keeps {keep : Bool} {H H' : Heap} {v v' : AV} (h : handC C keep H v = some (v', H')) : Keeps H H' := by
  cases v with
  | os id =>
    simp only [handC] at h
    split at h
    · simp only [Option.some.injEq, Prod.mk.injEq] at h; rw [h.2]; exact .refl _
    · split at h
      · rename_i hc
        simp only [Option.some.injEq, Prod.mk.injEq] at h
        rw [← h.2]; exact toC_keeps _ _ _ _ _ hc
      · simp at h
  | ov id p off =>
    simp only [handC] at h
    split at h
    · split at h
      · split at h
        · rename_i hc
          simp only [Option.some.injEq, Prod.mk.injEq] at h
          rw [← h.2]; exact toC_keeps _ _ _ _ _ hc
        · simp at h
      · simp only [Option.some.injEq, Prod.mk.injEq] at h; rw [h.2]; exact .refl _
    · split at h
      · rename_i hc
        simp only [Option.some.injEq, Prod.mk.injEq] at h
        rw [← h.2]; exact toC_keeps _ _ _ _ _ hc
      · simp at h
    · simp only [Option.some.injEq, Prod.mk.injEq] at h; rw [h.2]; exact .refl _
  | agg l =>
    simp only [handC] at h
    split at h
    · rename_i hc
      simp only [Option.some.injEq, Prod.mk.injEq] at h
      rw [← h.2]; exact toC_keeps _ _ _ _ _ hc
    · simp at h
  | any => simp [handC] at h
  | _ => simp only [handC, Option.some.injEq, Prod.mk.injEq] at h; rw [h.2]; exact .refl _
theorem handCs_keeps {keep : Bool} : ∀ (vs : List AV) (H H' : Heap) (vs' : List AV), handCs C keep H vs = some (vs', H') → Keeps H H'
  | [], H, H', vs', h => by simp only [handCs, Option.some.injEq, Prod.mk.injEq] at h; rw [h.2]; exact .refl _
  | v :: vs, H, H', vs', h => by
    simp only [handCs] at h
    split at h
    · rename_i v1 H1 h1
      split at h
      · rename_i vs1 H2 h2
        simp only [Option.some.injEq, Prod.mk.injEq] at h
        rw [← h.2]
        exact (handC_keeps h1).trans (handCs_keeps vs _ _ _ h2)
      · simp at h
    · simp at h
theorem execOps_keeps (hcf : ∀ f args H v H', cf f args H = some (v, H') → Keeps H H') {all : List Oper} : ∀ (l : List Oper) (e : Env) (H : Heap) (e' : Env) (H' : Heap), execOps C cf all l e H = some (e', H') → Keeps H H'
  | [], e, H, e', H', h => by simp only [execOps, Option.some.injEq, Prod.mk.injEq] at h; rw [h.2]; exact .refl _
  | o :: l, e, H, e', H', h => by
    simp only [execOps] at h
    split at h
    · split at h
      · rename_i hst
        exact (astep_keeps hcf hst).trans (execOps_keeps hcf l _ _ _ _ h)
      · simp at h
    · exact execOps_keeps hcf l _ _ _ _ h
    · simp at h
theorem drawOps_keeps (hcf : ∀ f args H v H', cf f args H = some (v, H') → Keeps H H') {all : List Oper} : ∀ (l : List Oper) (hist : List Trail) (e : Env) (H : Heap) (e' : Env) (H' : Heap) (hist' : List Trail), drawOps C cf all l hist e H = some (e', H', hist') → Keeps H H'
  | [], hist, e, H, e', H', hist', h => by simp only [drawOps, Option.some.injEq, Prod.mk.injEq] at h; rw [h.2.1]; exact .refl _
  | o :: l, hist, e, H, e', H', hist', h => by
    simp only [drawOps] at h
    split at h
    · rename_i e1 H1 t hst
      refine Keeps.trans ?_ (drawOps_keeps hcf l _ _ _ _ _ _ h)
      rcases drawStep_spec hst with ⟨_, _, h3, _⟩ | ⟨_, _, _, _, _, _, h3, _⟩ | ⟨_, rs, q, F, v, F', hrs, hq, hF, hstep, _, _, _, _, _, _, h3, _⟩
      · rw [h3]; exact .refl _
      · rw [h3]; exact .refl _
      · have hk := astep_keeps hcf hstep
        rw [hF] at hk
        have hle : H.length ≤ F'.length := by have := hk.1; rwa [killFrom_len] at this
        rw [h3]
        refine ⟨by rw [restFrom_len q 0 H F' hle]; exact hle, fun id b hb hok => ?_⟩
        rw [restFrom_get q 0 H F' id hle, Nat.zero_add]
        cases hqi : q id with
        | true => rw [if_pos ⟨(List.getElem?_eq_some_iff.1 hb).1, rfl⟩]; exact hb
        | false =>
          rw [if_neg (by simp)]
          exact hk.2 id b (by rw [killFrom_get, Nat.zero_add, hqi]; simpa using hb) hok
    · simp at h
theorem freezeAll_keeps : ∀ (l : List (Bool × Nat)) (H H' : Heap), freezeAll l H = some H' → Keeps H H'
  | [], H, H', h => by simp only [freezeAll, Option.some.injEq] at h; rw [h]; exact .refl _
  | (b, id) :: l, H, H', h => by
    simp only [freezeAll] at h
    split at h
    · rename_i hc
      exact (toC_keeps _ _ _ _ _ hc).trans (freezeAll_keeps l _ _ h)
    · simp at h
theorem execDraw_keeps (hcf : ∀ f args H v H', cf f args H = some (v, H') → Keeps H H') {ops : Array Oper} {e e' : Env} {H H' : Heap} (h : execDraw C cf ops e H = some (e', H')) : Keeps H H' := by
  unfold execDraw at h
  split at h
  · rename_i hd
    split at h
    · simp only [Option.some.injEq, Prod.mk.injEq] at h
      rw [← h.2]; exact drawOps_keeps hcf _ _ _ _ _ _ _ hd
    · split at h
      · rename_i hfr
        split at h
        · rename_i hd2
          split at h
          · simp only [Option.some.injEq, Prod.mk.injEq] at h
            rw [← h.2]; exact (freezeAll_keeps _ _ _ hfr).trans (drawOps_keeps hcf _ _ _ _ _ _ _ hd2)
          · simp at h
        · simp at h
      · simp at h
  · simp at h
/-! ### Handed on -/
variable {S0 : Nat → Nat → Prop}
theorem handC_ok {keep : Bool} {H H' : Heap} {v v' : AV} {g : Gh} {w : World} {u : Value} (hO : Ok C S0 g w H) (hu : RV g w (g.St S0) u v) (h : handC C keep H v = some (v', H')) : ∃ g', Ok C S0 g' w H' ∧ Step g w g' w ∧ RV g' w (g'.St S0) u v' := by
  cases v with
  | os id =>
    simp only [handC] at h
    split at h
    · simp only [Option.some.injEq, Prod.mk.injEq] at h
      obtain ⟨rfl, rfl⟩ := h
      exact ⟨g, hO, Step.refl g w, hu⟩
    · split at h
      · rename_i hc
        simp only [Option.some.injEq, Prod.mk.injEq] at h
        obtain ⟨rfl, rfl⟩ := h
        exact toCV hO hu (by simp) hc
      · simp at h
  | ov id p off =>
    simp only [handC] at h
    split at h
    · split at h
      · split at h
        · rename_i hc
          simp only [Option.some.injEq, Prod.mk.injEq] at h
          obtain ⟨rfl, rfl⟩ := h
          exact toCV hO hu (by simp) hc
        · simp at h
      · simp only [Option.some.injEq, Prod.mk.injEq] at h
        obtain ⟨rfl, rfl⟩ := h
        exact ⟨g, hO, Step.refl g w, hu⟩
    · split at h
      · rename_i hc
        simp only [Option.some.injEq, Prod.mk.injEq] at h
        obtain ⟨rfl, rfl⟩ := h
        exact toCV hO hu (by simp) hc
      · simp at h
    · simp only [Option.some.injEq, Prod.mk.injEq] at h
      obtain ⟨rfl, rfl⟩ := h
      exact ⟨g, hO, Step.refl g w, hu⟩
  | agg l =>
    simp only [handC] at h
    split at h
    · rename_i hc
      simp only [Option.some.injEq, Prod.mk.injEq] at h
      obtain ⟨rfl, rfl⟩ := h
      exact toCV hO hu (by simp) hc
    · simp at h
  | any => simp [handC] at h
  | _ =>
    simp only [handC, Option.some.injEq, Prod.mk.injEq] at h
    obtain ⟨rfl, rfl⟩ := h
    exact ⟨g, hO, Step.refl g w, hu⟩
theorem handCs_ok {keep : Bool} : ∀ (vs : List AV) (us : List Value) (H H' : Heap) (vs' : List AV) (g : Gh) (w : World), Ok C S0 g w H → RVs g w (g.St S0) us vs → handCs C keep H vs = some (vs', H') →
    ∃ g', Ok C S0 g' w H' ∧ Step g w g' w ∧ RVs g' w (g'.St S0) us vs'
  | [], us, H, H', vs', g, w, hO, hu, h => by
    simp only [handCs, Option.some.injEq, Prod.mk.injEq] at h
    obtain ⟨rfl, rfl⟩ := h
    exact ⟨g, hO, Step.refl g w, hu⟩
  | v :: vs, us, H, H', vs', g, w, hO, hu, h => by
    cases hu with
    | cons u us _ _ h0 hs =>
      simp only [handCs] at h
      split at h
      · rename_i v1 H1 h1
        split at h
        · rename_i vs1 H2 h2
          simp only [Option.some.injEq, Prod.mk.injEq] at h
          obtain ⟨rfl, rfl⟩ := h
          obtain ⟨g1, k1, k2, k3⟩ := handC_ok hO h0 h1
          obtain ⟨g2, m1, m2, m3⟩ := handCs_ok vs us H1 H2 vs1 g1 w k1 (hs.step k2 (k2.stays S0)) h2
          exact ⟨g2, m1, k2.trans m2, .cons _ _ _ _ (k3.step m2 (m2.stays S0)) m3⟩
        · simp at h
      · simp at h
theorem loadVar_of {P : Program} {t : TypeId} {p u : Value} {w w' : World} (h : (Instr.loadAt t p).run P w = .ok u w') : (do loadVar t (← asAddr p)).run P w = .ok u w' := by
  cases p with
  | pointer a =>
    cases a with
    | none => simp [Instr.loadAt, Instr.sureAddr] at h
    | some a => simpa [Instr.loadAt, Instr.sureAddr, asAddr] using h
  | _ => simp [Instr.loadAt, Instr.sureAddr] at h
def resRun (a : Act) : ResultVar → Sem Value
  | .tmp t => Pure.pure (a.tmps.getD t undef)
  | .cell b t => do loadVar t (← asAddr (a.tmps.getD b undef))
theorem results_ok {g : Gh} {w : World} {H : Heap} {a : Act} {e : Env} (hO : Ok C S0 g w H) (he : REnv g w (g.St S0) a e) : ∀ (rs : List ResultVar) (vs : List AV), resultsOf C e H rs = some vs →
    ∃ us, (rs.mapM (resRun a)).run C.P w = .ok us w ∧ RVs g w (g.St S0) us vs
  | [], vs, h => by simp only [resultsOf, Option.some.injEq] at h; subst h; exact ⟨[], by simp, .nil⟩
  | .tmp t :: rs, vs, h => by
    simp only [resultsOf] at h
    split at h
    · rename_i v vs' h1 h2
      simp only [Option.some.injEq] at h
      subst h
      obtain ⟨us, k1, k2⟩ := results_ok hO he rs vs' h2
      obtain ⟨u, m1, m2⟩ := RVs.get he t v h1
      have hu : a.tmps.getD t undef = u := by
        have : a.tmps[t]? = some u := by simpa using m1
        simp [Array.getD_eq_getD_getElem?, this]
      exact ⟨u :: us, by simp [List.mapM_cons, resRun, hu, k1], .cons _ _ _ _ m2 k2⟩
    · simp at h
  | .cell b t :: rs, vs, h => by
    simp only [resultsOf] at h
    split at h
    · rename_i p h1
      split at h
      · rename_i v vs' h2 h3
        simp only [Option.some.injEq] at h
        subst h
        obtain ⟨us, k1, k2⟩ := results_ok hO he rs vs' h3
        obtain ⟨pu, m1, m2⟩ := RVs.get he b p h1
        have hu : a.tmps.getD b undef = pu := by
          have : a.tmps[b]? = some pu := by simpa using m1
          simp [Array.getD_eq_getD_getElem?, this]
        obtain ⟨u, l1, l2⟩ := aload_run hO m2 h2
        have l3 := loadVar_of l1
        exact ⟨u :: us, by rw [List.mapM_cons, Sem.run_bind, resRun, hu, l3]; simp [k1], .cons _ _ _ _ l2 k2⟩
      · simp at h
    · simp at h
theorem tupOf_RV {g : Gh} {w : World} {S : Nat → Nat → Prop} {us : List Value} {vs : List AV} (h : RVs g w S us vs) : RV g w S (if hs : us.toArray.size = 1 then us.toArray[0] else .tuple us.toArray) (tupOf vs) := by
  cases h with
  | nil => exact .tup [] [] .nil
  | cons u us v vs h hs =>
    cases hs with
    | nil => exact h
    | cons u2 us2 v2 vs2 h2 hs2 =>
      have : ¬ ((u :: u2 :: us2).toArray.size = 1) := by simp
      rw [dif_neg this]
      exact .tup _ _ (.cons _ _ _ _ h (.cons _ _ _ _ h2 hs2))
end
end Go.Fm
/-
  Calls, second part: callF is sound.
-/
set_option linter.unusedSimpArgs false
set_option linter.unusedVariables false
namespace Go.Fm
open Go
/-- What is to be known of a function that the interpreter does not walk. -/
structure PrimOk (C : Cfg) (f : FuncId) (p : List AV → Heap → Option (AV × Heap)) : Prop where
  keeps : ∀ args H v H', p args H = some (v, H') → Keeps H H'
  fn : ∃ fn c, C.P.funcs[f]? = some fn ∧ fn.body = some c ∧ (fn.name == "runtime.NumGoroutine") = false
  run : ∀ args H v H', p args H = some (v, H') → ∀ (S0 : Nat → Nat → Prop) (g : Gh) (w : World) (us : List Value), Ok C S0 g w H → RVs g w (g.St S0) us args → CallsV C S0 g w H' v f us.toArray
section
variable {C : Cfg} {S0 : Nat → Nat → Prop}
end
end Go.Fm
/-
  A call from nothing: the world's old blocks stay.
-/
set_option linter.unusedSimpArgs false
set_option linter.unusedVariables false
namespace Go.Fm
open Go
/-- The old world stays as it was. -/
structure Kept (w w' : World) : Prop where
  size : w.heap.size ≤ w'.heap.size
  heap : ∀ b, b < w.heap.size → w'.heap[b]? = w.heap[b]?
  os : w'.os = w.os
  tape : w'.tape = w.tape
  output : w'.output = w.output
def Gh.start : Gh := ⟨fun _ => 0, fun _ => 0, fun _ => 0, fun _ => true, get []⟩
def All (_ _ : Nat) : Prop := True
theorem start_St (b o : Nat) : Gh.start.St All b o := ⟨trivial, fun id blk h => by simp [Gh.start, get] at h⟩
theorem start_ok {C : Cfg} {w : World} (hgl : ∀ n v, C.gl n = some v → ∃ cs, Here w All n 0 cs ∧ RC w All cs v) : Ok C All Gh.start w [] where
  inv := ⟨fun id b h => by simp [Gh.start, get] at h, fun id b h => by simp [Gh.start, get] at h, fun i bi j bj h => by simp [Gh.start, get] at h, fun _ _ _ => trivial, fun id b h => by simp [Gh.start, get] at h⟩
  real := fun id b h => by simp [Gh.start, get] at h
  gl := fun n v h => by
    obtain ⟨cs, h1, h2⟩ := hgl n v h
    have k : Stays w All w (Gh.start.St All) := fun b o v hc _ => ⟨hc, start_St b o, fun h => h, fun _ q => start_St b q⟩
    exact ⟨cs, h1.stays k, h2.stays k⟩
  heap := rfl
end Go.Fm
/-
  What a law's row asks, of a call that keeps the old world.
-/
set_option linter.unusedSimpArgs false
set_option linter.unusedVariables false
namespace Go.Fm
open Go Go.ChangeShapes Go.WideShapes
theorem Kept.keptBut {w w' : World} (h : Kept w w') (may : MemPlace → Prop) : w.keptBut w' may := by
  refine ⟨h.os, h.output, fun i hi => ?_⟩
  rw [h.heap i hi]
  cases hb : w.heap[i]? with
  | none => simp
  | some o => cases o <;> simp
theorem Kept.frozen {w w' : World} (h : Kept w w') (a : Addr) (ha : a.block < w.heap.size) : w'.frozen? a = w.frozen? a := by simp [World.frozen?, h.heap _ ha]
theorem post_of_kept {H : Type} {enc : TypeId × Value → H} {P : Program} {f : Func} {s : ChangeSpec} {apart fresh handsOn again : Bool} {W W' : World} {args : Array Value} {v : Value} {ds gs : List (DataW H)} {before pa pv : List MemPlace}
    (hW : DataW.Whole enc P f.params.toList s.vars apart W args.toList ds gs before)
    (hres : ∀ (b : Nat) (sp : Nat → Bool) (hd : Bool), DataW.TrodAll enc P W' b sp hd f.resultTypes.toList (v.resultList f.resultTypes.size) (s.fn H (ds ++ gs)).results [])
    (hargs : ∀ sp : Nat → Bool, (∀ p ∈ before, sp p.block = true) → DataW.TrodAll enc P W' 0 sp true f.params.toList args.toList (s.fn H (ds ++ gs)).args pa)
    (hvars : ∀ sp : Nat → Bool, (∀ p ∈ before, sp p.block = true) → DataW.TrodVars enc P W' sp s.vars (s.fn H (ds ++ gs)).vars pv)
    (hps : before = pa ++ pv) (hk : Kept W W')
    (hok : ∀ (j : Nat) (t : TypeId) (r : Value), f.resultTypes[j]? = some t → (v.resultList f.resultTypes.size)[j]? = some r → Value.okWide P W' .any 0 t r) :
    s.post enc P f apart fresh handsOn again W args v W' := by
  have hold : ∀ p ∈ before, (fun b => decide (b < W.heap.size)) p.block = true := fun p hp => by simpa using hW.lt p hp
  have hlt : ∀ p ∈ before, p.block < W.heap.size := fun p hp => hW.lt p hp
  refine ⟨ds, gs, before, [], pa, pv, hW, hres _ _ _, hargs _ hold, hvars _ hold, World.keptBut_mono (fun p hp => ⟨hp, ?_⟩) (hk.keptBut (· ∈ before)), fun _ => ?_⟩
  · rw [hps, List.mem_append] at hp
    exact Or.inr hp
  · obtain ⟨_, _, _, _, _, hz, hn⟩ := hW
    refine ⟨hok, _, _, ([] ++ pa) ++ pv, ⟨[] ++ pa, pv, trodAll_append (hargs _ (fun _ _ => rfl)) (hres _ _ _), hvars _ (fun _ _ => rfl), rfl, ?_, ?_⟩, ?_⟩
    · intro b off hp
      have hp' : MemPlace.cell b off ∈ before := by rw [hps]; simpa using hp
      rw [hk.frozen _ (hlt _ hp')]
      exact hz b off hp'
    · intro ha
      have := hn ha
      rw [hps] at this
      simpa using this
    · intro p hp _
      rw [hps]
      simpa using hp
end Go.Fm

/-
  A part of the proof: PSeg34.
-/
import Derived.Test.YtjmjijgnbjkpnaaDoorPSeg25
set_option linter.all false
set_option autoImplicit true
/-
  A loop that changes the bytes in a fresh row's elements (function 13, region 34).
-/
set_option maxRecDepth 100000
set_option linter.unusedVariables false
set_option linter.unusedSimpArgs false
namespace Go.Fm
open Go Go.Proofs Go.RowKit
noncomputable def seg13_34 : Code := nav [1, 1, 1, 1, 1, 0, 1, 0, 0, 1, 1, 0, 0, 1, 1, 1, 1, 1, 1, 1, 1, 0] (bodyOf Tryd.f13)
theorem und102r : Tryd.prog.underlying 102 = some (.slice 66) := by kernel_rfl
theorem info66e : (Tryd.prog.info? 66).map (fun i => (i.size, i.zero.map (fun z => z.cells.size))) = some (68, some 68) := by kernel_rfl
theorem fits66e : fits Tryd.prog 66 68 true = true := by kernel_rfl
theorem fld66_0 : ∃ fields fd i, Tryd.prog.underlying 66 = some (.struct fields) ∧ fields[0]? = some fd ∧ Tryd.prog.info? fd.type = some i ∧ i.size ≠ 0 ∧ fd.offset = 0 := by
  have h : (match Tryd.prog.underlying 66 with | some (.struct fields) => (match fields[0]? with | some fd => (match Tryd.prog.info? fd.type with | some i => decide (i.size ≠ 0) && decide (fd.offset = 0) | none => false) | none => false) | _ => false) = true := by kernel_rfl
  split at h
  · rename_i fields h1
    split at h
    · rename_i fd h2
      split at h
      · rename_i i h3
        simp only [Bool.and_eq_true, decide_eq_true_eq] at h
        exact ⟨fields, fd, i, h1, h2, h3, h.1, h.2⟩
      · cases h
    · cases h
  · cases h
set_option maxHeartbeats 4000000 in
theorem piece13_34 (b : Bool) : PieceOk (cfg b) pc13_34 seg13_34 := by
  intro S0 g w0 H a0 e Q vs hO he hvs hok hQ
  obtain ⟨fields, fd, fi, hfu, hff, hfi, hfz, hfo⟩ := fld66_0
  obtain ⟨ie, hie, hie1, ze, hze, hze1⟩ : ∃ ie, Tryd.prog.info? 66 = some ie ∧ ie.size = 68 ∧ ∃ z, ie.zero = some z ∧ z.cells.size = 68 := by
    have := info66e
    cases h : Tryd.prog.info? 66 with
    | none => rw [h] at this; cases this
    | some i =>
      rw [h] at this
      simp only [Option.map_some, Option.some.injEq, Prod.mk.injEq, Option.map_eq_some_iff] at this
      obtain ⟨h1, z, h2, h3⟩ := this
      exact ⟨i, rfl, h1, z, h2, h3⟩
  obtain ⟨ib, hib, hib1⟩ : ∃ i, Tryd.prog.info? 5 = some i ∧ i.size = 1 := by
    obtain ⟨i, h1, h2, h3, h4⟩ := info_parts info5
    exact ⟨i, h1, h3⟩
  have hT : 146 < a0.tmps.size := by
    simp only [pc13_34, projL] at hvs
    split at hvs
    · split at hvs
      · rename_i h2
        split at h2
        · rename_i v h3
          have h4 := (List.getElem?_eq_some_iff.1 h3).1
          have h5 := RVs.length he
          rw [Array.length_toList] at h5
          omega
        · cases h2
      · cases hvs
    · cases hvs
  have hus := projL_RVs he hvs
  obtain ⟨hc⟩ : Nonempty (Calls Tryd.prog 66 #[a0.eval (.tmp 8)] w0 fun e w' => ∃ a n c, e = .returned (.slice a n c) ∧ n ≤ maxLen ∧ Kept w0 w' ∧ (0 < n → ∃ hb ho ys, a = some ⟨hb, ho, none⟩ ∧ JInv w0 w' 68 0 hb ho n ys)) := by
    refine ⟨?_⟩
    cases hus with
    | cons u us v vs h1 hs =>
      exact row_calls hO hok (.cons _ _ _ _ h1 .nil)
  have F := SegF.refl a0 pc13_34.clob
  show Code.wp Tryd.prog seg13_34 Q a0 w0
  refine wp_seq (wp_region_lit ?_)
  refine sg_mv (x := .tmp 8) rfl rfl (.inl rfl) ?_
  intro a1 ha1
  have F := F.put ha1 (by decide)
  have hS : 146 < a1.tmps.size := by rw [F.sz]; exact hT
  have f125 := ha1.eq (by rw [← ha1.sz]; omega)
  refine sg_call (x := .tmp 125) rfl rfl Tryd.func66 rfl (by kernel_rfl) (by rw [f125]; exact hc) ?_
  rintro e1 w1 ⟨A, N, c, rfl, hN, hk1, hJ⟩
  refine ⟨_, rfl, ?_⟩
  obtain ⟨a2, ha2⟩ : ∃ a2, a2 = a1.put (some 126) (.slice A N c) := ⟨_, rfl⟩
  have ha2' : PutOf a1 126 (.slice A N c) a2 := by rw [ha2]; exact putOf _ _ _
  show wpList _ _ _ _ (a1.put (some 126) (.slice A N c)) w1
  rw [← ha2]
  have F := F.put ha2' (by decide)
  have hS : 146 < a2.tmps.size := by rw [F.sz]; exact hT
  have f126 := ha2'.eq (by rw [← ha2'.sz]; omega)
  refine sg_len (x := .tmp 126) (t := 102) (e := 66) (n := N) (c := c) (A := A) rfl rfl rfl und102r f126 ?_
  intro a3 ha3
  have F := F.put ha3 (by decide)
  have hS : 146 < a3.tmps.size := by rw [F.sz]; exact hT
  have f127 := ha3.eq (by rw [← ha3.sz]; omega)
  have f126 := (ha3.ne 126 (by decide)).trans f126
  refine sg_mv (x := .const (.int .i64 0)) rfl rfl (.inl rfl) ?_
  intro a4 ha4
  have F := F.put ha4 (by decide)
  have hS : 146 < a4.tmps.size := by rw [F.sz]; exact hT
  have f128 := ha4.eq (by rw [← ha4.sz]; omega)
  have f126 := (ha4.ne 126 (by decide)).trans f126
  have f127 := (ha4.ne 127 (by decide)).trans f127
  change a4.eval (.tmp 128) = .int .i64 ((0 : Nat) : Int) at f128
  refine wpList_nil ?_
  obtain ⟨hb, ho, ys, hJ⟩ : ∃ hb ho ys, 0 < N → A = some ⟨hb, ho, none⟩ ∧ JInv w0 w1 68 0 hb ho N ys := by
    rcases Nat.eq_zero_or_pos N with h | h
    · exact ⟨0, 0, [], fun h2 => absurd h2 (by omega)⟩
    · obtain ⟨hb, ho, ys, h1, h2⟩ := hJ h
      exact ⟨hb, ho, ys, fun _ => ⟨h1, h2⟩⟩
  show Code.wp _ (Code.block 10 (Code.loop _)) Q a4 w1
  refine wp_block (wp_loop_rounds (N + 1) ?_)
  clear hO he hvs hok hus hc
  refine (?_ : ∀ (r i : Nat) (a : Act) (w : World), i + r = N → SegF a0 pc13_34.clob a → a.eval (.tmp 126) = .slice A N c → a.eval (.tmp 127) = .int .i64 (N : Int) → a.eval (.tmp 128) = .int .i64 (i : Int) → Kept w0 w → (0 < N → A = some ⟨hb, ho, none⟩ ∧ JInv w0 w 68 0 hb ho N ys) → Code.rounds _ _ _ (r + 1) a w) N 0 a4 w1 (by omega) F f126 f127 f128 hk1 hJ
  clear F f126 f127 f128 hJ hk1
  intro r
  induction r with
  | zero =>
    intro i a50 w hir F f126 f127 f128 hk hJ
    rw [rounds_succ]
    have hS : 146 < a50.tmps.size := by rw [F.sz]; exact hT
    refine wp_seq (wp_region_lit ?_)
    refine sg_put (x := do eqGuard .lss 3 (.tmp 128) (.tmp 127) (a50.eval (.tmp 128)) (a50.eval (.tmp 127)); binOp .lss 3 (a50.eval (.tmp 128)) (a50.eval (.tmp 127))) rfl rfl rfl (by rw [f128, f127]; exact run_lss _ _ _ _) ?_
    intro a51 ha51
    have F := F.put ha51 (by decide)
    have hS : 146 < a51.tmps.size := by rw [F.sz]; exact hT
    have f129 := ha51.eq (by rw [← ha51.sz]; omega)
    have f126 := (ha51.ne 126 (by decide)).trans f126
    have f127 := (ha51.ne 127 (by decide)).trans f127
    have f128 := (ha51.ne 128 (by decide)).trans f128
    refine wpList_nil ?_
    refine wp_seq ?_
    refine wp_cond_false (f129.trans (by simp only [Value.bool.injEq, decide_eq_false_iff_not]; omega)) (wp_exit ?_)
    show Exit.inBlock 10 Q (.exit 10) _ _
    simp only [Exit.inBlock, if_true]
    exact hQ _ _ hk F.sz F.same F.defers
  | succ r ih =>
    intro i a50 w hir F f126 f127 f128 hk hJ
    rw [rounds_succ]
    have hS : 146 < a50.tmps.size := by rw [F.sz]; exact hT
    refine wp_seq (wp_region_lit ?_)
    refine sg_put (x := do eqGuard .lss 3 (.tmp 128) (.tmp 127) (a50.eval (.tmp 128)) (a50.eval (.tmp 127)); binOp .lss 3 (a50.eval (.tmp 128)) (a50.eval (.tmp 127))) rfl rfl rfl (by rw [f128, f127]; exact run_lss _ _ _ _) ?_
    intro a51 ha51
    have F := F.put ha51 (by decide)
    have hS : 146 < a51.tmps.size := by rw [F.sz]; exact hT
    have f129 := ha51.eq (by rw [← ha51.sz]; omega)
    have f126 := (ha51.ne 126 (by decide)).trans f126
    have f127 := (ha51.ne 127 (by decide)).trans f127
    have f128 := (ha51.ne 128 (by decide)).trans f128
    refine wpList_nil ?_
    refine wp_seq ?_
    have hiN : i < N := by omega
    obtain ⟨rfl, J⟩ := hJ (by omega)
    refine wp_cond_true (f129.trans (by simp only [Value.bool.injEq, decide_eq_true_eq]; omega)) (wp_skip ?_)
    refine wp_seq (wp_block (wp_seq (wp_region_lit ?_)))
    refine sg_put (v := .pointer (some ⟨hb, ho + i * 68, none⟩)) (x := Instr.indexAt 102 (a51.eval (.tmp 126)) (a51.eval (.tmp 128))) rfl rfl rfl (by rw [f126, f128, run_index' und102r hie (by omega) (by omega), addr_add, hie1, Int.toNat_natCast]) ?_
    intro a52 ha52
    have F := F.put ha52 (by decide)
    have hS : 146 < a52.tmps.size := by rw [F.sz]; exact hT
    have f130 := ha52.eq (by rw [← ha52.sz]; omega)
    have f126 := (ha52.ne 126 (by decide)).trans f126
    have f127 := (ha52.ne 127 (by decide)).trans f127
    have f128 := (ha52.ne 128 (by decide)).trans f128
    have f129 := (ha52.ne 129 (by decide)).trans f129
    obtain ⟨cs, hcs1, hcs2, hcs3⟩ := cells_of (w := w) (b := hb) (o := ho + i * 68) 68 (fun q hq => by
      have := J.row i hiN q hq
      rwa [← Nat.add_assoc] at this)
    obtain ⟨y, hy⟩ : ∃ y, ys[i]? = some y := ⟨_, List.getElem?_eq_getElem (by rw [J.len]; exact hiN)⟩
    obtain ⟨hy1, hy2⟩ := J.key i y hy
    have hyk : cs[0]? = some y := by
      have h1 : 0 < cs.length := by omega
      have h2 := hcs2 0 _ (List.getElem?_eq_getElem h1)
      rw [← Nat.add_assoc] at hy1
      rw [hy1] at h2
      rw [List.getElem?_eq_getElem h1]
      exact h2.symm
    refine sg_put (v := .agg cs.toArray) (x := Instr.loadAt 66 (a52.eval (.tmp 130))) rfl rfl rfl (by rw [f130]; exact run_load' (agg := true) (by rw [hcs1]; exact fits66e) hcs2) ?_
    intro a53 ha53
    have F := F.put ha53 (by decide)
    have hS : 146 < a53.tmps.size := by rw [F.sz]; exact hT
    have f131 := ha53.eq (by rw [← ha53.sz]; omega)
    have f126 := (ha53.ne 126 (by decide)).trans f126
    have f127 := (ha53.ne 127 (by decide)).trans f127
    have f128 := (ha53.ne 128 (by decide)).trans f128
    have f129 := (ha53.ne 129 (by decide)).trans f129
    have f130 := (ha53.ne 130 (by decide)).trans f130
    refine sg_put (x := Instr.alloc 66 true (.tuple #[])) rfl rfl rfl (run_alloc' hie hze) ?_
    intro a54 ha54
    have F := F.put ha54 (by decide)
    have hS : 146 < a54.tmps.size := by rw [F.sz]; exact hT
    have f20 := ha54.eq (by rw [← ha54.sz]; omega)
    have f126 := (ha54.ne 126 (by decide)).trans f126
    have f127 := (ha54.ne 127 (by decide)).trans f127
    have f128 := (ha54.ne 128 (by decide)).trans f128
    have f129 := (ha54.ne 129 (by decide)).trans f129
    have f130 := (ha54.ne 130 (by decide)).trans f130
    have f131 := (ha54.ne 131 (by decide)).trans f131
    refine sg_st (x := Instr.storeAt 66 (a54.eval (.tmp 20)) (a54.eval (.tmp 131))) rfl rfl rfl (by rw [f20, f131]; exact run_storeNew hie (by rw [hie1, hcs1]) (by rw [hze1, hcs1]) hcs3) ?_
    refine wpList_nil ?_
    have hkn := kept_new (w := w) ze.cells 66 cs.toArray
    have hpc := cell_new (w := w) ze.cells 66 cs hyk
    generalize (w.alloc (.cells ze.cells 66)).setRow w.heap.size cs.toArray = w2 at *
    have J := J.grow hkn
    have hk := hk.trans hkn
    have hy2 := hy2.kept hkn
    generalize w.heap.size = pb at *
    clear hcs1 hcs2 hcs3 hyk hkn hy1
    refine wp_seq (wp_region_lit ?_)
    refine sg_put (v := .pointer (some ⟨pb, 0 + 0, none⟩)) (x := Instr.fieldAt 66 (a54.eval (.tmp 20)) 0) rfl rfl rfl (by rw [f20, run_field' hfu hff hfi hfz, addr_add, hfo]) ?_
    intro a55 ha55
    have F := F.put ha55 (by decide)
    have hS : 146 < a55.tmps.size := by rw [F.sz]; exact hT
    have f132 := ha55.eq (by rw [← ha55.sz]; omega)
    have f126 := (ha55.ne 126 (by decide)).trans f126
    have f127 := (ha55.ne 127 (by decide)).trans f127
    have f128 := (ha55.ne 128 (by decide)).trans f128
    have f20 := (ha55.ne 20 (by decide)).trans f20
    have hld : ∀ (q : Nat) (u : Value), [y][q]? = some u → w2.cell? ⟨pb, 0 + 0 + q, none⟩ = some u := fun q u hu => by
      cases q with
      | zero => simp only [List.getElem?_cons_zero, Option.some.injEq] at hu; subst hu; simpa using hpc
      | succ q => simp at hu
    refine sg_put (v := y) (x := Instr.loadAt 38 (a55.eval (.tmp 132))) rfl rfl rfl (by rw [f132, run_load' (agg := false) fits_1 hld]; rfl) ?_
    intro a56 ha56
    have F := F.put ha56 (by decide)
    have hS : 146 < a56.tmps.size := by rw [F.sz]; exact hT
    have f133 := ha56.eq (by rw [← ha56.sz]; omega)
    have f126 := (ha56.ne 126 (by decide)).trans f126
    have f127 := (ha56.ne 127 (by decide)).trans f127
    have f128 := (ha56.ne 128 (by decide)).trans f128
    have f20 := (ha56.ne 20 (by decide)).trans f20
    have f132 := (ha56.ne 132 (by decide)).trans f132
    obtain ⟨KA, KN, KC, rfl, hKN, hkey⟩ := hy2
    refine sg_len (x := .tmp 133) (t := 38) (e := 5) (n := KN) (c := KC) (A := KA) rfl rfl rfl und38s f133 ?_
    intro a57 ha57
    have F := F.put ha57 (by decide)
    have hS : 146 < a57.tmps.size := by rw [F.sz]; exact hT
    have f134 := ha57.eq (by rw [← ha57.sz]; omega)
    have f126 := (ha57.ne 126 (by decide)).trans f126
    have f127 := (ha57.ne 127 (by decide)).trans f127
    have f128 := (ha57.ne 128 (by decide)).trans f128
    have f20 := (ha57.ne 20 (by decide)).trans f20
    have f132 := (ha57.ne 132 (by decide)).trans f132
    have f133 := (ha57.ne 133 (by decide)).trans f133
    refine sg_mv (x := .const (.int .i64 0)) rfl rfl (.inl rfl) ?_
    intro a58 ha58
    have F := F.put ha58 (by decide)
    have hS : 146 < a58.tmps.size := by rw [F.sz]; exact hT
    have f135 := ha58.eq (by rw [← ha58.sz]; omega)
    have f126 := (ha58.ne 126 (by decide)).trans f126
    have f127 := (ha58.ne 127 (by decide)).trans f127
    have f128 := (ha58.ne 128 (by decide)).trans f128
    have f20 := (ha58.ne 20 (by decide)).trans f20
    have f132 := (ha58.ne 132 (by decide)).trans f132
    have f133 := (ha58.ne 133 (by decide)).trans f133
    have f134 := (ha58.ne 134 (by decide)).trans f134
    change a58.eval (.tmp 135) = .int .i64 ((0 : Nat) : Int) at f135
    refine wpList_nil ?_
    clear hkey hld
    refine wp_block (wp_loop_rounds (KN + 1) ?_)
    refine (?_ : ∀ (r2 j : Nat) (a : Act) (w2 : World), j + r2 = KN → SegF a0 pc13_34.clob a → a.eval (.tmp 126) = .slice (some ⟨hb, ho, none⟩) N c → a.eval (.tmp 127) = .int .i64 (N : Int) → a.eval (.tmp 128) = .int .i64 (i : Int) → a.eval (.tmp 20) = .pointer (some ⟨pb, 0, none⟩) → a.eval (.tmp 134) = .int .i64 (KN : Int) → a.eval (.tmp 135) = .int .i64 (j : Int) → Kept w0 w2 → JInv w0 w2 68 0 hb ho N ys → w2.cell? ⟨pb, 0, none⟩ = some (.slice KA KN KC) → Code.rounds _ _ _ (r2 + 1) a w2) KN 0 a58 w2 (by omega) F f126 f127 f128 f20 f134 f135 hk J (by simpa using hpc)
    clear F f126 f127 f128 f20 f132 f133 f134 f135 hJ hk J hpc
    intro r2
    induction r2 with
    | zero =>
      intro j a80 w2 hjr F f126 f127 f128 f20 f134 f135 hk J hpc
      rw [rounds_succ]
      have hS : 146 < a80.tmps.size := by rw [F.sz]; exact hT
      refine wp_seq (wp_region_lit ?_)
      refine sg_put (x := do eqGuard .lss 3 (.tmp 135) (.tmp 134) (a80.eval (.tmp 135)) (a80.eval (.tmp 134)); binOp .lss 3 (a80.eval (.tmp 135)) (a80.eval (.tmp 134))) rfl rfl rfl (by rw [f135, f134]; exact run_lss _ _ _ _) ?_
      intro a81 ha81
      have F := F.put ha81 (by decide)
      have hS : 146 < a81.tmps.size := by rw [F.sz]; exact hT
      have f136 := ha81.eq (by rw [← ha81.sz]; omega)
      have f126 := (ha81.ne 126 (by decide)).trans f126
      have f127 := (ha81.ne 127 (by decide)).trans f127
      have f128 := (ha81.ne 128 (by decide)).trans f128
      have f20 := (ha81.ne 20 (by decide)).trans f20
      have f134 := (ha81.ne 134 (by decide)).trans f134
      have f135 := (ha81.ne 135 (by decide)).trans f135
      refine wpList_nil ?_
      refine wp_seq ?_
      refine wp_cond_false (f136.trans (by simp only [Value.bool.injEq, decide_eq_false_iff_not]; omega)) (wp_exit ?_)
      simp only [Exit.then, Exit.inBlock, if_true]
      refine wp_region_lit ?_
      refine sg_put (x := do eqGuard .add 3 (.tmp 128) (.const (.int .i64 1)) (a81.eval (.tmp 128)) (.int .i64 1); binOp .add 3 (a81.eval (.tmp 128)) (.int .i64 1)) rfl rfl rfl (by rw [f128]; exact run_add _ _ _ _) ?_
      intro a82 ha82
      have F := F.put ha82 (by decide)
      have hS : 146 < a82.tmps.size := by rw [F.sz]; exact hT
      have f146 := ha82.eq (by rw [← ha82.sz]; omega)
      have f126 := (ha82.ne 126 (by decide)).trans f126
      have f127 := (ha82.ne 127 (by decide)).trans f127
      have f128 := (ha82.ne 128 (by decide)).trans f128
      have f20 := (ha82.ne 20 (by decide)).trans f20
      have f134 := (ha82.ne 134 (by decide)).trans f134
      have f135 := (ha82.ne 135 (by decide)).trans f135
      refine sg_mv (x := .tmp 146) rfl rfl (.inl rfl) ?_
      intro a83 ha83
      have F := F.put ha83 (by decide)
      have hS : 146 < a83.tmps.size := by rw [F.sz]; exact hT
      have f128 := (ha83.eq (by rw [← ha83.sz]; omega)).trans f146
      have f126 := (ha83.ne 126 (by decide)).trans f126
      have f127 := (ha83.ne 127 (by decide)).trans f127
      have f20 := (ha83.ne 20 (by decide)).trans f20
      have f134 := (ha83.ne 134 (by decide)).trans f134
      have f135 := (ha83.ne 135 (by decide)).trans f135
      have f146 := (ha83.ne 146 (by decide)).trans f146
      refine wpList_nil ?_
      have hw : IntKind.i64.wrap ((i : Int) + 1) = ((i + 1 : Nat) : Int) := by
        unfold maxLen at hN
        rw [wrap64 (by omega) (by omega)]
        omega
      exact ih (i + 1) _ w2 (by omega) F f126 f127 (by rw [f128, hw]) hk (fun _ => ⟨rfl, J⟩)
    | succ r2 ih2 =>
      intro j a80 w2 hjr F f126 f127 f128 f20 f134 f135 hk J hpc
      rw [rounds_succ]
      have hS : 146 < a80.tmps.size := by rw [F.sz]; exact hT
      refine wp_seq (wp_region_lit ?_)
      refine sg_put (x := do eqGuard .lss 3 (.tmp 135) (.tmp 134) (a80.eval (.tmp 135)) (a80.eval (.tmp 134)); binOp .lss 3 (a80.eval (.tmp 135)) (a80.eval (.tmp 134))) rfl rfl rfl (by rw [f135, f134]; exact run_lss _ _ _ _) ?_
      intro a81 ha81
      have F := F.put ha81 (by decide)
      have hS : 146 < a81.tmps.size := by rw [F.sz]; exact hT
      have f136 := ha81.eq (by rw [← ha81.sz]; omega)
      have f126 := (ha81.ne 126 (by decide)).trans f126
      have f127 := (ha81.ne 127 (by decide)).trans f127
      have f128 := (ha81.ne 128 (by decide)).trans f128
      have f20 := (ha81.ne 20 (by decide)).trans f20
      have f134 := (ha81.ne 134 (by decide)).trans f134
      have f135 := (ha81.ne 135 (by decide)).trans f135
      refine wpList_nil ?_
      refine wp_seq ?_
      have hjN : j < KN := by omega
      refine wp_cond_true (f136.trans (by simp only [Value.bool.injEq, decide_eq_true_eq]; omega)) (wp_skip ?_)
      refine wp_seq (wp_block (wp_seq (wp_region_lit ?_)))
      refine sg_mv (x := .tmp 135) rfl rfl (.inl rfl) ?_
      intro a82 ha82
      have F := F.put ha82 (by decide)
      have hS : 146 < a82.tmps.size := by rw [F.sz]; exact hT
      have f137 := (ha82.eq (by rw [← ha82.sz]; omega)).trans f135
      have f126 := (ha82.ne 126 (by decide)).trans f126
      have f127 := (ha82.ne 127 (by decide)).trans f127
      have f128 := (ha82.ne 128 (by decide)).trans f128
      have f20 := (ha82.ne 20 (by decide)).trans f20
      have f134 := (ha82.ne 134 (by decide)).trans f134
      have f135 := (ha82.ne 135 (by decide)).trans f135
      refine sg_mv (x := .tmp 137) rfl rfl (.inr rfl) ?_
      intro a83 ha83
      have F := F.put ha83 (by decide)
      have hS : 146 < a83.tmps.size := by rw [F.sz]; exact hT
      have f21 := (ha83.eq (by rw [← ha83.sz]; omega)).trans f137
      have f126 := (ha83.ne 126 (by decide)).trans f126
      have f127 := (ha83.ne 127 (by decide)).trans f127
      have f128 := (ha83.ne 128 (by decide)).trans f128
      have f20 := (ha83.ne 20 (by decide)).trans f20
      have f134 := (ha83.ne 134 (by decide)).trans f134
      have f135 := (ha83.ne 135 (by decide)).trans f135
      have f137 := (ha83.ne 137 (by decide)).trans f137
      refine wpList_nil ?_
      refine wp_region_lit ?_
      refine sg_put (v := .pointer (some ⟨pb, 0 + 0, none⟩)) (x := Instr.fieldAt 66 (a83.eval (.tmp 20)) 0) rfl rfl rfl (by rw [f20, run_field' hfu hff hfi hfz, addr_add, hfo]) ?_
      intro a84 ha84
      have F := F.put ha84 (by decide)
      have hS : 146 < a84.tmps.size := by rw [F.sz]; exact hT
      have f138 := ha84.eq (by rw [← ha84.sz]; omega)
      have f126 := (ha84.ne 126 (by decide)).trans f126
      have f127 := (ha84.ne 127 (by decide)).trans f127
      have f128 := (ha84.ne 128 (by decide)).trans f128
      have f20 := (ha84.ne 20 (by decide)).trans f20
      have f134 := (ha84.ne 134 (by decide)).trans f134
      have f135 := (ha84.ne 135 (by decide)).trans f135
      have f137 := (ha84.ne 137 (by decide)).trans f137
      have f21 := (ha84.ne 21 (by decide)).trans f21
      have hld : ∀ (q : Nat) (u : Value), [Value.slice KA KN KC][q]? = some u → w2.cell? ⟨pb, 0 + 0 + q, none⟩ = some u := fun q u hu => by
        cases q with
        | zero => simp only [List.getElem?_cons_zero, Option.some.injEq] at hu; subst hu; simpa using hpc
        | succ q => simp at hu
      refine sg_put (v := .slice KA KN KC) (x := Instr.loadAt 38 (a84.eval (.tmp 138))) rfl rfl rfl (by rw [f138, run_load' (agg := false) fits_1 hld]; rfl) ?_
      intro a85 ha85
      have F := F.put ha85 (by decide)
      have hS : 146 < a85.tmps.size := by rw [F.sz]; exact hT
      have f139 := ha85.eq (by rw [← ha85.sz]; omega)
      have f126 := (ha85.ne 126 (by decide)).trans f126
      have f127 := (ha85.ne 127 (by decide)).trans f127
      have f128 := (ha85.ne 128 (by decide)).trans f128
      have f20 := (ha85.ne 20 (by decide)).trans f20
      have f134 := (ha85.ne 134 (by decide)).trans f134
      have f135 := (ha85.ne 135 (by decide)).trans f135
      have f137 := (ha85.ne 137 (by decide)).trans f137
      have f21 := (ha85.ne 21 (by decide)).trans f21
      have f138 := (ha85.ne 138 (by decide)).trans f138
      refine sg_mv (x := .tmp 21) rfl rfl (.inl rfl) ?_
      intro a86 ha86
      have F := F.put ha86 (by decide)
      have hS : 146 < a86.tmps.size := by rw [F.sz]; exact hT
      have f140 := (ha86.eq (by rw [← ha86.sz]; omega)).trans f21
      have f126 := (ha86.ne 126 (by decide)).trans f126
      have f127 := (ha86.ne 127 (by decide)).trans f127
      have f128 := (ha86.ne 128 (by decide)).trans f128
      have f20 := (ha86.ne 20 (by decide)).trans f20
      have f134 := (ha86.ne 134 (by decide)).trans f134
      have f135 := (ha86.ne 135 (by decide)).trans f135
      have f137 := (ha86.ne 137 (by decide)).trans f137
      have f21 := (ha86.ne 21 (by decide)).trans f21
      have f138 := (ha86.ne 138 (by decide)).trans f138
      have f139 := (ha86.ne 139 (by decide)).trans f139
      obtain ⟨A2, N2, C2, he2, _, hkey⟩ := (J.key i _ hy).2
      cases he2
      obtain ⟨B, O, X, hKA, hB, hX, hXf⟩ := hkey j hjN
      refine sg_put (v := .pointer (some ⟨B, O + j, none⟩)) (x := Instr.indexAt 38 (a86.eval (.tmp 139)) (a86.eval (.tmp 140))) rfl rfl rfl (by rw [f139, f140, hKA, run_index' und38s hib (by omega) (by omega), addr_add, hib1, Int.toNat_natCast, Nat.mul_one]) ?_
      intro a87 ha87
      have F := F.put ha87 (by decide)
      have hS : 146 < a87.tmps.size := by rw [F.sz]; exact hT
      have f141 := ha87.eq (by rw [← ha87.sz]; omega)
      have f126 := (ha87.ne 126 (by decide)).trans f126
      have f127 := (ha87.ne 127 (by decide)).trans f127
      have f128 := (ha87.ne 128 (by decide)).trans f128
      have f20 := (ha87.ne 20 (by decide)).trans f20
      have f134 := (ha87.ne 134 (by decide)).trans f134
      have f135 := (ha87.ne 135 (by decide)).trans f135
      have f137 := (ha87.ne 137 (by decide)).trans f137
      have f21 := (ha87.ne 21 (by decide)).trans f21
      have f138 := (ha87.ne 138 (by decide)).trans f138
      have f139 := (ha87.ne 139 (by decide)).trans f139
      have f140 := (ha87.ne 140 (by decide)).trans f140
      have hlb : ∀ (q : Nat) (u : Value), [Value.int .u8 X][q]? = some u → w2.cell? ⟨B, O + j + q, none⟩ = some u := fun q u hu => by
        cases q with
        | zero => simp only [List.getElem?_cons_zero, Option.some.injEq] at hu; subst hu; simpa using hX
        | succ q => simp at hu
      refine sg_put (v := .int .u8 X) (x := Instr.loadAt 5 (a87.eval (.tmp 141))) rfl rfl rfl (by rw [f141, run_load' (agg := false) fits_5 hlb]; rfl) ?_
      intro a88 ha88
      have F := F.put ha88 (by decide)
      have hS : 146 < a88.tmps.size := by rw [F.sz]; exact hT
      have f142 := ha88.eq (by rw [← ha88.sz]; omega)
      have f126 := (ha88.ne 126 (by decide)).trans f126
      have f127 := (ha88.ne 127 (by decide)).trans f127
      have f128 := (ha88.ne 128 (by decide)).trans f128
      have f20 := (ha88.ne 20 (by decide)).trans f20
      have f134 := (ha88.ne 134 (by decide)).trans f134
      have f135 := (ha88.ne 135 (by decide)).trans f135
      have f137 := (ha88.ne 137 (by decide)).trans f137
      have f21 := (ha88.ne 21 (by decide)).trans f21
      have f138 := (ha88.ne 138 (by decide)).trans f138
      have f139 := (ha88.ne 139 (by decide)).trans f139
      have f140 := (ha88.ne 140 (by decide)).trans f140
      have f141 := (ha88.ne 141 (by decide)).trans f141
      obtain ⟨Z, hZ⟩ := run_xor (P := Tryd.prog) (w := w2) (.tmp 142) (.const (.int .u8 255)) X 255
      refine sg_put (v := .int .u8 Z) (x := do eqGuard .xor 5 (.tmp 142) (.const (.int .u8 255)) (a88.eval (.tmp 142)) (.int .u8 255); binOp .xor 5 (a88.eval (.tmp 142)) (.int .u8 255)) rfl rfl rfl (by rw [f142]; exact hZ) ?_
      intro a89 ha89
      have F := F.put ha89 (by decide)
      have hS : 146 < a89.tmps.size := by rw [F.sz]; exact hT
      have f143 := ha89.eq (by rw [← ha89.sz]; omega)
      have f126 := (ha89.ne 126 (by decide)).trans f126
      have f127 := (ha89.ne 127 (by decide)).trans f127
      have f128 := (ha89.ne 128 (by decide)).trans f128
      have f20 := (ha89.ne 20 (by decide)).trans f20
      have f134 := (ha89.ne 134 (by decide)).trans f134
      have f135 := (ha89.ne 135 (by decide)).trans f135
      have f137 := (ha89.ne 137 (by decide)).trans f137
      have f21 := (ha89.ne 21 (by decide)).trans f21
      have f138 := (ha89.ne 138 (by decide)).trans f138
      have f139 := (ha89.ne 139 (by decide)).trans f139
      have f140 := (ha89.ne 140 (by decide)).trans f140
      have f141 := (ha89.ne 141 (by decide)).trans f141
      have f142 := (ha89.ne 142 (by decide)).trans f142
      refine sg_put (v := .pointer (some ⟨B, O + j, none⟩)) (x := Instr.indexAt 38 (a89.eval (.tmp 139)) (a89.eval (.tmp 140))) rfl rfl rfl (by rw [f139, f140, hKA, run_index' und38s hib (by omega) (by omega), addr_add, hib1, Int.toNat_natCast, Nat.mul_one]) ?_
      intro a90 ha90
      have F := F.put ha90 (by decide)
      have hS : 146 < a90.tmps.size := by rw [F.sz]; exact hT
      have f144 := ha90.eq (by rw [← ha90.sz]; omega)
      have f126 := (ha90.ne 126 (by decide)).trans f126
      have f127 := (ha90.ne 127 (by decide)).trans f127
      have f128 := (ha90.ne 128 (by decide)).trans f128
      have f20 := (ha90.ne 20 (by decide)).trans f20
      have f134 := (ha90.ne 134 (by decide)).trans f134
      have f135 := (ha90.ne 135 (by decide)).trans f135
      have f137 := (ha90.ne 137 (by decide)).trans f137
      have f21 := (ha90.ne 21 (by decide)).trans f21
      have f138 := (ha90.ne 138 (by decide)).trans f138
      have f139 := (ha90.ne 139 (by decide)).trans f139
      have f140 := (ha90.ne 140 (by decide)).trans f140
      have f141 := (ha90.ne 141 (by decide)).trans f141
      have f142 := (ha90.ne 142 (by decide)).trans f142
      have f143 := (ha90.ne 143 (by decide)).trans f143
      refine sg_st (x := Instr.storeAt 5 (a90.eval (.tmp 144)) (a90.eval (.tmp 143))) rfl rfl rfl (by rw [f144, f143]; exact run_storeByte hib hib1 hX hXf) ?_
      refine wpList_nil ?_
      have J := J.set (z := Z) hB hX
      have hk := hk.setCell (v := .int .u8 Z) (o := O + j) hB
      have hpc := cell_slice (z := Z) hX hpc
      refine wp_region_lit ?_
      refine sg_put (x := do eqGuard .add 3 (.tmp 135) (.const (.int .i64 1)) (a90.eval (.tmp 135)) (.int .i64 1); binOp .add 3 (a90.eval (.tmp 135)) (.int .i64 1)) rfl rfl rfl (by rw [f135]; exact run_add _ _ _ _) ?_
      intro a91 ha91
      have F := F.put ha91 (by decide)
      have hS : 146 < a91.tmps.size := by rw [F.sz]; exact hT
      have f145 := ha91.eq (by rw [← ha91.sz]; omega)
      have f126 := (ha91.ne 126 (by decide)).trans f126
      have f127 := (ha91.ne 127 (by decide)).trans f127
      have f128 := (ha91.ne 128 (by decide)).trans f128
      have f20 := (ha91.ne 20 (by decide)).trans f20
      have f134 := (ha91.ne 134 (by decide)).trans f134
      have f135 := (ha91.ne 135 (by decide)).trans f135
      refine sg_mv (x := .tmp 145) rfl rfl (.inl rfl) ?_
      intro a92 ha92
      have F := F.put ha92 (by decide)
      have hS : 146 < a92.tmps.size := by rw [F.sz]; exact hT
      have f135 := (ha92.eq (by rw [← ha92.sz]; omega)).trans f145
      have f126 := (ha92.ne 126 (by decide)).trans f126
      have f127 := (ha92.ne 127 (by decide)).trans f127
      have f128 := (ha92.ne 128 (by decide)).trans f128
      have f20 := (ha92.ne 20 (by decide)).trans f20
      have f134 := (ha92.ne 134 (by decide)).trans f134
      have f145 := (ha92.ne 145 (by decide)).trans f145
      refine wpList_nil ?_
      have hw : IntKind.i64.wrap ((j : Int) + 1) = ((j + 1 : Nat) : Int) := by
        unfold maxLen at hKN
        rw [wrap64 (by omega) (by omega)]
        omega
      exact ih2 (j + 1) _ _ (by omega) F f126 f127 f128 f20 f134 (by rw [f135, hw]) hk J hpc
end Go.Fm

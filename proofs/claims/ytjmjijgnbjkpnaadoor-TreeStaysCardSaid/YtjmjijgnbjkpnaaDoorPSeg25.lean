/-
  A part of the proof: PSeg25.
-/
import Derived.Test.YtjmjijgnbjkpnaaDoorPSegB
set_option linter.all false
set_option autoImplicit true
/-
  A loop that changes the bytes in a fresh row's elements (function 13, region 25).
-/
set_option maxRecDepth 100000
set_option linter.unusedVariables false
set_option linter.unusedSimpArgs false
namespace Go.Fm
open Go Go.Proofs Go.RowKit
/-- A node of a code. -/
def nav : List Nat → Code → Code
  | [], c => c
  | 0 :: p, .seq a _ => nav p a
  | _ :: p, .seq _ b => nav p b
  | 0 :: p, .cond _ a _ => nav p a
  | _ :: p, .cond _ _ b => nav p b
  | _ :: p, .block _ a => nav p a
  | _ :: p, .loop a => nav p a
  | _ :: _, c => c
noncomputable def bodyOf (f : Func) : Code := f.body.getD .skip
theorem wrap64 {z : Int} (h1 : -9223372036854775808 ≤ z) (h2 : z ≤ 9223372036854775807) : IntKind.i64.wrap z = z := by
  unfold IntKind.wrap
  simp [IntKind.bits, IntKind.signed]
  omega
theorem fits_1 : fits Tryd.prog 38 1 false = true := by kernel_rfl
theorem fits_5 : fits Tryd.prog 5 1 false = true := by kernel_rfl
theorem und38s : Tryd.prog.underlying 38 = some (.slice 5) := by kernel_rfl
noncomputable def seg13_25 : Code := nav [1, 1, 1, 1, 1, 0, 1, 0, 0, 1, 1, 0, 0, 1, 1, 1, 1, 1, 1, 1, 0] (bodyOf Tryd.f13)
theorem und54r : Tryd.prog.underlying 54 = some (.slice 97) := by kernel_rfl
theorem info97e : (Tryd.prog.info? 97).map (fun i => (i.size, i.zero.map (fun z => z.cells.size))) = some (2, some 2) := by kernel_rfl
theorem fits97e : fits Tryd.prog 97 2 true = true := by kernel_rfl
theorem fld97_0 : ∃ fields fd i, Tryd.prog.underlying 97 = some (.struct fields) ∧ fields[0]? = some fd ∧ Tryd.prog.info? fd.type = some i ∧ i.size ≠ 0 ∧ fd.offset = 0 := by
  have h : (match Tryd.prog.underlying 97 with | some (.struct fields) => (match fields[0]? with | some fd => (match Tryd.prog.info? fd.type with | some i => decide (i.size ≠ 0) && decide (fd.offset = 0) | none => false) | none => false) | _ => false) = true := by kernel_rfl
  split at h
  · rename_i fields h1
    split at h
    · rename_i fd h2
      split at h
      · rename_i i h3
        simp only [Bool.and_eq_true, decide_eq_true_eq] at h
        exact ⟨fields, fd, i, h1, h2, h3, h.1, h.2⟩
      · cases h
    · cases h
  · cases h
set_option maxHeartbeats 4000000 in
theorem piece13_25 (b : Bool) : PieceOk (cfg b) pc13_25 seg13_25 := by
  intro S0 g w0 H a0 e Q vs hO he hvs hok hQ
  obtain ⟨fields, fd, fi, hfu, hff, hfi, hfz, hfo⟩ := fld97_0
  obtain ⟨ie, hie, hie1, ze, hze, hze1⟩ : ∃ ie, Tryd.prog.info? 97 = some ie ∧ ie.size = 2 ∧ ∃ z, ie.zero = some z ∧ z.cells.size = 2 := by
    have := info97e
    cases h : Tryd.prog.info? 97 with
    | none => rw [h] at this; cases this
    | some i =>
      rw [h] at this
      simp only [Option.map_some, Option.some.injEq, Prod.mk.injEq, Option.map_eq_some_iff] at this
      obtain ⟨h1, z, h2, h3⟩ := this
      exact ⟨i, rfl, h1, z, h2, h3⟩
  obtain ⟨ib, hib, hib1⟩ : ∃ i, Tryd.prog.info? 5 = some i ∧ i.size = 1 := by
    obtain ⟨i, h1, h2, h3, h4⟩ := info_parts info5
    exact ⟨i, h1, h3⟩
  have hT : 124 < a0.tmps.size := by
    simp only [pc13_25, projL] at hvs
    split at hvs
    · split at hvs
      · rename_i h2
        split at h2
        · rename_i v h3
          have h4 := (List.getElem?_eq_some_iff.1 h3).1
          have h5 := RVs.length he
          rw [Array.length_toList] at h5
          omega
        · cases h2
      · cases hvs
    · cases hvs
  have hus := projL_RVs he hvs
  obtain ⟨hc⟩ : Nonempty (Calls Tryd.prog 51 #[a0.eval (.tmp 8)] w0 fun e w' => ∃ a n c, e = .returned (.slice a n c) ∧ n ≤ maxLen ∧ Kept w0 w' ∧ (0 < n → ∃ hb ho ys, a = some ⟨hb, ho, none⟩ ∧ JInv w0 w' 2 0 hb ho n ys)) := by
    refine ⟨?_⟩
    cases hus with
    | cons u us v vs h1 hs =>
      exact row_calls hO hok (.cons _ _ _ _ h1 .nil)
  have F := SegF.refl a0 pc13_25.clob
  show Code.wp Tryd.prog seg13_25 Q a0 w0
  refine wp_seq (wp_region_lit ?_)
  refine sg_mv (x := .tmp 8) rfl rfl (.inl rfl) ?_
  intro a1 ha1
  have F := F.put ha1 (by decide)
  have hS : 124 < a1.tmps.size := by rw [F.sz]; exact hT
  have f103 := ha1.eq (by rw [← ha1.sz]; omega)
  refine sg_call (x := .tmp 103) rfl rfl Tryd.func51 rfl (by kernel_rfl) (by rw [f103]; exact hc) ?_
  rintro e1 w1 ⟨A, N, c, rfl, hN, hk1, hJ⟩
  refine ⟨_, rfl, ?_⟩
  obtain ⟨a2, ha2⟩ : ∃ a2, a2 = a1.put (some 104) (.slice A N c) := ⟨_, rfl⟩
  have ha2' : PutOf a1 104 (.slice A N c) a2 := by rw [ha2]; exact putOf _ _ _
  show wpList _ _ _ _ (a1.put (some 104) (.slice A N c)) w1
  rw [← ha2]
  have F := F.put ha2' (by decide)
  have hS : 124 < a2.tmps.size := by rw [F.sz]; exact hT
  have f104 := ha2'.eq (by rw [← ha2'.sz]; omega)
  refine sg_len (x := .tmp 104) (t := 54) (e := 97) (n := N) (c := c) (A := A) rfl rfl rfl und54r f104 ?_
  intro a3 ha3
  have F := F.put ha3 (by decide)
  have hS : 124 < a3.tmps.size := by rw [F.sz]; exact hT
  have f105 := ha3.eq (by rw [← ha3.sz]; omega)
  have f104 := (ha3.ne 104 (by decide)).trans f104
  refine sg_mv (x := .const (.int .i64 0)) rfl rfl (.inl rfl) ?_
  intro a4 ha4
  have F := F.put ha4 (by decide)
  have hS : 124 < a4.tmps.size := by rw [F.sz]; exact hT
  have f106 := ha4.eq (by rw [← ha4.sz]; omega)
  have f104 := (ha4.ne 104 (by decide)).trans f104
  have f105 := (ha4.ne 105 (by decide)).trans f105
  change a4.eval (.tmp 106) = .int .i64 ((0 : Nat) : Int) at f106
  refine wpList_nil ?_
  obtain ⟨hb, ho, ys, hJ⟩ : ∃ hb ho ys, 0 < N → A = some ⟨hb, ho, none⟩ ∧ JInv w0 w1 2 0 hb ho N ys := by
    rcases Nat.eq_zero_or_pos N with h | h
    · exact ⟨0, 0, [], fun h2 => absurd h2 (by omega)⟩
    · obtain ⟨hb, ho, ys, h1, h2⟩ := hJ h
      exact ⟨hb, ho, ys, fun _ => ⟨h1, h2⟩⟩
  show Code.wp _ (Code.block 6 (Code.loop _)) Q a4 w1
  refine wp_block (wp_loop_rounds (N + 1) ?_)
  clear hO he hvs hok hus hc
  refine (?_ : ∀ (r i : Nat) (a : Act) (w : World), i + r = N → SegF a0 pc13_25.clob a → a.eval (.tmp 104) = .slice A N c → a.eval (.tmp 105) = .int .i64 (N : Int) → a.eval (.tmp 106) = .int .i64 (i : Int) → Kept w0 w → (0 < N → A = some ⟨hb, ho, none⟩ ∧ JInv w0 w 2 0 hb ho N ys) → Code.rounds _ _ _ (r + 1) a w) N 0 a4 w1 (by omega) F f104 f105 f106 hk1 hJ
  clear F f104 f105 f106 hJ hk1
  intro r
  induction r with
  | zero =>
    intro i a50 w hir F f104 f105 f106 hk hJ
    rw [rounds_succ]
    have hS : 124 < a50.tmps.size := by rw [F.sz]; exact hT
    refine wp_seq (wp_region_lit ?_)
    refine sg_put (x := do eqGuard .lss 3 (.tmp 106) (.tmp 105) (a50.eval (.tmp 106)) (a50.eval (.tmp 105)); binOp .lss 3 (a50.eval (.tmp 106)) (a50.eval (.tmp 105))) rfl rfl rfl (by rw [f106, f105]; exact run_lss _ _ _ _) ?_
    intro a51 ha51
    have F := F.put ha51 (by decide)
    have hS : 124 < a51.tmps.size := by rw [F.sz]; exact hT
    have f107 := ha51.eq (by rw [← ha51.sz]; omega)
    have f104 := (ha51.ne 104 (by decide)).trans f104
    have f105 := (ha51.ne 105 (by decide)).trans f105
    have f106 := (ha51.ne 106 (by decide)).trans f106
    refine wpList_nil ?_
    refine wp_seq ?_
    refine wp_cond_false (f107.trans (by simp only [Value.bool.injEq, decide_eq_false_iff_not]; omega)) (wp_exit ?_)
    show Exit.inBlock 6 Q (.exit 6) _ _
    simp only [Exit.inBlock, if_true]
    exact hQ _ _ hk F.sz F.same F.defers
  | succ r ih =>
    intro i a50 w hir F f104 f105 f106 hk hJ
    rw [rounds_succ]
    have hS : 124 < a50.tmps.size := by rw [F.sz]; exact hT
    refine wp_seq (wp_region_lit ?_)
    refine sg_put (x := do eqGuard .lss 3 (.tmp 106) (.tmp 105) (a50.eval (.tmp 106)) (a50.eval (.tmp 105)); binOp .lss 3 (a50.eval (.tmp 106)) (a50.eval (.tmp 105))) rfl rfl rfl (by rw [f106, f105]; exact run_lss _ _ _ _) ?_
    intro a51 ha51
    have F := F.put ha51 (by decide)
    have hS : 124 < a51.tmps.size := by rw [F.sz]; exact hT
    have f107 := ha51.eq (by rw [← ha51.sz]; omega)
    have f104 := (ha51.ne 104 (by decide)).trans f104
    have f105 := (ha51.ne 105 (by decide)).trans f105
    have f106 := (ha51.ne 106 (by decide)).trans f106
    refine wpList_nil ?_
    refine wp_seq ?_
    have hiN : i < N := by omega
    obtain ⟨rfl, J⟩ := hJ (by omega)
    refine wp_cond_true (f107.trans (by simp only [Value.bool.injEq, decide_eq_true_eq]; omega)) (wp_skip ?_)
    refine wp_seq (wp_block (wp_seq (wp_region_lit ?_)))
    refine sg_put (v := .pointer (some ⟨hb, ho + i * 2, none⟩)) (x := Instr.indexAt 54 (a51.eval (.tmp 104)) (a51.eval (.tmp 106))) rfl rfl rfl (by rw [f104, f106, run_index' und54r hie (by omega) (by omega), addr_add, hie1, Int.toNat_natCast]) ?_
    intro a52 ha52
    have F := F.put ha52 (by decide)
    have hS : 124 < a52.tmps.size := by rw [F.sz]; exact hT
    have f108 := ha52.eq (by rw [← ha52.sz]; omega)
    have f104 := (ha52.ne 104 (by decide)).trans f104
    have f105 := (ha52.ne 105 (by decide)).trans f105
    have f106 := (ha52.ne 106 (by decide)).trans f106
    have f107 := (ha52.ne 107 (by decide)).trans f107
    obtain ⟨cs, hcs1, hcs2, hcs3⟩ := cells_of (w := w) (b := hb) (o := ho + i * 2) 2 (fun q hq => by
      have := J.row i hiN q hq
      rwa [← Nat.add_assoc] at this)
    obtain ⟨y, hy⟩ : ∃ y, ys[i]? = some y := ⟨_, List.getElem?_eq_getElem (by rw [J.len]; exact hiN)⟩
    obtain ⟨hy1, hy2⟩ := J.key i y hy
    have hyk : cs[0]? = some y := by
      have h1 : 0 < cs.length := by omega
      have h2 := hcs2 0 _ (List.getElem?_eq_getElem h1)
      rw [← Nat.add_assoc] at hy1
      rw [hy1] at h2
      rw [List.getElem?_eq_getElem h1]
      exact h2.symm
    refine sg_put (v := .agg cs.toArray) (x := Instr.loadAt 97 (a52.eval (.tmp 108))) rfl rfl rfl (by rw [f108]; exact run_load' (agg := true) (by rw [hcs1]; exact fits97e) hcs2) ?_
    intro a53 ha53
    have F := F.put ha53 (by decide)
    have hS : 124 < a53.tmps.size := by rw [F.sz]; exact hT
    have f109 := ha53.eq (by rw [← ha53.sz]; omega)
    have f104 := (ha53.ne 104 (by decide)).trans f104
    have f105 := (ha53.ne 105 (by decide)).trans f105
    have f106 := (ha53.ne 106 (by decide)).trans f106
    have f107 := (ha53.ne 107 (by decide)).trans f107
    have f108 := (ha53.ne 108 (by decide)).trans f108
    refine sg_put (x := Instr.alloc 97 true (.tuple #[])) rfl rfl rfl (run_alloc' hie hze) ?_
    intro a54 ha54
    have F := F.put ha54 (by decide)
    have hS : 124 < a54.tmps.size := by rw [F.sz]; exact hT
    have f17 := ha54.eq (by rw [← ha54.sz]; omega)
    have f104 := (ha54.ne 104 (by decide)).trans f104
    have f105 := (ha54.ne 105 (by decide)).trans f105
    have f106 := (ha54.ne 106 (by decide)).trans f106
    have f107 := (ha54.ne 107 (by decide)).trans f107
    have f108 := (ha54.ne 108 (by decide)).trans f108
    have f109 := (ha54.ne 109 (by decide)).trans f109
    refine sg_st (x := Instr.storeAt 97 (a54.eval (.tmp 17)) (a54.eval (.tmp 109))) rfl rfl rfl (by rw [f17, f109]; exact run_storeNew hie (by rw [hie1, hcs1]) (by rw [hze1, hcs1]) hcs3) ?_
    refine wpList_nil ?_
    have hkn := kept_new (w := w) ze.cells 97 cs.toArray
    have hpc := cell_new (w := w) ze.cells 97 cs hyk
    generalize (w.alloc (.cells ze.cells 97)).setRow w.heap.size cs.toArray = w2 at *
    have J := J.grow hkn
    have hk := hk.trans hkn
    have hy2 := hy2.kept hkn
    generalize w.heap.size = pb at *
    clear hcs1 hcs2 hcs3 hyk hkn hy1
    refine wp_seq (wp_region_lit ?_)
    refine sg_put (v := .pointer (some ⟨pb, 0 + 0, none⟩)) (x := Instr.fieldAt 97 (a54.eval (.tmp 17)) 0) rfl rfl rfl (by rw [f17, run_field' hfu hff hfi hfz, addr_add, hfo]) ?_
    intro a55 ha55
    have F := F.put ha55 (by decide)
    have hS : 124 < a55.tmps.size := by rw [F.sz]; exact hT
    have f110 := ha55.eq (by rw [← ha55.sz]; omega)
    have f104 := (ha55.ne 104 (by decide)).trans f104
    have f105 := (ha55.ne 105 (by decide)).trans f105
    have f106 := (ha55.ne 106 (by decide)).trans f106
    have f17 := (ha55.ne 17 (by decide)).trans f17
    have hld : ∀ (q : Nat) (u : Value), [y][q]? = some u → w2.cell? ⟨pb, 0 + 0 + q, none⟩ = some u := fun q u hu => by
      cases q with
      | zero => simp only [List.getElem?_cons_zero, Option.some.injEq] at hu; subst hu; simpa using hpc
      | succ q => simp at hu
    refine sg_put (v := y) (x := Instr.loadAt 38 (a55.eval (.tmp 110))) rfl rfl rfl (by rw [f110, run_load' (agg := false) fits_1 hld]; rfl) ?_
    intro a56 ha56
    have F := F.put ha56 (by decide)
    have hS : 124 < a56.tmps.size := by rw [F.sz]; exact hT
    have f111 := ha56.eq (by rw [← ha56.sz]; omega)
    have f104 := (ha56.ne 104 (by decide)).trans f104
    have f105 := (ha56.ne 105 (by decide)).trans f105
    have f106 := (ha56.ne 106 (by decide)).trans f106
    have f17 := (ha56.ne 17 (by decide)).trans f17
    have f110 := (ha56.ne 110 (by decide)).trans f110
    obtain ⟨KA, KN, KC, rfl, hKN, hkey⟩ := hy2
    refine sg_len (x := .tmp 111) (t := 38) (e := 5) (n := KN) (c := KC) (A := KA) rfl rfl rfl und38s f111 ?_
    intro a57 ha57
    have F := F.put ha57 (by decide)
    have hS : 124 < a57.tmps.size := by rw [F.sz]; exact hT
    have f112 := ha57.eq (by rw [← ha57.sz]; omega)
    have f104 := (ha57.ne 104 (by decide)).trans f104
    have f105 := (ha57.ne 105 (by decide)).trans f105
    have f106 := (ha57.ne 106 (by decide)).trans f106
    have f17 := (ha57.ne 17 (by decide)).trans f17
    have f110 := (ha57.ne 110 (by decide)).trans f110
    have f111 := (ha57.ne 111 (by decide)).trans f111
    refine sg_mv (x := .const (.int .i64 0)) rfl rfl (.inl rfl) ?_
    intro a58 ha58
    have F := F.put ha58 (by decide)
    have hS : 124 < a58.tmps.size := by rw [F.sz]; exact hT
    have f113 := ha58.eq (by rw [← ha58.sz]; omega)
    have f104 := (ha58.ne 104 (by decide)).trans f104
    have f105 := (ha58.ne 105 (by decide)).trans f105
    have f106 := (ha58.ne 106 (by decide)).trans f106
    have f17 := (ha58.ne 17 (by decide)).trans f17
    have f110 := (ha58.ne 110 (by decide)).trans f110
    have f111 := (ha58.ne 111 (by decide)).trans f111
    have f112 := (ha58.ne 112 (by decide)).trans f112
    change a58.eval (.tmp 113) = .int .i64 ((0 : Nat) : Int) at f113
    refine wpList_nil ?_
    clear hkey hld
    refine wp_block (wp_loop_rounds (KN + 1) ?_)
    refine (?_ : ∀ (r2 j : Nat) (a : Act) (w2 : World), j + r2 = KN → SegF a0 pc13_25.clob a → a.eval (.tmp 104) = .slice (some ⟨hb, ho, none⟩) N c → a.eval (.tmp 105) = .int .i64 (N : Int) → a.eval (.tmp 106) = .int .i64 (i : Int) → a.eval (.tmp 17) = .pointer (some ⟨pb, 0, none⟩) → a.eval (.tmp 112) = .int .i64 (KN : Int) → a.eval (.tmp 113) = .int .i64 (j : Int) → Kept w0 w2 → JInv w0 w2 2 0 hb ho N ys → w2.cell? ⟨pb, 0, none⟩ = some (.slice KA KN KC) → Code.rounds _ _ _ (r2 + 1) a w2) KN 0 a58 w2 (by omega) F f104 f105 f106 f17 f112 f113 hk J (by simpa using hpc)
    clear F f104 f105 f106 f17 f110 f111 f112 f113 hJ hk J hpc
    intro r2
    induction r2 with
    | zero =>
      intro j a80 w2 hjr F f104 f105 f106 f17 f112 f113 hk J hpc
      rw [rounds_succ]
      have hS : 124 < a80.tmps.size := by rw [F.sz]; exact hT
      refine wp_seq (wp_region_lit ?_)
      refine sg_put (x := do eqGuard .lss 3 (.tmp 113) (.tmp 112) (a80.eval (.tmp 113)) (a80.eval (.tmp 112)); binOp .lss 3 (a80.eval (.tmp 113)) (a80.eval (.tmp 112))) rfl rfl rfl (by rw [f113, f112]; exact run_lss _ _ _ _) ?_
      intro a81 ha81
      have F := F.put ha81 (by decide)
      have hS : 124 < a81.tmps.size := by rw [F.sz]; exact hT
      have f114 := ha81.eq (by rw [← ha81.sz]; omega)
      have f104 := (ha81.ne 104 (by decide)).trans f104
      have f105 := (ha81.ne 105 (by decide)).trans f105
      have f106 := (ha81.ne 106 (by decide)).trans f106
      have f17 := (ha81.ne 17 (by decide)).trans f17
      have f112 := (ha81.ne 112 (by decide)).trans f112
      have f113 := (ha81.ne 113 (by decide)).trans f113
      refine wpList_nil ?_
      refine wp_seq ?_
      refine wp_cond_false (f114.trans (by simp only [Value.bool.injEq, decide_eq_false_iff_not]; omega)) (wp_exit ?_)
      simp only [Exit.then, Exit.inBlock, if_true]
      refine wp_region_lit ?_
      refine sg_put (x := do eqGuard .add 3 (.tmp 106) (.const (.int .i64 1)) (a81.eval (.tmp 106)) (.int .i64 1); binOp .add 3 (a81.eval (.tmp 106)) (.int .i64 1)) rfl rfl rfl (by rw [f106]; exact run_add _ _ _ _) ?_
      intro a82 ha82
      have F := F.put ha82 (by decide)
      have hS : 124 < a82.tmps.size := by rw [F.sz]; exact hT
      have f124 := ha82.eq (by rw [← ha82.sz]; omega)
      have f104 := (ha82.ne 104 (by decide)).trans f104
      have f105 := (ha82.ne 105 (by decide)).trans f105
      have f106 := (ha82.ne 106 (by decide)).trans f106
      have f17 := (ha82.ne 17 (by decide)).trans f17
      have f112 := (ha82.ne 112 (by decide)).trans f112
      have f113 := (ha82.ne 113 (by decide)).trans f113
      refine sg_mv (x := .tmp 124) rfl rfl (.inl rfl) ?_
      intro a83 ha83
      have F := F.put ha83 (by decide)
      have hS : 124 < a83.tmps.size := by rw [F.sz]; exact hT
      have f106 := (ha83.eq (by rw [← ha83.sz]; omega)).trans f124
      have f104 := (ha83.ne 104 (by decide)).trans f104
      have f105 := (ha83.ne 105 (by decide)).trans f105
      have f17 := (ha83.ne 17 (by decide)).trans f17
      have f112 := (ha83.ne 112 (by decide)).trans f112
      have f113 := (ha83.ne 113 (by decide)).trans f113
      have f124 := (ha83.ne 124 (by decide)).trans f124
      refine wpList_nil ?_
      have hw : IntKind.i64.wrap ((i : Int) + 1) = ((i + 1 : Nat) : Int) := by
        unfold maxLen at hN
        rw [wrap64 (by omega) (by omega)]
        omega
      exact ih (i + 1) _ w2 (by omega) F f104 f105 (by rw [f106, hw]) hk (fun _ => ⟨rfl, J⟩)
    | succ r2 ih2 =>
      intro j a80 w2 hjr F f104 f105 f106 f17 f112 f113 hk J hpc
      rw [rounds_succ]
      have hS : 124 < a80.tmps.size := by rw [F.sz]; exact hT
      refine wp_seq (wp_region_lit ?_)
      refine sg_put (x := do eqGuard .lss 3 (.tmp 113) (.tmp 112) (a80.eval (.tmp 113)) (a80.eval (.tmp 112)); binOp .lss 3 (a80.eval (.tmp 113)) (a80.eval (.tmp 112))) rfl rfl rfl (by rw [f113, f112]; exact run_lss _ _ _ _) ?_
      intro a81 ha81
      have F := F.put ha81 (by decide)
      have hS : 124 < a81.tmps.size := by rw [F.sz]; exact hT
      have f114 := ha81.eq (by rw [← ha81.sz]; omega)
      have f104 := (ha81.ne 104 (by decide)).trans f104
      have f105 := (ha81.ne 105 (by decide)).trans f105
      have f106 := (ha81.ne 106 (by decide)).trans f106
      have f17 := (ha81.ne 17 (by decide)).trans f17
      have f112 := (ha81.ne 112 (by decide)).trans f112
      have f113 := (ha81.ne 113 (by decide)).trans f113
      refine wpList_nil ?_
      refine wp_seq ?_
      have hjN : j < KN := by omega
      refine wp_cond_true (f114.trans (by simp only [Value.bool.injEq, decide_eq_true_eq]; omega)) (wp_skip ?_)
      refine wp_seq (wp_block (wp_seq (wp_region_lit ?_)))
      refine sg_mv (x := .tmp 113) rfl rfl (.inl rfl) ?_
      intro a82 ha82
      have F := F.put ha82 (by decide)
      have hS : 124 < a82.tmps.size := by rw [F.sz]; exact hT
      have f115 := (ha82.eq (by rw [← ha82.sz]; omega)).trans f113
      have f104 := (ha82.ne 104 (by decide)).trans f104
      have f105 := (ha82.ne 105 (by decide)).trans f105
      have f106 := (ha82.ne 106 (by decide)).trans f106
      have f17 := (ha82.ne 17 (by decide)).trans f17
      have f112 := (ha82.ne 112 (by decide)).trans f112
      have f113 := (ha82.ne 113 (by decide)).trans f113
      refine sg_mv (x := .tmp 115) rfl rfl (.inr rfl) ?_
      intro a83 ha83
      have F := F.put ha83 (by decide)
      have hS : 124 < a83.tmps.size := by rw [F.sz]; exact hT
      have f18 := (ha83.eq (by rw [← ha83.sz]; omega)).trans f115
      have f104 := (ha83.ne 104 (by decide)).trans f104
      have f105 := (ha83.ne 105 (by decide)).trans f105
      have f106 := (ha83.ne 106 (by decide)).trans f106
      have f17 := (ha83.ne 17 (by decide)).trans f17
      have f112 := (ha83.ne 112 (by decide)).trans f112
      have f113 := (ha83.ne 113 (by decide)).trans f113
      have f115 := (ha83.ne 115 (by decide)).trans f115
      refine wpList_nil ?_
      refine wp_region_lit ?_
      refine sg_put (v := .pointer (some ⟨pb, 0 + 0, none⟩)) (x := Instr.fieldAt 97 (a83.eval (.tmp 17)) 0) rfl rfl rfl (by rw [f17, run_field' hfu hff hfi hfz, addr_add, hfo]) ?_
      intro a84 ha84
      have F := F.put ha84 (by decide)
      have hS : 124 < a84.tmps.size := by rw [F.sz]; exact hT
      have f116 := ha84.eq (by rw [← ha84.sz]; omega)
      have f104 := (ha84.ne 104 (by decide)).trans f104
      have f105 := (ha84.ne 105 (by decide)).trans f105
      have f106 := (ha84.ne 106 (by decide)).trans f106
      have f17 := (ha84.ne 17 (by decide)).trans f17
      have f112 := (ha84.ne 112 (by decide)).trans f112
      have f113 := (ha84.ne 113 (by decide)).trans f113
      have f115 := (ha84.ne 115 (by decide)).trans f115
      have f18 := (ha84.ne 18 (by decide)).trans f18
      have hld : ∀ (q : Nat) (u : Value), [Value.slice KA KN KC][q]? = some u → w2.cell? ⟨pb, 0 + 0 + q, none⟩ = some u := fun q u hu => by
        cases q with
        | zero => simp only [List.getElem?_cons_zero, Option.some.injEq] at hu; subst hu; simpa using hpc
        | succ q => simp at hu
      refine sg_put (v := .slice KA KN KC) (x := Instr.loadAt 38 (a84.eval (.tmp 116))) rfl rfl rfl (by rw [f116, run_load' (agg := false) fits_1 hld]; rfl) ?_
      intro a85 ha85
      have F := F.put ha85 (by decide)
      have hS : 124 < a85.tmps.size := by rw [F.sz]; exact hT
      have f117 := ha85.eq (by rw [← ha85.sz]; omega)
      have f104 := (ha85.ne 104 (by decide)).trans f104
      have f105 := (ha85.ne 105 (by decide)).trans f105
      have f106 := (ha85.ne 106 (by decide)).trans f106
      have f17 := (ha85.ne 17 (by decide)).trans f17
      have f112 := (ha85.ne 112 (by decide)).trans f112
      have f113 := (ha85.ne 113 (by decide)).trans f113
      have f115 := (ha85.ne 115 (by decide)).trans f115
      have f18 := (ha85.ne 18 (by decide)).trans f18
      have f116 := (ha85.ne 116 (by decide)).trans f116
      refine sg_mv (x := .tmp 18) rfl rfl (.inl rfl) ?_
      intro a86 ha86
      have F := F.put ha86 (by decide)
      have hS : 124 < a86.tmps.size := by rw [F.sz]; exact hT
      have f118 := (ha86.eq (by rw [← ha86.sz]; omega)).trans f18
      have f104 := (ha86.ne 104 (by decide)).trans f104
      have f105 := (ha86.ne 105 (by decide)).trans f105
      have f106 := (ha86.ne 106 (by decide)).trans f106
      have f17 := (ha86.ne 17 (by decide)).trans f17
      have f112 := (ha86.ne 112 (by decide)).trans f112
      have f113 := (ha86.ne 113 (by decide)).trans f113
      have f115 := (ha86.ne 115 (by decide)).trans f115
      have f18 := (ha86.ne 18 (by decide)).trans f18
      have f116 := (ha86.ne 116 (by decide)).trans f116
      have f117 := (ha86.ne 117 (by decide)).trans f117
      obtain ⟨A2, N2, C2, he2, _, hkey⟩ := (J.key i _ hy).2
      cases he2
      obtain ⟨B, O, X, hKA, hB, hX, hXf⟩ := hkey j hjN
      refine sg_put (v := .pointer (some ⟨B, O + j, none⟩)) (x := Instr.indexAt 38 (a86.eval (.tmp 117)) (a86.eval (.tmp 118))) rfl rfl rfl (by rw [f117, f118, hKA, run_index' und38s hib (by omega) (by omega), addr_add, hib1, Int.toNat_natCast, Nat.mul_one]) ?_
      intro a87 ha87
      have F := F.put ha87 (by decide)
      have hS : 124 < a87.tmps.size := by rw [F.sz]; exact hT
      have f119 := ha87.eq (by rw [← ha87.sz]; omega)
      have f104 := (ha87.ne 104 (by decide)).trans f104
      have f105 := (ha87.ne 105 (by decide)).trans f105
      have f106 := (ha87.ne 106 (by decide)).trans f106
      have f17 := (ha87.ne 17 (by decide)).trans f17
      have f112 := (ha87.ne 112 (by decide)).trans f112
      have f113 := (ha87.ne 113 (by decide)).trans f113
      have f115 := (ha87.ne 115 (by decide)).trans f115
      have f18 := (ha87.ne 18 (by decide)).trans f18
      have f116 := (ha87.ne 116 (by decide)).trans f116
      have f117 := (ha87.ne 117 (by decide)).trans f117
      have f118 := (ha87.ne 118 (by decide)).trans f118
      have hlb : ∀ (q : Nat) (u : Value), [Value.int .u8 X][q]? = some u → w2.cell? ⟨B, O + j + q, none⟩ = some u := fun q u hu => by
        cases q with
        | zero => simp only [List.getElem?_cons_zero, Option.some.injEq] at hu; subst hu; simpa using hX
        | succ q => simp at hu
      refine sg_put (v := .int .u8 X) (x := Instr.loadAt 5 (a87.eval (.tmp 119))) rfl rfl rfl (by rw [f119, run_load' (agg := false) fits_5 hlb]; rfl) ?_
      intro a88 ha88
      have F := F.put ha88 (by decide)
      have hS : 124 < a88.tmps.size := by rw [F.sz]; exact hT
      have f120 := ha88.eq (by rw [← ha88.sz]; omega)
      have f104 := (ha88.ne 104 (by decide)).trans f104
      have f105 := (ha88.ne 105 (by decide)).trans f105
      have f106 := (ha88.ne 106 (by decide)).trans f106
      have f17 := (ha88.ne 17 (by decide)).trans f17
      have f112 := (ha88.ne 112 (by decide)).trans f112
      have f113 := (ha88.ne 113 (by decide)).trans f113
      have f115 := (ha88.ne 115 (by decide)).trans f115
      have f18 := (ha88.ne 18 (by decide)).trans f18
      have f116 := (ha88.ne 116 (by decide)).trans f116
      have f117 := (ha88.ne 117 (by decide)).trans f117
      have f118 := (ha88.ne 118 (by decide)).trans f118
      have f119 := (ha88.ne 119 (by decide)).trans f119
      obtain ⟨Z, hZ⟩ := run_xor (P := Tryd.prog) (w := w2) (.tmp 120) (.const (.int .u8 255)) X 255
      refine sg_put (v := .int .u8 Z) (x := do eqGuard .xor 5 (.tmp 120) (.const (.int .u8 255)) (a88.eval (.tmp 120)) (.int .u8 255); binOp .xor 5 (a88.eval (.tmp 120)) (.int .u8 255)) rfl rfl rfl (by rw [f120]; exact hZ) ?_
      intro a89 ha89
      have F := F.put ha89 (by decide)
      have hS : 124 < a89.tmps.size := by rw [F.sz]; exact hT
      have f121 := ha89.eq (by rw [← ha89.sz]; omega)
      have f104 := (ha89.ne 104 (by decide)).trans f104
      have f105 := (ha89.ne 105 (by decide)).trans f105
      have f106 := (ha89.ne 106 (by decide)).trans f106
      have f17 := (ha89.ne 17 (by decide)).trans f17
      have f112 := (ha89.ne 112 (by decide)).trans f112
      have f113 := (ha89.ne 113 (by decide)).trans f113
      have f115 := (ha89.ne 115 (by decide)).trans f115
      have f18 := (ha89.ne 18 (by decide)).trans f18
      have f116 := (ha89.ne 116 (by decide)).trans f116
      have f117 := (ha89.ne 117 (by decide)).trans f117
      have f118 := (ha89.ne 118 (by decide)).trans f118
      have f119 := (ha89.ne 119 (by decide)).trans f119
      have f120 := (ha89.ne 120 (by decide)).trans f120
      refine sg_put (v := .pointer (some ⟨B, O + j, none⟩)) (x := Instr.indexAt 38 (a89.eval (.tmp 117)) (a89.eval (.tmp 118))) rfl rfl rfl (by rw [f117, f118, hKA, run_index' und38s hib (by omega) (by omega), addr_add, hib1, Int.toNat_natCast, Nat.mul_one]) ?_
      intro a90 ha90
      have F := F.put ha90 (by decide)
      have hS : 124 < a90.tmps.size := by rw [F.sz]; exact hT
      have f122 := ha90.eq (by rw [← ha90.sz]; omega)
      have f104 := (ha90.ne 104 (by decide)).trans f104
      have f105 := (ha90.ne 105 (by decide)).trans f105
      have f106 := (ha90.ne 106 (by decide)).trans f106
      have f17 := (ha90.ne 17 (by decide)).trans f17
      have f112 := (ha90.ne 112 (by decide)).trans f112
      have f113 := (ha90.ne 113 (by decide)).trans f113
      have f115 := (ha90.ne 115 (by decide)).trans f115
      have f18 := (ha90.ne 18 (by decide)).trans f18
      have f116 := (ha90.ne 116 (by decide)).trans f116
      have f117 := (ha90.ne 117 (by decide)).trans f117
      have f118 := (ha90.ne 118 (by decide)).trans f118
      have f119 := (ha90.ne 119 (by decide)).trans f119
      have f120 := (ha90.ne 120 (by decide)).trans f120
      have f121 := (ha90.ne 121 (by decide)).trans f121
      refine sg_st (x := Instr.storeAt 5 (a90.eval (.tmp 122)) (a90.eval (.tmp 121))) rfl rfl rfl (by rw [f122, f121]; exact run_storeByte hib hib1 hX hXf) ?_
      refine wpList_nil ?_
      have J := J.set (z := Z) hB hX
      have hk := hk.setCell (v := .int .u8 Z) (o := O + j) hB
      have hpc := cell_slice (z := Z) hX hpc
      refine wp_region_lit ?_
      refine sg_put (x := do eqGuard .add 3 (.tmp 113) (.const (.int .i64 1)) (a90.eval (.tmp 113)) (.int .i64 1); binOp .add 3 (a90.eval (.tmp 113)) (.int .i64 1)) rfl rfl rfl (by rw [f113]; exact run_add _ _ _ _) ?_
      intro a91 ha91
      have F := F.put ha91 (by decide)
      have hS : 124 < a91.tmps.size := by rw [F.sz]; exact hT
      have f123 := ha91.eq (by rw [← ha91.sz]; omega)
      have f104 := (ha91.ne 104 (by decide)).trans f104
      have f105 := (ha91.ne 105 (by decide)).trans f105
      have f106 := (ha91.ne 106 (by decide)).trans f106
      have f17 := (ha91.ne 17 (by decide)).trans f17
      have f112 := (ha91.ne 112 (by decide)).trans f112
      have f113 := (ha91.ne 113 (by decide)).trans f113
      refine sg_mv (x := .tmp 123) rfl rfl (.inl rfl) ?_
      intro a92 ha92
      have F := F.put ha92 (by decide)
      have hS : 124 < a92.tmps.size := by rw [F.sz]; exact hT
      have f113 := (ha92.eq (by rw [← ha92.sz]; omega)).trans f123
      have f104 := (ha92.ne 104 (by decide)).trans f104
      have f105 := (ha92.ne 105 (by decide)).trans f105
      have f106 := (ha92.ne 106 (by decide)).trans f106
      have f17 := (ha92.ne 17 (by decide)).trans f17
      have f112 := (ha92.ne 112 (by decide)).trans f112
      have f123 := (ha92.ne 123 (by decide)).trans f123
      refine wpList_nil ?_
      have hw : IntKind.i64.wrap ((j : Int) + 1) = ((j + 1 : Nat) : Int) := by
        unfold maxLen at hKN
        rw [wrap64 (by omega) (by omega)]
        omega
      exact ih2 (j + 1) _ _ (by omega) F f104 f105 f106 f17 f112 (by rw [f113, hw]) hk J hpc
end Go.Fm

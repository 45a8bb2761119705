/-
  A part of the proof: PSeg32.
-/
import Derived.Test.YtjmjijgnbjkpnaaPSeg
set_option linter.all false
set_option autoImplicit true
/-
  A loop that changes the bytes in a fresh row's elements (function 5, region 32).
-/
set_option maxRecDepth 100000
set_option linter.unusedVariables false
set_option linter.unusedSimpArgs false
namespace Go.Fm
open Go Go.Proofs Go.RowKit
/-- A node of a code. -/
def nav : List Nat → Code → Code
  | [], c => c
  | 0 :: p, .seq a _ => nav p a
  | _ :: p, .seq _ b => nav p b
  | 0 :: p, .cond _ a _ => nav p a
  | _ :: p, .cond _ _ b => nav p b
  | _ :: p, .block _ a => nav p a
  | _ :: p, .loop a => nav p a
  | _ :: _, c => c
noncomputable def bodyOf (f : Func) : Code := f.body.getD .skip
theorem wrap64 {z : Int} (h1 : -9223372036854775808 ≤ z) (h2 : z ≤ 9223372036854775807) : IntKind.i64.wrap z = z := by
  unfold IntKind.wrap
  simp [IntKind.bits, IntKind.signed]
  omega
theorem fits_1 : fits Try.prog 22 1 false = true := by kernel_rfl
theorem fits_5 : fits Try.prog 5 1 false = true := by kernel_rfl
theorem und22s : Try.prog.underlying 22 = some (.slice 5) := by kernel_rfl
noncomputable def seg5_32 : Code := nav [1, 1, 1, 1, 0, 1, 0, 0, 1, 1, 0, 0, 1, 1, 1, 1, 1, 1, 1] (bodyOf Try.f5)
theorem und47r : Try.prog.underlying 47 = some (.slice 59) := by kernel_rfl
theorem info59e : (Try.prog.info? 59).map (fun i => (i.size, i.zero.map (fun z => z.cells.size))) = some (2, some 2) := by kernel_rfl
theorem fits59e : fits Try.prog 59 2 true = true := by kernel_rfl
theorem fld59_1 : ∃ fields fd i, Try.prog.underlying 59 = some (.struct fields) ∧ fields[1]? = some fd ∧ Try.prog.info? fd.type = some i ∧ i.size ≠ 0 ∧ fd.offset = 1 := by
  have h : (match Try.prog.underlying 59 with | some (.struct fields) => (match fields[1]? with | some fd => (match Try.prog.info? fd.type with | some i => decide (i.size ≠ 0) && decide (fd.offset = 1) | none => false) | none => false) | _ => false) = true := by kernel_rfl
  split at h
  · rename_i fields h1
    split at h
    · rename_i fd h2
      split at h
      · rename_i i h3
        simp only [Bool.and_eq_true, decide_eq_true_eq] at h
        exact ⟨fields, fd, i, h1, h2, h3, h.1, h.2⟩
      · cases h
    · cases h
  · cases h
set_option maxHeartbeats 4000000 in
theorem piece5_32 (b : Bool) : PieceOk (cfg b) pc5_32 seg5_32 := by
  intro S0 g w0 H a0 e Q vs hO he hvs hok hQ
  obtain ⟨fields, fd, fi, hfu, hff, hfi, hfz, hfo⟩ := fld59_1
  obtain ⟨ie, hie, hie1, ze, hze, hze1⟩ : ∃ ie, Try.prog.info? 59 = some ie ∧ ie.size = 2 ∧ ∃ z, ie.zero = some z ∧ z.cells.size = 2 := by
    have := info59e
    cases h : Try.prog.info? 59 with
    | none => rw [h] at this; cases this
    | some i =>
      rw [h] at this
      simp only [Option.map_some, Option.some.injEq, Prod.mk.injEq, Option.map_eq_some_iff] at this
      obtain ⟨h1, z, h2, h3⟩ := this
      exact ⟨i, rfl, h1, z, h2, h3⟩
  obtain ⟨ib, hib, hib1⟩ : ∃ i, Try.prog.info? 5 = some i ∧ i.size = 1 := by
    obtain ⟨i, h1, h2, h3, h4⟩ := info_parts info5
    exact ⟨i, h1, h3⟩
  have hT : 163 < a0.tmps.size := by
    simp only [pc5_32, projL] at hvs
    split at hvs
    · split at hvs
      · rename_i h2
        split at h2
        · rename_i v h3
          have h4 := (List.getElem?_eq_some_iff.1 h3).1
          have h5 := RVs.length he
          rw [Array.length_toList] at h5
          omega
        · cases h2
      · cases hvs
    · cases hvs
  have hus := projL_RVs he hvs
  obtain ⟨hc⟩ : Nonempty (Calls Try.prog 23 #[a0.eval (.tmp 5), .slice none 0 0] w0 fun e w' => ∃ a n c, e = .returned (.slice a n c) ∧ n ≤ maxLen ∧ Kept w0 w' ∧ (0 < n → ∃ hb ho ys, a = some ⟨hb, ho, none⟩ ∧ JInv w0 w' 2 1 hb ho n ys)) := by
    refine ⟨?_⟩
    cases hus with
    | cons u us v vs h1 hs =>
      exact row_calls hO hok (.cons _ _ _ _ h1 (.cons _ _ _ _ (.one _ _ (.c _ _ .nilsl) rfl) .nil))
  have F := SegF.refl a0 pc5_32.clob
  show Code.wp Try.prog seg5_32 Q a0 w0
  refine wp_seq (wp_region_lit ?_)
  refine sg_mv (x := .tmp 5) rfl rfl (.inl rfl) ?_
  intro a1 ha1
  have F := F.put ha1 (by decide)
  have hS : 163 < a1.tmps.size := by rw [F.sz]; exact hT
  have f142 := ha1.eq (by rw [← ha1.sz]; omega)
  refine sg_call2 (x := .tmp 142) (y := .const (.slice none 0 0)) rfl rfl Try.func23 rfl (by kernel_rfl) (by rw [f142]; exact hc) ?_
  rintro e1 w1 ⟨A, N, c, rfl, hN, hk1, hJ⟩
  refine ⟨_, rfl, ?_⟩
  obtain ⟨a2, ha2⟩ : ∃ a2, a2 = a1.put (some 143) (.slice A N c) := ⟨_, rfl⟩
  have ha2' : PutOf a1 143 (.slice A N c) a2 := by rw [ha2]; exact putOf _ _ _
  show wpList _ _ _ _ (a1.put (some 143) (.slice A N c)) w1
  rw [← ha2]
  have F := F.put ha2' (by decide)
  have hS : 163 < a2.tmps.size := by rw [F.sz]; exact hT
  have f143 := ha2'.eq (by rw [← ha2'.sz]; omega)
  refine sg_len (x := .tmp 143) (t := 47) (e := 59) (n := N) (c := c) (A := A) rfl rfl rfl und47r f143 ?_
  intro a3 ha3
  have F := F.put ha3 (by decide)
  have hS : 163 < a3.tmps.size := by rw [F.sz]; exact hT
  have f144 := ha3.eq (by rw [← ha3.sz]; omega)
  have f143 := (ha3.ne 143 (by decide)).trans f143
  refine sg_mv (x := .const (.int .i64 0)) rfl rfl (.inl rfl) ?_
  intro a4 ha4
  have F := F.put ha4 (by decide)
  have hS : 163 < a4.tmps.size := by rw [F.sz]; exact hT
  have f145 := ha4.eq (by rw [← ha4.sz]; omega)
  have f143 := (ha4.ne 143 (by decide)).trans f143
  have f144 := (ha4.ne 144 (by decide)).trans f144
  change a4.eval (.tmp 145) = .int .i64 ((0 : Nat) : Int) at f145
  refine wpList_nil ?_
  obtain ⟨hb, ho, ys, hJ⟩ : ∃ hb ho ys, 0 < N → A = some ⟨hb, ho, none⟩ ∧ JInv w0 w1 2 1 hb ho N ys := by
    rcases Nat.eq_zero_or_pos N with h | h
    · exact ⟨0, 0, [], fun h2 => absurd h2 (by omega)⟩
    · obtain ⟨hb, ho, ys, h1, h2⟩ := hJ h
      exact ⟨hb, ho, ys, fun _ => ⟨h1, h2⟩⟩
  show Code.wp _ (Code.block 5 (Code.loop _)) Q a4 w1
  refine wp_block (wp_loop_rounds (N + 1) ?_)
  clear hO he hvs hok hus hc
  refine (?_ : ∀ (r i : Nat) (a : Act) (w : World), i + r = N → SegF a0 pc5_32.clob a → a.eval (.tmp 143) = .slice A N c → a.eval (.tmp 144) = .int .i64 (N : Int) → a.eval (.tmp 145) = .int .i64 (i : Int) → Kept w0 w → (0 < N → A = some ⟨hb, ho, none⟩ ∧ JInv w0 w 2 1 hb ho N ys) → Code.rounds _ _ _ (r + 1) a w) N 0 a4 w1 (by omega) F f143 f144 f145 hk1 hJ
  clear F f143 f144 f145 hJ hk1
  intro r
  induction r with
  | zero =>
    intro i a50 w hir F f143 f144 f145 hk hJ
    rw [rounds_succ]
    have hS : 163 < a50.tmps.size := by rw [F.sz]; exact hT
    refine wp_seq (wp_region_lit ?_)
    refine sg_put (x := do eqGuard .lss 3 (.tmp 145) (.tmp 144) (a50.eval (.tmp 145)) (a50.eval (.tmp 144)); binOp .lss 3 (a50.eval (.tmp 145)) (a50.eval (.tmp 144))) rfl rfl rfl (by rw [f145, f144]; exact run_lss _ _ _ _) ?_
    intro a51 ha51
    have F := F.put ha51 (by decide)
    have hS : 163 < a51.tmps.size := by rw [F.sz]; exact hT
    have f146 := ha51.eq (by rw [← ha51.sz]; omega)
    have f143 := (ha51.ne 143 (by decide)).trans f143
    have f144 := (ha51.ne 144 (by decide)).trans f144
    have f145 := (ha51.ne 145 (by decide)).trans f145
    refine wpList_nil ?_
    refine wp_seq ?_
    refine wp_cond_false (f146.trans (by simp only [Value.bool.injEq, decide_eq_false_iff_not]; omega)) (wp_exit ?_)
    show Exit.inBlock 5 Q (.exit 5) _ _
    simp only [Exit.inBlock, if_true]
    exact hQ _ _ hk F.sz F.same F.defers
  | succ r ih =>
    intro i a50 w hir F f143 f144 f145 hk hJ
    rw [rounds_succ]
    have hS : 163 < a50.tmps.size := by rw [F.sz]; exact hT
    refine wp_seq (wp_region_lit ?_)
    refine sg_put (x := do eqGuard .lss 3 (.tmp 145) (.tmp 144) (a50.eval (.tmp 145)) (a50.eval (.tmp 144)); binOp .lss 3 (a50.eval (.tmp 145)) (a50.eval (.tmp 144))) rfl rfl rfl (by rw [f145, f144]; exact run_lss _ _ _ _) ?_
    intro a51 ha51
    have F := F.put ha51 (by decide)
    have hS : 163 < a51.tmps.size := by rw [F.sz]; exact hT
    have f146 := ha51.eq (by rw [← ha51.sz]; omega)
    have f143 := (ha51.ne 143 (by decide)).trans f143
    have f144 := (ha51.ne 144 (by decide)).trans f144
    have f145 := (ha51.ne 145 (by decide)).trans f145
    refine wpList_nil ?_
    refine wp_seq ?_
    have hiN : i < N := by omega
    obtain ⟨rfl, J⟩ := hJ (by omega)
    refine wp_cond_true (f146.trans (by simp only [Value.bool.injEq, decide_eq_true_eq]; omega)) (wp_skip ?_)
    refine wp_seq (wp_block (wp_seq (wp_region_lit ?_)))
    refine sg_put (v := .pointer (some ⟨hb, ho + i * 2, none⟩)) (x := Instr.indexAt 47 (a51.eval (.tmp 143)) (a51.eval (.tmp 145))) rfl rfl rfl (by rw [f143, f145, run_index' und47r hie (by omega) (by omega), addr_add, hie1, Int.toNat_natCast]) ?_
    intro a52 ha52
    have F := F.put ha52 (by decide)
    have hS : 163 < a52.tmps.size := by rw [F.sz]; exact hT
    have f147 := ha52.eq (by rw [← ha52.sz]; omega)
    have f143 := (ha52.ne 143 (by decide)).trans f143
    have f144 := (ha52.ne 144 (by decide)).trans f144
    have f145 := (ha52.ne 145 (by decide)).trans f145
    have f146 := (ha52.ne 146 (by decide)).trans f146
    obtain ⟨cs, hcs1, hcs2, hcs3⟩ := cells_of (w := w) (b := hb) (o := ho + i * 2) 2 (fun q hq => by
      have := J.row i hiN q hq
      rwa [← Nat.add_assoc] at this)
    obtain ⟨y, hy⟩ : ∃ y, ys[i]? = some y := ⟨_, List.getElem?_eq_getElem (by rw [J.len]; exact hiN)⟩
    obtain ⟨hy1, hy2⟩ := J.key i y hy
    have hyk : cs[1]? = some y := by
      have h1 : 1 < cs.length := by omega
      have h2 := hcs2 1 _ (List.getElem?_eq_getElem h1)
      rw [← Nat.add_assoc] at hy1
      rw [hy1] at h2
      rw [List.getElem?_eq_getElem h1]
      exact h2.symm
    refine sg_put (v := .agg cs.toArray) (x := Instr.loadAt 59 (a52.eval (.tmp 147))) rfl rfl rfl (by rw [f147]; exact run_load' (agg := true) (by rw [hcs1]; exact fits59e) hcs2) ?_
    intro a53 ha53
    have F := F.put ha53 (by decide)
    have hS : 163 < a53.tmps.size := by rw [F.sz]; exact hT
    have f148 := ha53.eq (by rw [← ha53.sz]; omega)
    have f143 := (ha53.ne 143 (by decide)).trans f143
    have f144 := (ha53.ne 144 (by decide)).trans f144
    have f145 := (ha53.ne 145 (by decide)).trans f145
    have f146 := (ha53.ne 146 (by decide)).trans f146
    have f147 := (ha53.ne 147 (by decide)).trans f147
    refine sg_put (x := Instr.alloc 59 true (.tuple #[])) rfl rfl rfl (run_alloc' hie hze) ?_
    intro a54 ha54
    have F := F.put ha54 (by decide)
    have hS : 163 < a54.tmps.size := by rw [F.sz]; exact hT
    have f17 := ha54.eq (by rw [← ha54.sz]; omega)
    have f143 := (ha54.ne 143 (by decide)).trans f143
    have f144 := (ha54.ne 144 (by decide)).trans f144
    have f145 := (ha54.ne 145 (by decide)).trans f145
    have f146 := (ha54.ne 146 (by decide)).trans f146
    have f147 := (ha54.ne 147 (by decide)).trans f147
    have f148 := (ha54.ne 148 (by decide)).trans f148
    refine sg_st (x := Instr.storeAt 59 (a54.eval (.tmp 17)) (a54.eval (.tmp 148))) rfl rfl rfl (by rw [f17, f148]; exact run_storeNew hie (by rw [hie1, hcs1]) (by rw [hze1, hcs1]) hcs3) ?_
    refine wpList_nil ?_
    have hkn := kept_new (w := w) ze.cells 59 cs.toArray
    have hpc := cell_new (w := w) ze.cells 59 cs hyk
    generalize (w.alloc (.cells ze.cells 59)).setRow w.heap.size cs.toArray = w2 at *
    have J := J.grow hkn
    have hk := hk.trans hkn
    have hy2 := hy2.kept hkn
    generalize w.heap.size = pb at *
    clear hcs1 hcs2 hcs3 hyk hkn hy1
    refine wp_seq (wp_region_lit ?_)
    refine sg_put (v := .pointer (some ⟨pb, 0 + 1, none⟩)) (x := Instr.fieldAt 59 (a54.eval (.tmp 17)) 1) rfl rfl rfl (by rw [f17, run_field' hfu hff hfi hfz, addr_add, hfo]) ?_
    intro a55 ha55
    have F := F.put ha55 (by decide)
    have hS : 163 < a55.tmps.size := by rw [F.sz]; exact hT
    have f149 := ha55.eq (by rw [← ha55.sz]; omega)
    have f143 := (ha55.ne 143 (by decide)).trans f143
    have f144 := (ha55.ne 144 (by decide)).trans f144
    have f145 := (ha55.ne 145 (by decide)).trans f145
    have f17 := (ha55.ne 17 (by decide)).trans f17
    have hld : ∀ (q : Nat) (u : Value), [y][q]? = some u → w2.cell? ⟨pb, 0 + 1 + q, none⟩ = some u := fun q u hu => by
      cases q with
      | zero => simp only [List.getElem?_cons_zero, Option.some.injEq] at hu; subst hu; simpa using hpc
      | succ q => simp at hu
    refine sg_put (v := y) (x := Instr.loadAt 22 (a55.eval (.tmp 149))) rfl rfl rfl (by rw [f149, run_load' (agg := false) fits_1 hld]; rfl) ?_
    intro a56 ha56
    have F := F.put ha56 (by decide)
    have hS : 163 < a56.tmps.size := by rw [F.sz]; exact hT
    have f150 := ha56.eq (by rw [← ha56.sz]; omega)
    have f143 := (ha56.ne 143 (by decide)).trans f143
    have f144 := (ha56.ne 144 (by decide)).trans f144
    have f145 := (ha56.ne 145 (by decide)).trans f145
    have f17 := (ha56.ne 17 (by decide)).trans f17
    have f149 := (ha56.ne 149 (by decide)).trans f149
    obtain ⟨KA, KN, KC, rfl, hKN, hkey⟩ := hy2
    refine sg_len (x := .tmp 150) (t := 22) (e := 5) (n := KN) (c := KC) (A := KA) rfl rfl rfl und22s f150 ?_
    intro a57 ha57
    have F := F.put ha57 (by decide)
    have hS : 163 < a57.tmps.size := by rw [F.sz]; exact hT
    have f151 := ha57.eq (by rw [← ha57.sz]; omega)
    have f143 := (ha57.ne 143 (by decide)).trans f143
    have f144 := (ha57.ne 144 (by decide)).trans f144
    have f145 := (ha57.ne 145 (by decide)).trans f145
    have f17 := (ha57.ne 17 (by decide)).trans f17
    have f149 := (ha57.ne 149 (by decide)).trans f149
    have f150 := (ha57.ne 150 (by decide)).trans f150
    refine sg_mv (x := .const (.int .i64 0)) rfl rfl (.inl rfl) ?_
    intro a58 ha58
    have F := F.put ha58 (by decide)
    have hS : 163 < a58.tmps.size := by rw [F.sz]; exact hT
    have f152 := ha58.eq (by rw [← ha58.sz]; omega)
    have f143 := (ha58.ne 143 (by decide)).trans f143
    have f144 := (ha58.ne 144 (by decide)).trans f144
    have f145 := (ha58.ne 145 (by decide)).trans f145
    have f17 := (ha58.ne 17 (by decide)).trans f17
    have f149 := (ha58.ne 149 (by decide)).trans f149
    have f150 := (ha58.ne 150 (by decide)).trans f150
    have f151 := (ha58.ne 151 (by decide)).trans f151
    change a58.eval (.tmp 152) = .int .i64 ((0 : Nat) : Int) at f152
    refine wpList_nil ?_
    clear hkey hld
    refine wp_block (wp_loop_rounds (KN + 1) ?_)
    refine (?_ : ∀ (r2 j : Nat) (a : Act) (w2 : World), j + r2 = KN → SegF a0 pc5_32.clob a → a.eval (.tmp 143) = .slice (some ⟨hb, ho, none⟩) N c → a.eval (.tmp 144) = .int .i64 (N : Int) → a.eval (.tmp 145) = .int .i64 (i : Int) → a.eval (.tmp 17) = .pointer (some ⟨pb, 0, none⟩) → a.eval (.tmp 151) = .int .i64 (KN : Int) → a.eval (.tmp 152) = .int .i64 (j : Int) → Kept w0 w2 → JInv w0 w2 2 1 hb ho N ys → w2.cell? ⟨pb, 1, none⟩ = some (.slice KA KN KC) → Code.rounds _ _ _ (r2 + 1) a w2) KN 0 a58 w2 (by omega) F f143 f144 f145 f17 f151 f152 hk J (by simpa using hpc)
    clear F f143 f144 f145 f17 f149 f150 f151 f152 hJ hk J hpc
    intro r2
    induction r2 with
    | zero =>
      intro j a80 w2 hjr F f143 f144 f145 f17 f151 f152 hk J hpc
      rw [rounds_succ]
      have hS : 163 < a80.tmps.size := by rw [F.sz]; exact hT
      refine wp_seq (wp_region_lit ?_)
      refine sg_put (x := do eqGuard .lss 3 (.tmp 152) (.tmp 151) (a80.eval (.tmp 152)) (a80.eval (.tmp 151)); binOp .lss 3 (a80.eval (.tmp 152)) (a80.eval (.tmp 151))) rfl rfl rfl (by rw [f152, f151]; exact run_lss _ _ _ _) ?_
      intro a81 ha81
      have F := F.put ha81 (by decide)
      have hS : 163 < a81.tmps.size := by rw [F.sz]; exact hT
      have f153 := ha81.eq (by rw [← ha81.sz]; omega)
      have f143 := (ha81.ne 143 (by decide)).trans f143
      have f144 := (ha81.ne 144 (by decide)).trans f144
      have f145 := (ha81.ne 145 (by decide)).trans f145
      have f17 := (ha81.ne 17 (by decide)).trans f17
      have f151 := (ha81.ne 151 (by decide)).trans f151
      have f152 := (ha81.ne 152 (by decide)).trans f152
      refine wpList_nil ?_
      refine wp_seq ?_
      refine wp_cond_false (f153.trans (by simp only [Value.bool.injEq, decide_eq_false_iff_not]; omega)) (wp_exit ?_)
      simp only [Exit.then, Exit.inBlock, if_true]
      refine wp_region_lit ?_
      refine sg_put (x := do eqGuard .add 3 (.tmp 145) (.const (.int .i64 1)) (a81.eval (.tmp 145)) (.int .i64 1); binOp .add 3 (a81.eval (.tmp 145)) (.int .i64 1)) rfl rfl rfl (by rw [f145]; exact run_add _ _ _ _) ?_
      intro a82 ha82
      have F := F.put ha82 (by decide)
      have hS : 163 < a82.tmps.size := by rw [F.sz]; exact hT
      have f163 := ha82.eq (by rw [← ha82.sz]; omega)
      have f143 := (ha82.ne 143 (by decide)).trans f143
      have f144 := (ha82.ne 144 (by decide)).trans f144
      have f145 := (ha82.ne 145 (by decide)).trans f145
      have f17 := (ha82.ne 17 (by decide)).trans f17
      have f151 := (ha82.ne 151 (by decide)).trans f151
      have f152 := (ha82.ne 152 (by decide)).trans f152
      refine sg_mv (x := .tmp 163) rfl rfl (.inl rfl) ?_
      intro a83 ha83
      have F := F.put ha83 (by decide)
      have hS : 163 < a83.tmps.size := by rw [F.sz]; exact hT
      have f145 := (ha83.eq (by rw [← ha83.sz]; omega)).trans f163
      have f143 := (ha83.ne 143 (by decide)).trans f143
      have f144 := (ha83.ne 144 (by decide)).trans f144
      have f17 := (ha83.ne 17 (by decide)).trans f17
      have f151 := (ha83.ne 151 (by decide)).trans f151
      have f152 := (ha83.ne 152 (by decide)).trans f152
      have f163 := (ha83.ne 163 (by decide)).trans f163
      refine wpList_nil ?_
      have hw : IntKind.i64.wrap ((i : Int) + 1) = ((i + 1 : Nat) : Int) := by
        unfold maxLen at hN
        rw [wrap64 (by omega) (by omega)]
        omega
      exact ih (i + 1) _ w2 (by omega) F f143 f144 (by rw [f145, hw]) hk (fun _ => ⟨rfl, J⟩)
    | succ r2 ih2 =>
      intro j a80 w2 hjr F f143 f144 f145 f17 f151 f152 hk J hpc
      rw [rounds_succ]
      have hS : 163 < a80.tmps.size := by rw [F.sz]; exact hT
      refine wp_seq (wp_region_lit ?_)
      refine sg_put (x := do eqGuard .lss 3 (.tmp 152) (.tmp 151) (a80.eval (.tmp 152)) (a80.eval (.tmp 151)); binOp .lss 3 (a80.eval (.tmp 152)) (a80.eval (.tmp 151))) rfl rfl rfl (by rw [f152, f151]; exact run_lss _ _ _ _) ?_
      intro a81 ha81
      have F := F.put ha81 (by decide)
      have hS : 163 < a81.tmps.size := by rw [F.sz]; exact hT
      have f153 := ha81.eq (by rw [← ha81.sz]; omega)
      have f143 := (ha81.ne 143 (by decide)).trans f143
      have f144 := (ha81.ne 144 (by decide)).trans f144
      have f145 := (ha81.ne 145 (by decide)).trans f145
      have f17 := (ha81.ne 17 (by decide)).trans f17
      have f151 := (ha81.ne 151 (by decide)).trans f151
      have f152 := (ha81.ne 152 (by decide)).trans f152
      refine wpList_nil ?_
      refine wp_seq ?_
      have hjN : j < KN := by omega
      refine wp_cond_true (f153.trans (by simp only [Value.bool.injEq, decide_eq_true_eq]; omega)) (wp_skip ?_)
      refine wp_seq (wp_block (wp_seq (wp_region_lit ?_)))
      refine sg_mv (x := .tmp 152) rfl rfl (.inl rfl) ?_
      intro a82 ha82
      have F := F.put ha82 (by decide)
      have hS : 163 < a82.tmps.size := by rw [F.sz]; exact hT
      have f154 := (ha82.eq (by rw [← ha82.sz]; omega)).trans f152
      have f143 := (ha82.ne 143 (by decide)).trans f143
      have f144 := (ha82.ne 144 (by decide)).trans f144
      have f145 := (ha82.ne 145 (by decide)).trans f145
      have f17 := (ha82.ne 17 (by decide)).trans f17
      have f151 := (ha82.ne 151 (by decide)).trans f151
      have f152 := (ha82.ne 152 (by decide)).trans f152
      refine sg_mv (x := .tmp 154) rfl rfl (.inr rfl) ?_
      intro a83 ha83
      have F := F.put ha83 (by decide)
      have hS : 163 < a83.tmps.size := by rw [F.sz]; exact hT
      have f18 := (ha83.eq (by rw [← ha83.sz]; omega)).trans f154
      have f143 := (ha83.ne 143 (by decide)).trans f143
      have f144 := (ha83.ne 144 (by decide)).trans f144
      have f145 := (ha83.ne 145 (by decide)).trans f145
      have f17 := (ha83.ne 17 (by decide)).trans f17
      have f151 := (ha83.ne 151 (by decide)).trans f151
      have f152 := (ha83.ne 152 (by decide)).trans f152
      have f154 := (ha83.ne 154 (by decide)).trans f154
      refine wpList_nil ?_
      refine wp_region_lit ?_
      refine sg_put (v := .pointer (some ⟨pb, 0 + 1, none⟩)) (x := Instr.fieldAt 59 (a83.eval (.tmp 17)) 1) rfl rfl rfl (by rw [f17, run_field' hfu hff hfi hfz, addr_add, hfo]) ?_
      intro a84 ha84
      have F := F.put ha84 (by decide)
      have hS : 163 < a84.tmps.size := by rw [F.sz]; exact hT
      have f155 := ha84.eq (by rw [← ha84.sz]; omega)
      have f143 := (ha84.ne 143 (by decide)).trans f143
      have f144 := (ha84.ne 144 (by decide)).trans f144
      have f145 := (ha84.ne 145 (by decide)).trans f145
      have f17 := (ha84.ne 17 (by decide)).trans f17
      have f151 := (ha84.ne 151 (by decide)).trans f151
      have f152 := (ha84.ne 152 (by decide)).trans f152
      have f154 := (ha84.ne 154 (by decide)).trans f154
      have f18 := (ha84.ne 18 (by decide)).trans f18
      have hld : ∀ (q : Nat) (u : Value), [Value.slice KA KN KC][q]? = some u → w2.cell? ⟨pb, 0 + 1 + q, none⟩ = some u := fun q u hu => by
        cases q with
        | zero => simp only [List.getElem?_cons_zero, Option.some.injEq] at hu; subst hu; simpa using hpc
        | succ q => simp at hu
      refine sg_put (v := .slice KA KN KC) (x := Instr.loadAt 22 (a84.eval (.tmp 155))) rfl rfl rfl (by rw [f155, run_load' (agg := false) fits_1 hld]; rfl) ?_
      intro a85 ha85
      have F := F.put ha85 (by decide)
      have hS : 163 < a85.tmps.size := by rw [F.sz]; exact hT
      have f156 := ha85.eq (by rw [← ha85.sz]; omega)
      have f143 := (ha85.ne 143 (by decide)).trans f143
      have f144 := (ha85.ne 144 (by decide)).trans f144
      have f145 := (ha85.ne 145 (by decide)).trans f145
      have f17 := (ha85.ne 17 (by decide)).trans f17
      have f151 := (ha85.ne 151 (by decide)).trans f151
      have f152 := (ha85.ne 152 (by decide)).trans f152
      have f154 := (ha85.ne 154 (by decide)).trans f154
      have f18 := (ha85.ne 18 (by decide)).trans f18
      have f155 := (ha85.ne 155 (by decide)).trans f155
      refine sg_mv (x := .tmp 18) rfl rfl (.inl rfl) ?_
      intro a86 ha86
      have F := F.put ha86 (by decide)
      have hS : 163 < a86.tmps.size := by rw [F.sz]; exact hT
      have f157 := (ha86.eq (by rw [← ha86.sz]; omega)).trans f18
      have f143 := (ha86.ne 143 (by decide)).trans f143
      have f144 := (ha86.ne 144 (by decide)).trans f144
      have f145 := (ha86.ne 145 (by decide)).trans f145
      have f17 := (ha86.ne 17 (by decide)).trans f17
      have f151 := (ha86.ne 151 (by decide)).trans f151
      have f152 := (ha86.ne 152 (by decide)).trans f152
      have f154 := (ha86.ne 154 (by decide)).trans f154
      have f18 := (ha86.ne 18 (by decide)).trans f18
      have f155 := (ha86.ne 155 (by decide)).trans f155
      have f156 := (ha86.ne 156 (by decide)).trans f156
      obtain ⟨A2, N2, C2, he2, _, hkey⟩ := (J.key i _ hy).2
      cases he2
      obtain ⟨B, O, X, hKA, hB, hX, hXf⟩ := hkey j hjN
      refine sg_put (v := .pointer (some ⟨B, O + j, none⟩)) (x := Instr.indexAt 22 (a86.eval (.tmp 156)) (a86.eval (.tmp 157))) rfl rfl rfl (by rw [f156, f157, hKA, run_index' und22s hib (by omega) (by omega), addr_add, hib1, Int.toNat_natCast, Nat.mul_one]) ?_
      intro a87 ha87
      have F := F.put ha87 (by decide)
      have hS : 163 < a87.tmps.size := by rw [F.sz]; exact hT
      have f158 := ha87.eq (by rw [← ha87.sz]; omega)
      have f143 := (ha87.ne 143 (by decide)).trans f143
      have f144 := (ha87.ne 144 (by decide)).trans f144
      have f145 := (ha87.ne 145 (by decide)).trans f145
      have f17 := (ha87.ne 17 (by decide)).trans f17
      have f151 := (ha87.ne 151 (by decide)).trans f151
      have f152 := (ha87.ne 152 (by decide)).trans f152
      have f154 := (ha87.ne 154 (by decide)).trans f154
      have f18 := (ha87.ne 18 (by decide)).trans f18
      have f155 := (ha87.ne 155 (by decide)).trans f155
      have f156 := (ha87.ne 156 (by decide)).trans f156
      have f157 := (ha87.ne 157 (by decide)).trans f157
      have hlb : ∀ (q : Nat) (u : Value), [Value.int .u8 X][q]? = some u → w2.cell? ⟨B, O + j + q, none⟩ = some u := fun q u hu => by
        cases q with
        | zero => simp only [List.getElem?_cons_zero, Option.some.injEq] at hu; subst hu; simpa using hX
        | succ q => simp at hu
      refine sg_put (v := .int .u8 X) (x := Instr.loadAt 5 (a87.eval (.tmp 158))) rfl rfl rfl (by rw [f158, run_load' (agg := false) fits_5 hlb]; rfl) ?_
      intro a88 ha88
      have F := F.put ha88 (by decide)
      have hS : 163 < a88.tmps.size := by rw [F.sz]; exact hT
      have f159 := ha88.eq (by rw [← ha88.sz]; omega)
      have f143 := (ha88.ne 143 (by decide)).trans f143
      have f144 := (ha88.ne 144 (by decide)).trans f144
      have f145 := (ha88.ne 145 (by decide)).trans f145
      have f17 := (ha88.ne 17 (by decide)).trans f17
      have f151 := (ha88.ne 151 (by decide)).trans f151
      have f152 := (ha88.ne 152 (by decide)).trans f152
      have f154 := (ha88.ne 154 (by decide)).trans f154
      have f18 := (ha88.ne 18 (by decide)).trans f18
      have f155 := (ha88.ne 155 (by decide)).trans f155
      have f156 := (ha88.ne 156 (by decide)).trans f156
      have f157 := (ha88.ne 157 (by decide)).trans f157
      have f158 := (ha88.ne 158 (by decide)).trans f158
      obtain ⟨Z, hZ⟩ := run_xor (P := Try.prog) (w := w2) (.tmp 159) (.const (.int .u8 255)) X 255
      refine sg_put (v := .int .u8 Z) (x := do eqGuard .xor 5 (.tmp 159) (.const (.int .u8 255)) (a88.eval (.tmp 159)) (.int .u8 255); binOp .xor 5 (a88.eval (.tmp 159)) (.int .u8 255)) rfl rfl rfl (by rw [f159]; exact hZ) ?_
      intro a89 ha89
      have F := F.put ha89 (by decide)
      have hS : 163 < a89.tmps.size := by rw [F.sz]; exact hT
      have f160 := ha89.eq (by rw [← ha89.sz]; omega)
      have f143 := (ha89.ne 143 (by decide)).trans f143
      have f144 := (ha89.ne 144 (by decide)).trans f144
      have f145 := (ha89.ne 145 (by decide)).trans f145
      have f17 := (ha89.ne 17 (by decide)).trans f17
      have f151 := (ha89.ne 151 (by decide)).trans f151
      have f152 := (ha89.ne 152 (by decide)).trans f152
      have f154 := (ha89.ne 154 (by decide)).trans f154
      have f18 := (ha89.ne 18 (by decide)).trans f18
      have f155 := (ha89.ne 155 (by decide)).trans f155
      have f156 := (ha89.ne 156 (by decide)).trans f156
      have f157 := (ha89.ne 157 (by decide)).trans f157
      have f158 := (ha89.ne 158 (by decide)).trans f158
      have f159 := (ha89.ne 159 (by decide)).trans f159
      refine sg_put (v := .pointer (some ⟨B, O + j, none⟩)) (x := Instr.indexAt 22 (a89.eval (.tmp 156)) (a89.eval (.tmp 157))) rfl rfl rfl (by rw [f156, f157, hKA, run_index' und22s hib (by omega) (by omega), addr_add, hib1, Int.toNat_natCast, Nat.mul_one]) ?_
      intro a90 ha90
      have F := F.put ha90 (by decide)
      have hS : 163 < a90.tmps.size := by rw [F.sz]; exact hT
      have f161 := ha90.eq (by rw [← ha90.sz]; omega)
      have f143 := (ha90.ne 143 (by decide)).trans f143
      have f144 := (ha90.ne 144 (by decide)).trans f144
      have f145 := (ha90.ne 145 (by decide)).trans f145
      have f17 := (ha90.ne 17 (by decide)).trans f17
      have f151 := (ha90.ne 151 (by decide)).trans f151
      have f152 := (ha90.ne 152 (by decide)).trans f152
      have f154 := (ha90.ne 154 (by decide)).trans f154
      have f18 := (ha90.ne 18 (by decide)).trans f18
      have f155 := (ha90.ne 155 (by decide)).trans f155
      have f156 := (ha90.ne 156 (by decide)).trans f156
      have f157 := (ha90.ne 157 (by decide)).trans f157
      have f158 := (ha90.ne 158 (by decide)).trans f158
      have f159 := (ha90.ne 159 (by decide)).trans f159
      have f160 := (ha90.ne 160 (by decide)).trans f160
      refine sg_st (x := Instr.storeAt 5 (a90.eval (.tmp 161)) (a90.eval (.tmp 160))) rfl rfl rfl (by rw [f161, f160]; exact run_storeByte hib hib1 hX hXf) ?_
      refine wpList_nil ?_
      have J := J.set (z := Z) hB hX
      have hk := hk.setCell (v := .int .u8 Z) (o := O + j) hB
      have hpc := cell_slice (z := Z) hX hpc
      refine wp_region_lit ?_
      refine sg_put (x := do eqGuard .add 3 (.tmp 152) (.const (.int .i64 1)) (a90.eval (.tmp 152)) (.int .i64 1); binOp .add 3 (a90.eval (.tmp 152)) (.int .i64 1)) rfl rfl rfl (by rw [f152]; exact run_add _ _ _ _) ?_
      intro a91 ha91
      have F := F.put ha91 (by decide)
      have hS : 163 < a91.tmps.size := by rw [F.sz]; exact hT
      have f162 := ha91.eq (by rw [← ha91.sz]; omega)
      have f143 := (ha91.ne 143 (by decide)).trans f143
      have f144 := (ha91.ne 144 (by decide)).trans f144
      have f145 := (ha91.ne 145 (by decide)).trans f145
      have f17 := (ha91.ne 17 (by decide)).trans f17
      have f151 := (ha91.ne 151 (by decide)).trans f151
      have f152 := (ha91.ne 152 (by decide)).trans f152
      refine sg_mv (x := .tmp 162) rfl rfl (.inl rfl) ?_
      intro a92 ha92
      have F := F.put ha92 (by decide)
      have hS : 163 < a92.tmps.size := by rw [F.sz]; exact hT
      have f152 := (ha92.eq (by rw [← ha92.sz]; omega)).trans f162
      have f143 := (ha92.ne 143 (by decide)).trans f143
      have f144 := (ha92.ne 144 (by decide)).trans f144
      have f145 := (ha92.ne 145 (by decide)).trans f145
      have f17 := (ha92.ne 17 (by decide)).trans f17
      have f151 := (ha92.ne 151 (by decide)).trans f151
      have f162 := (ha92.ne 162 (by decide)).trans f162
      refine wpList_nil ?_
      have hw : IntKind.i64.wrap ((j : Int) + 1) = ((j + 1 : Nat) : Int) := by
        unfold maxLen at hKN
        rw [wrap64 (by omega) (by omega)]
        omega
      exact ih2 (j + 1) _ _ (by omega) F f143 f144 f145 f17 f151 (by rw [f152, hw]) hk J hpc
end Go.Fm

/-
  A part of the proof: PSegA.
-/
import Derived.Test.YtjmjijgnbjkpnaaDoorPPri
set_option linter.all false
set_option autoImplicit true
/-
  Rows that a call made anew: what is known of them while their bytes are changed.
-/
set_option maxRecDepth 100000
set_option linter.unusedVariables false
set_option linter.unusedSimpArgs false
namespace Go.Fm
open Go Go.Proofs Go.RowKit
/-- A row of bytes that may be changed. -/
def JKey (m : Nat) (w : World) (y : Value) : Prop := ∃ a n c, y = .slice a n c ∧ n ≤ maxLen ∧ ∀ j, j < n → ∃ b o x, a = some ⟨b, o, none⟩ ∧ m ≤ b ∧ w.cell? ⟨b, o + j, none⟩ = some (.int .u8 x) ∧ w.frozen? ⟨b, o + j, none⟩ = false
/-- A row of elements, with such a row of bytes in each. -/
structure JInv (w0 w : World) (sz k hb ho n : Nat) (ys : List Value) : Prop where
  kept : Kept w0 w
  len : ys.length = n
  row : ∀ i, i < n → ∀ q, q < sz → ∃ u, w.cell? ⟨hb, ho + (i * sz + q), none⟩ = some u ∧ u.oneCell' = true
  key : ∀ i y, ys[i]? = some y → w.cell? ⟨hb, ho + (i * sz + k), none⟩ = some y ∧ JKey w0.heap.size w y
theorem Kept.trans {w w1 w2 : World} (h : Kept w w1) (k : Kept w1 w2) : Kept w w2 :=
  ⟨Nat.le_trans h.size k.size, fun b hb => (k.heap b (Nat.lt_of_lt_of_le hb h.size)).trans (h.heap b hb), k.os.trans h.os, k.tape.trans h.tape, k.output.trans h.output⟩
theorem Kept.refl (w : World) : Kept w w := ⟨Nat.le_refl _, fun _ _ => rfl, rfl, rfl, rfl⟩
theorem Kept.cell {w w' : World} (h : Kept w w') {b o : Nat} {v : Value} (hc : w.cell? ⟨b, o, none⟩ = some v) : w'.cell? ⟨b, o, none⟩ = some v := by
  rw [← hc]
  simp [World.cell?, h.heap b (lt_of_cell hc)]
theorem Kept.frz {w w' : World} (h : Kept w w') {b o : Nat} {v : Value} (hc : w.cell? ⟨b, o, none⟩ = some v) : w'.frozen? ⟨b, o, none⟩ = w.frozen? ⟨b, o, none⟩ := by
  simp [World.frozen?, h.heap b (lt_of_cell hc)]
theorem Kept.setCell {w0 w : World} (h : Kept w0 w) {b o : Nat} {v : Value} (hb : w0.heap.size ≤ b) : Kept w0 (w.setCell ⟨b, o, none⟩ v) where
  size := by simpa using h.size
  heap := fun k hk => by rw [heap_setCell_other _ _ _ _ (by show k ≠ b; omega)]; exact h.heap k hk
  os := h.os
  tape := h.tape
  output := h.output
theorem JKey.kept {m : Nat} {w w' : World} {y : Value} (h : JKey m w y) (k : Kept w w') : JKey m w' y := by
  obtain ⟨a, n, c, rfl, hm, hj⟩ := h
  refine ⟨a, n, c, rfl, hm, fun j hjn => ?_⟩
  obtain ⟨b, o, x, h1, h2, h3, h4⟩ := hj j hjn
  exact ⟨b, o, x, h1, h2, k.cell h3, by rw [k.frz h3]; exact h4⟩
theorem JInv.grow {w0 w w' : World} {sz k hb ho n : Nat} {ys : List Value} (h : JInv w0 w sz k hb ho n ys) (hk : Kept w w') : JInv w0 w' sz k hb ho n ys where
  kept := h.kept.trans hk
  len := h.len
  row := fun i hi q hq => by obtain ⟨u, hu, h1⟩ := h.row i hi q hq; exact ⟨u, hk.cell hu, h1⟩
  key := fun i y hy => by obtain ⟨h1, h2⟩ := h.key i y hy; exact ⟨hk.cell h1, h2.kept hk⟩
/-- A byte is changed: the rest is as it was. -/
theorem cell_slice {w : World} {b o b' o' : Nat} {x z : Int} {a : Option Addr} {n c : Nat} (h : w.cell? ⟨b, o, none⟩ = some (.int .u8 x)) (hs : w.cell? ⟨b', o', none⟩ = some (.slice a n c)) :
    (w.setCell ⟨b, o, none⟩ (.int .u8 z)).cell? ⟨b', o', none⟩ = some (.slice a n c) := by
  rw [World.cell?_setCell_other _ _ _ _ (fun e => ?_)]
  · exact hs
  · rw [e, hs] at h
    cases h
theorem cell_byte {w : World} {b o b' o' : Nat} {x x' z : Int} (h : w.cell? ⟨b, o, none⟩ = some (.int .u8 x)) (hs : w.cell? ⟨b', o', none⟩ = some (.int .u8 x')) :
    ∃ z', (w.setCell ⟨b, o, none⟩ (.int .u8 z)).cell? ⟨b', o', none⟩ = some (.int .u8 z') := by
  by_cases e : (⟨b, o, none⟩ : Addr) = ⟨b', o', none⟩
  · rw [← e]
    exact ⟨z, World.cell?_setCell_same _ _ _ h⟩
  · exact ⟨x', by rw [World.cell?_setCell_other _ _ _ _ e]; exact hs⟩
theorem JKey.set {m : Nat} {w : World} {y : Value} (h : JKey m w y) {b o : Nat} {x z : Int} (hc : w.cell? ⟨b, o, none⟩ = some (.int .u8 x)) : JKey m (w.setCell ⟨b, o, none⟩ (.int .u8 z)) y := by
  obtain ⟨a, n, c, rfl, hm, hj⟩ := h
  refine ⟨a, n, c, rfl, hm, fun j hjn => ?_⟩
  obtain ⟨b', o', x', h1, h2, h3, h4⟩ := hj j hjn
  obtain ⟨z', h5⟩ := cell_byte (z := z) hc h3
  exact ⟨b', o', z', h1, h2, h5, by rw [World.frozen?_setCell]; exact h4⟩
theorem JInv.set {w0 w : World} {sz k hb ho n : Nat} {ys : List Value} (h : JInv w0 w sz k hb ho n ys) {b o : Nat} {x z : Int} (hb' : w0.heap.size ≤ b) (hc : w.cell? ⟨b, o, none⟩ = some (.int .u8 x)) :
    JInv w0 (w.setCell ⟨b, o, none⟩ (.int .u8 z)) sz k hb ho n ys where
  kept := h.kept.setCell hb'
  len := h.len
  row := fun i hi q hq => by 
    obtain ⟨u, hu, h1⟩ := h.row i hi q hq
    by_cases e : (⟨b, o, none⟩ : Addr) = ⟨hb, ho + (i * sz + q), none⟩
    · rw [← e]
      exact ⟨.int .u8 z, World.cell?_setCell_same _ _ _ hc, rfl⟩
    · exact ⟨u, by rw [World.cell?_setCell_other _ _ _ _ e]; exact hu, h1⟩
  key := fun i y hy => by
    obtain ⟨h1, h2⟩ := h.key i y hy
    have h3 := h2
    obtain ⟨a, n', c, rfl, _⟩ := h3
    exact ⟨cell_slice hc h1, h2.set hc⟩
/-! ### Slots -/
/-- A slot is given a value. -/
structure PutOf (a : Act) (d : Nat) (v : Value) (a' : Act) : Prop where
  sz : a'.tmps.size = a.tmps.size
  defers : a'.defers = a.defers
  eq : d < a.tmps.size → a'.eval (.tmp d) = v
  ne : ∀ t, t ≠ d → a'.eval (.tmp t) = a.eval (.tmp t)
  same : ∀ t, t ≠ d → a'.tmps[t]? = a.tmps[t]?
theorem putOf (a : Act) (d : Nat) (v : Value) : PutOf a d v (a.put (some d) v) := by
  obtain ⟨h1, h2, h3, h4⟩ := put_tmps a (some d) v
  refine ⟨h1, h2, fun h => ?_, fun t ht => ?_, fun t ht => h3 t (by simpa using fun e => ht e.symm)⟩
  · show (a.put (some d) v).tmps.getD d undef = v
    rw [Array.getD_eq_getD_getElem?, h4 d rfl h]
    rfl
  · show (a.put (some d) v).tmps.getD t undef = a.tmps.getD t undef
    rw [Array.getD_eq_getD_getElem?, h3 t (by simpa using fun e => ht e.symm), Array.getD_eq_getD_getElem?]
/-- What a piece leaves of the slots. -/
structure SegF (a0 : Act) (clob : List Tmp) (a : Act) : Prop where
  sz : a.tmps.size = a0.tmps.size
  same : ∀ s, s ∉ clob → a.tmps[s]? = a0.tmps[s]?
  defers : a.defers = a0.defers
theorem SegF.refl (a0 : Act) (clob : List Tmp) : SegF a0 clob a0 := ⟨rfl, fun _ _ => rfl, rfl⟩
theorem SegF.put {a0 a a' : Act} {clob : List Tmp} {d : Nat} {v : Value} (h : SegF a0 clob a) (k : PutOf a d v a') (hd : d ∈ clob) : SegF a0 clob a' :=
  ⟨k.sz.trans h.sz, fun s hs => (k.same s (fun e => hs (by rw [e]; exact hd))).trans (h.same s hs), k.defers.trans h.defers⟩
theorem cells_of {w : World} {b o : Nat} : ∀ (sz : Nat), (∀ q, q < sz → ∃ u, w.cell? ⟨b, o + q, none⟩ = some u ∧ u.oneCell' = true) → ∃ cs : List Value, cs.length = sz ∧ (∀ (q : Nat) (u : Value), cs[q]? = some u → w.cell? ⟨b, o + q, none⟩ = some u) ∧ ∀ u ∈ cs, u.oneCell' = true
  | 0, _ => ⟨[], rfl, fun q u h => by simp at h, fun u h => by simp at h⟩
  | sz + 1, h => by
    obtain ⟨cs, h1, h2, h3⟩ := cells_of sz fun q hq => h q (by omega)
    obtain ⟨u, h4, h5⟩ := h sz (by omega)
    refine ⟨cs ++ [u], by simp [h1], fun q v hv => ?_, fun v hv => ?_⟩
    · by_cases hq : q < cs.length
      · rw [List.getElem?_append_left hq] at hv
        exact h2 q v hv
      · rw [List.getElem?_append_right (by omega)] at hv
        have : q - cs.length = 0 := by
          have := (List.getElem?_eq_some_iff.1 hv).1
          simpa using this
        rw [this] at hv
        simp only [List.getElem?_cons_zero, Option.some.injEq] at hv
        subst hv
        rw [show q = sz by omega]
        exact h4
    · rcases List.mem_append.1 hv with hv | hv
      · exact h3 v hv
      · rw [List.mem_singleton.1 hv]; exact h5
theorem kept_new {w : World} (c : Array Value) (t : TypeId) (d : Array Value) : Kept w ((w.alloc (.cells c t)).setRow w.heap.size d) where
  size := by
    have : ((w.alloc (.cells c t)).setRow w.heap.size d).heap.size = (w.heap.push (.cells c t)).size := by simp [World.setRow]
    rw [this]; simp
  heap := fun b hb => by
    rw [setRow_other _ _ _ _ (by omega)]
    show (w.heap.push _)[b]? = _
    rw [Array.getElem?_push, if_neg (by omega)]
  os := rfl
  tape := rfl
  output := rfl
theorem cell_new {w : World} (c : Array Value) (t : TypeId) (cs : List Value) {q : Nat} {u : Value} (h : cs[q]? = some u) : ((w.alloc (.cells c t)).setRow w.heap.size cs.toArray).cell? ⟨w.heap.size, q, none⟩ = some u := by
  have hb : (w.alloc (.cells c t)).heap[w.heap.size]? = some (.cells c t (0, 0)) := by
    show (w.heap.push (Obj.cells c t))[w.heap.size]? = _
    simp
  rw [cell_of_row _ _ _ _ _ _ (setRow_heap _ _ _ _ _ _ hb)]
  simpa using h
/-! ### Operations -/
section
variable {P : Program} {ops : Array Oper} {o : Oper} {rest : List Oper} {a : Act} {w w' : World} {Q : Exit → Act → World → Prop} {v : Value}
theorem sg_wanted (hg : o.guard = none) : Region.wanted o (yielded ops a.tmps) = true := by simp [Region.wanted, hg]
theorem sg_val (hg : o.guard = none) (hr : (execOp a.eval o).run P w = .ok (.value v) w') (h : wpList P ops Q rest (a.put o.dst v) w') : wpList P ops Q (o :: rest) a w := by
  unfold wpList
  rw [if_pos (sg_wanted hg)]
  left
  unfold Oper.wp
  rw [hr]
  exact h
theorem sg_skip (hg : o.guard = none) (hr : (execOp a.eval o).run P w = .ok .skip w') (h : wpList P ops Q rest (a.put o.dst undef) w') : wpList P ops Q (o :: rest) a w := by
  unfold wpList
  rw [if_pos (sg_wanted hg)]
  left
  unfold Oper.wp
  rw [hr]
  exact h
theorem sg_enter {f : FuncId} {args : Array Value} {R : Ending → World → Prop} (hg : o.guard = none) (hr : (execOp a.eval o).run P w = .ok (.enter f args) w) (hc : Calls P f args w R)
    (h : ∀ e w', R e w' → ∃ v, e = .returned v ∧ wpList P ops Q rest (a.put o.dst v) w') : wpList P ops Q (o :: rest) a w := by
  unfold wpList
  rw [if_pos (sg_wanted hg)]
  left
  unfold Oper.wp
  rw [hr]
  refine Calls.mono hc fun e w1 he => ?_
  obtain ⟨v, rfl, h1⟩ := h e w1 he
  exact h1
theorem sg_move {x : Operand} (hg : o.guard = none) (hop : o.op = .move x) (h : wpList P ops Q rest (a.put o.dst (a.eval x)) w) : wpList P ops Q (o :: rest) a w :=
  sg_val hg (by simp [execOp, hop]) h
theorem sg_assign {x : Operand} (hg : o.guard = none) (hop : o.op = .assign x) (h : wpList P ops Q rest (a.put o.dst (a.eval x)) w) : wpList P ops Q (o :: rest) a w :=
  sg_val hg (by simp [execOp, hop]) h
theorem sg_call {f : FuncId} {x : Operand} {t : TypeId} {fn : Func} {code : Code} {R : Ending → World → Prop} (hg : o.guard = none) (hop : o.op = .call { callee := .value (.func f), args := #[x], argTypes := #[t] })
    (hf : P.funcs[f]? = some fn) (hb : fn.body = some code) (hn : (fn.name == "runtime.NumGoroutine") = false) (hc : Calls P f #[a.eval x] w R)
    (h : ∀ e w', R e w' → ∃ v, e = .returned v ∧ wpList P ops Q rest (a.put o.dst v) w') : wpList P ops Q (o :: rest) a w := by
  refine sg_enter hg ?_ hc h
  have h3' : ¬ fn.name = "runtime.NumGoroutine" := by simpa using hn
  have hprog : (program : Sem Program).run P w = .ok P w := rfl
  have hev : a.eval (.func f) = .func (.func f) #[] #[] := rfl
  simp [execOp, hop, resolve, Deferred.ofValue, hev, invoke, callFunc, hprog, hf, hb, h3']
theorem sg_op {x : Sem Value} (hg : o.guard = none) (hop : execOp a.eval o = (do let v ← x; Pure.pure (.value v))) (hr : x.run P w = .ok v w') (h : wpList P ops Q rest (a.put o.dst v) w') : wpList P ops Q (o :: rest) a w :=
  sg_val hg (by rw [hop, Sem.run_bind, hr]; rfl) h
theorem sg_opU {x : Sem Unit} (hg : o.guard = none) (hop : execOp a.eval o = (do x; Pure.pure .skip)) (hr : x.run P w = .ok () w') (h : wpList P ops Q rest (a.put o.dst undef) w') : wpList P ops Q (o :: rest) a w :=
  sg_skip hg (by rw [hop, Sem.run_bind, hr]; rfl) h
theorem sg_put {x : Sem Value} {d : Nat} (hg : o.guard = none) (hd : o.dst = some d) (hop : execOp a.eval o = (do let v ← x; Pure.pure (.value v))) (hr : x.run P w = .ok v w') (h : ∀ a', PutOf a d v a' → wpList P ops Q rest a' w') : wpList P ops Q (o :: rest) a w :=
  sg_op hg hop hr (by rw [hd]; exact h _ (putOf _ _ _))
theorem sg_mv {x : Operand} {d : Nat} (hg : o.guard = none) (hd : o.dst = some d) (hop : o.op = .move x ∨ o.op = .assign x) (h : ∀ a', PutOf a d (a.eval x) a' → wpList P ops Q rest a' w) : wpList P ops Q (o :: rest) a w := by
  rcases hop with hop | hop
  · exact sg_move hg hop (by rw [hd]; exact h _ (putOf _ _ _))
  · exact sg_assign hg hop (by rw [hd]; exact h _ (putOf _ _ _))
theorem sg_st {x : Sem Unit} (hg : o.guard = none) (hd : o.dst = none) (hop : execOp a.eval o = (do x; Pure.pure .skip)) (hr : x.run P w = .ok () w') (h : wpList P ops Q rest a w') : wpList P ops Q (o :: rest) a w :=
  sg_opU hg hop hr (by rw [hd]; exact h)
theorem sg_len {x : Operand} {t e : TypeId} {d n c : Nat} {A : Option Addr} (hg : o.guard = none) (hd : o.dst = some d) (hop : o.op = .call { callee := .builtin .len, args := #[x], argTypes := #[t] }) (hu : P.underlying t = some (.slice e)) (hx : a.eval x = .slice A n c)
    (h : ∀ a', PutOf a d (.int .i64 n) a' → wpList P ops Q rest a' w) : wpList P ops Q (o :: rest) a w := by
  refine sg_val (v := .int .i64 n) (w' := w) hg ?_ (by rw [hd]; exact h _ (putOf _ _ _))
  simp [execOp, hop, resolve, invoke, builtin, hx, Builtin.len_, run_underlying hu, goInt]
theorem run_alloc' {t : TypeId} {i : TypeInfo} {z x : Value} (hi : P.info? t = some i) (hz : i.zero = some z) : (Instr.alloc t true x).run P w = .ok (.pointer (some ⟨w.heap.size, 0, none⟩)) (w.alloc (.cells z.cells t)) := by
  simp [Instr.alloc, run_zeroValue hi hz, newVar, run_newRow]
theorem run_storeNew {t : TypeId} {i : TypeInfo} {z : Value} {cs : List Value} (hi : P.info? t = some i) (hs : i.size = cs.length) (hz : z.cells.size = cs.length) (h1 : ∀ u ∈ cs, u.oneCell' = true) :
    (Instr.storeAt t (.pointer (some ⟨w.heap.size, 0, none⟩)) (.agg cs.toArray)).run P (w.alloc (.cells z.cells t)) = .ok () ((w.alloc (.cells z.cells t)).setRow w.heap.size cs.toArray) := by
  have hst := run_stores (P := P) (b := w.heap.size) (t := t) (fr := (0, 0)) cs 0 0 [] z.cells.toList [] (w.alloc (.cells z.cells t)) (by show (w.heap.push (Obj.cells z.cells t))[w.heap.size]? = _; simp) rfl (by simpa using hz) (fun k hk => by simp) h1
  simp only [List.nil_append, List.append_nil] at hst
  have hc : (Value.agg cs.toArray).cells = cs.toArray := rfl
  simp [Instr.storeAt, Instr.sureAddr, storeVar, run_sizeOf hi, hs, hc, hst]
theorem run_index' {t e : TypeId} {inf : TypeInfo} {ad : Addr} {n c : Nat} {k : IntKind} {i : Int} (hu : P.underlying t = some (.slice e)) (hinf : P.info? e = some inf) (h1 : 0 ≤ i) (h2 : i < n) :
    (Instr.indexAt t (.slice (some ad) n c) (.int k i)).run P w = .ok (.pointer (some (ad.add (i.toNat * inf.size)))) w := by
  simp [Instr.indexAt, asIntOf, run_underlying hu, run_sizeOf hinf, h1, h2]
theorem run_load' {t : TypeId} {b o : Nat} {cs : List Value} {agg : Bool} (hf : fits P t cs.length agg = true) (h : ∀ (i : Nat) (u : Value), cs[i]? = some u → w.cell? ⟨b, o + i, none⟩ = some u) :
    (Instr.loadAt t (.pointer (some ⟨b, o, none⟩))).run P w = .ok (if agg = true then .agg cs.toArray else cs.headD undef) w := by
  simpa [Instr.loadAt, Instr.sureAddr] using run_loadVar (P := P) hf h
theorem run_field' {s : TypeId} {fields : Array Field} {f : Nat} {fd : Field} {i : TypeInfo} {ad : Addr} (hu : P.underlying s = some (.struct fields)) (hf : fields[f]? = some fd) (hi : P.info? fd.type = some i) (hz : i.size ≠ 0) :
    (Instr.fieldAt s (.pointer (some ad)) f).run P w = .ok (.pointer (some (ad.add fd.offset))) w := by
  simp [Instr.fieldAt, run_underlying hu, hf, Instr.sureAddr, fieldPlace, run_sizeOf hi, hz]
theorem run_storeByte {t : TypeId} {i : TypeInfo} {b o : Nat} {x z : Int} (hi : P.info? t = some i) (hs : i.size = 1) (hc : w.cell? ⟨b, o, none⟩ = some (.int .u8 x)) (hf : w.frozen? ⟨b, o, none⟩ = false) :
    (Instr.storeAt t (.pointer (some ⟨b, o, none⟩)) (.int .u8 z)).run P w = .ok () (w.setCell ⟨b, o, none⟩ (.int .u8 z)) := by
  have h1 : (Value.int .u8 z).oneCell' = true := rfl
  have h2 : (Value.int .u8 z).cells = #[.int .u8 z] := rfl
  simp [Instr.storeAt, Instr.sureAddr, storeVar, run_sizeOf hi, hs, h2, storeCells, addr_add, run_store _ _ _ _ _ h1, hc, hf]
theorem run_lss (x y : Operand) (p q : Int) : (do eqGuard .lss 3 x y (.int .i64 p) (.int .i64 q); binOp .lss 3 (.int .i64 p) (.int .i64 q) : Sem Value).run P w = .ok (.bool (decide (p < q))) w := rfl
theorem run_add (x y : Operand) (p q : Int) : (do eqGuard .add 3 x y (.int .i64 p) (.int .i64 q); binOp .add 3 (.int .i64 p) (.int .i64 q) : Sem Value).run P w = .ok (.int .i64 (IntKind.i64.wrap (p + q))) w := rfl
theorem run_xor (x y : Operand) (p q : Int) : ∃ z, (do eqGuard .xor 5 x y (.int .u8 p) (.int .u8 q); binOp .xor 5 (.int .u8 p) (.int .u8 q) : Sem Value).run P w = .ok (.int .u8 z) w := ⟨_, rfl⟩
end
end Go.Fm

/-
  A part of the proof: PSeg.
-/
import Derived.Test.YtjmjijgnbjkpnaaPClone
import Derived.Test.YtjmjijgnbjkpnaaPFr
set_option linter.all false
set_option autoImplicit true
/-
  Rows that a call made anew: what is known of them while their bytes are changed.
-/
set_option maxRecDepth 100000
set_option linter.unusedVariables false
set_option linter.unusedSimpArgs false
namespace Go.Fm
open Go Go.Proofs Go.RowKit
/-- A row of bytes that may be changed. -/
def JKey (m : Nat) (w : World) (y : Value) : Prop := ∃ a n c, y = .slice a n c ∧ n ≤ maxLen ∧ ∀ j, j < n → ∃ b o x, a = some ⟨b, o, none⟩ ∧ m ≤ b ∧ w.cell? ⟨b, o + j, none⟩ = some (.int .u8 x) ∧ w.frozen? ⟨b, o + j, none⟩ = false
/-- A row of elements, with such a row of bytes in each. -/
structure JInv (w0 w : World) (sz k hb ho n : Nat) (ys : List Value) : Prop where
  kept : Kept w0 w
  len : ys.length = n
  row : ∀ i, i < n → ∀ q, q < sz → ∃ u, w.cell? ⟨hb, ho + (i * sz + q), none⟩ = some u ∧ u.oneCell' = true
  key : ∀ i y, ys[i]? = some y → w.cell? ⟨hb, ho + (i * sz + k), none⟩ = some y ∧ JKey w0.heap.size w y
theorem Kept.trans {w w1 w2 : World} (h : Kept w w1) (k : Kept w1 w2) : Kept w w2 :=
  ⟨Nat.le_trans h.size k.size, fun b hb => (k.heap b (Nat.lt_of_lt_of_le hb h.size)).trans (h.heap b hb), k.os.trans h.os, k.tape.trans h.tape, k.output.trans h.output⟩
theorem Kept.refl (w : World) : Kept w w := ⟨Nat.le_refl _, fun _ _ => rfl, rfl, rfl, rfl⟩
theorem Kept.cell {w w' : World} (h : Kept w w') {b o : Nat} {v : Value} (hc : w.cell? ⟨b, o, none⟩ = some v) : w'.cell? ⟨b, o, none⟩ = some v := by
  rw [← hc]
  simp [World.cell?, h.heap b (lt_of_cell hc)]
theorem Kept.frz {w w' : World} (h : Kept w w') {b o : Nat} {v : Value} (hc : w.cell? ⟨b, o, none⟩ = some v) : w'.frozen? ⟨b, o, none⟩ = w.frozen? ⟨b, o, none⟩ := by
  simp [World.frozen?, h.heap b (lt_of_cell hc)]
theorem Kept.setCell {w0 w : World} (h : Kept w0 w) {b o : Nat} {v : Value} (hb : w0.heap.size ≤ b) : Kept w0 (w.setCell ⟨b, o, none⟩ v) where
  size := by simpa using h.size
  heap := fun k hk => by rw [heap_setCell_other _ _ _ _ (by show k ≠ b; omega)]; exact h.heap k hk
  os := h.os
  tape := h.tape
  output := h.output
theorem JKey.kept {m : Nat} {w w' : World} {y : Value} (h : JKey m w y) (k : Kept w w') : JKey m w' y := by
  obtain ⟨a, n, c, rfl, hm, hj⟩ := h
  refine ⟨a, n, c, rfl, hm, fun j hjn => ?_⟩
  obtain ⟨b, o, x, h1, h2, h3, h4⟩ := hj j hjn
  exact ⟨b, o, x, h1, h2, k.cell h3, by rw [k.frz h3]; exact h4⟩
theorem JInv.grow {w0 w w' : World} {sz k hb ho n : Nat} {ys : List Value} (h : JInv w0 w sz k hb ho n ys) (hk : Kept w w') : JInv w0 w' sz k hb ho n ys where
  kept := h.kept.trans hk
  len := h.len
  row := fun i hi q hq => by obtain ⟨u, hu, h1⟩ := h.row i hi q hq; exact ⟨u, hk.cell hu, h1⟩
  key := fun i y hy => by obtain ⟨h1, h2⟩ := h.key i y hy; exact ⟨hk.cell h1, h2.kept hk⟩
/-- A byte is changed: the rest is as it was. -/
theorem cell_slice {w : World} {b o b' o' : Nat} {x z : Int} {a : Option Addr} {n c : Nat} (h : w.cell? ⟨b, o, none⟩ = some (.int .u8 x)) (hs : w.cell? ⟨b', o', none⟩ = some (.slice a n c)) :
    (w.setCell ⟨b, o, none⟩ (.int .u8 z)).cell? ⟨b', o', none⟩ = some (.slice a n c) := by
  rw [World.cell?_setCell_other _ _ _ _ (fun e => ?_)]
  · exact hs
  · rw [e, hs] at h
    cases h
theorem cell_byte {w : World} {b o b' o' : Nat} {x x' z : Int} (h : w.cell? ⟨b, o, none⟩ = some (.int .u8 x)) (hs : w.cell? ⟨b', o', none⟩ = some (.int .u8 x')) :
    ∃ z', (w.setCell ⟨b, o, none⟩ (.int .u8 z)).cell? ⟨b', o', none⟩ = some (.int .u8 z') := by
  by_cases e : (⟨b, o, none⟩ : Addr) = ⟨b', o', none⟩
  · rw [← e]
    exact ⟨z, World.cell?_setCell_same _ _ _ h⟩
  · exact ⟨x', by rw [World.cell?_setCell_other _ _ _ _ e]; exact hs⟩
theorem JKey.set {m : Nat} {w : World} {y : Value} (h : JKey m w y) {b o : Nat} {x z : Int} (hc : w.cell? ⟨b, o, none⟩ = some (.int .u8 x)) : JKey m (w.setCell ⟨b, o, none⟩ (.int .u8 z)) y := by
  obtain ⟨a, n, c, rfl, hm, hj⟩ := h
  refine ⟨a, n, c, rfl, hm, fun j hjn => ?_⟩
  obtain ⟨b', o', x', h1, h2, h3, h4⟩ := hj j hjn
  obtain ⟨z', h5⟩ := cell_byte (z := z) hc h3
  exact ⟨b', o', z', h1, h2, h5, by rw [World.frozen?_setCell]; exact h4⟩
theorem JInv.set {w0 w : World} {sz k hb ho n : Nat} {ys : List Value} (h : JInv w0 w sz k hb ho n ys) {b o : Nat} {x z : Int} (hb' : w0.heap.size ≤ b) (hc : w.cell? ⟨b, o, none⟩ = some (.int .u8 x)) :
    JInv w0 (w.setCell ⟨b, o, none⟩ (.int .u8 z)) sz k hb ho n ys where
  kept := h.kept.setCell hb'
  len := h.len
  row := fun i hi q hq => by 
    obtain ⟨u, hu, h1⟩ := h.row i hi q hq
    by_cases e : (⟨b, o, none⟩ : Addr) = ⟨hb, ho + (i * sz + q), none⟩
    · rw [← e]
      exact ⟨.int .u8 z, World.cell?_setCell_same _ _ _ hc, rfl⟩
    · exact ⟨u, by rw [World.cell?_setCell_other _ _ _ _ e]; exact hu, h1⟩
  key := fun i y hy => by
    obtain ⟨h1, h2⟩ := h.key i y hy
    have h3 := h2
    obtain ⟨a, n', c, rfl, _⟩ := h3
    exact ⟨cell_slice hc h1, h2.set hc⟩
/-! ### Slots -/
/-- A slot is given a value. -/
structure PutOf (a : Act) (d : Nat) (v : Value) (a' : Act) : Prop where
  sz : a'.tmps.size = a.tmps.size
  defers : a'.defers = a.defers
  eq : d < a.tmps.size → a'.eval (.tmp d) = v
  ne : ∀ t, t ≠ d → a'.eval (.tmp t) = a.eval (.tmp t)
  same : ∀ t, t ≠ d → a'.tmps[t]? = a.tmps[t]?
theorem putOf (a : Act) (d : Nat) (v : Value) : PutOf a d v (a.put (some d) v) := by
  obtain ⟨h1, h2, h3, h4⟩ := put_tmps a (some d) v
  refine ⟨h1, h2, fun h => ?_, fun t ht => ?_, fun t ht => h3 t (by simpa using fun e => ht e.symm)⟩
  · show (a.put (some d) v).tmps.getD d undef = v
    rw [Array.getD_eq_getD_getElem?, h4 d rfl h]
    rfl
  · show (a.put (some d) v).tmps.getD t undef = a.tmps.getD t undef
    rw [Array.getD_eq_getD_getElem?, h3 t (by simpa using fun e => ht e.symm), Array.getD_eq_getD_getElem?]
/-- What a piece leaves of the slots. -/
structure SegF (a0 : Act) (clob : List Tmp) (a : Act) : Prop where
  sz : a.tmps.size = a0.tmps.size
  same : ∀ s, s ∉ clob → a.tmps[s]? = a0.tmps[s]?
  defers : a.defers = a0.defers
theorem SegF.refl (a0 : Act) (clob : List Tmp) : SegF a0 clob a0 := ⟨rfl, fun _ _ => rfl, rfl⟩
theorem SegF.put {a0 a a' : Act} {clob : List Tmp} {d : Nat} {v : Value} (h : SegF a0 clob a) (k : PutOf a d v a') (hd : d ∈ clob) : SegF a0 clob a' :=
  ⟨k.sz.trans h.sz, fun s hs => (k.same s (fun e => hs (by rw [e]; exact hd))).trans (h.same s hs), k.defers.trans h.defers⟩
theorem cells_of {w : World} {b o : Nat} : ∀ (sz : Nat), (∀ q, q < sz → ∃ u, w.cell? ⟨b, o + q, none⟩ = some u ∧ u.oneCell' = true) → ∃ cs : List Value, cs.length = sz ∧ (∀ (q : Nat) (u : Value), cs[q]? = some u → w.cell? ⟨b, o + q, none⟩ = some u) ∧ ∀ u ∈ cs, u.oneCell' = true
  | 0, _ => ⟨[], rfl, fun q u h => by simp at h, fun u h => by simp at h⟩
  | sz + 1, h => by
    obtain ⟨cs, h1, h2, h3⟩ := cells_of sz fun q hq => h q (by omega)
    obtain ⟨u, h4, h5⟩ := h sz (by omega)
    refine ⟨cs ++ [u], by simp [h1], fun q v hv => ?_, fun v hv => ?_⟩
    · by_cases hq : q < cs.length
      · rw [List.getElem?_append_left hq] at hv
        exact h2 q v hv
      · rw [List.getElem?_append_right (by omega)] at hv
        have : q - cs.length = 0 := by
          have := (List.getElem?_eq_some_iff.1 hv).1
          simpa using this
        rw [this] at hv
        simp only [List.getElem?_cons_zero, Option.some.injEq] at hv
        subst hv
        rw [show q = sz by omega]
        exact h4
    · rcases List.mem_append.1 hv with hv | hv
      · exact h3 v hv
      · rw [List.mem_singleton.1 hv]; exact h5
theorem kept_new {w : World} (c : Array Value) (t : TypeId) (d : Array Value) : Kept w ((w.alloc (.cells c t)).setRow w.heap.size d) where
  size := by
    have : ((w.alloc (.cells c t)).setRow w.heap.size d).heap.size = (w.heap.push (.cells c t)).size := by simp [World.setRow]
    rw [this]; simp
  heap := fun b hb => by
    rw [setRow_other _ _ _ _ (by omega)]
    show (w.heap.push _)[b]? = _
    rw [Array.getElem?_push, if_neg (by omega)]
  os := rfl
  tape := rfl
  output := rfl
theorem cell_new {w : World} (c : Array Value) (t : TypeId) (cs : List Value) {q : Nat} {u : Value} (h : cs[q]? = some u) : ((w.alloc (.cells c t)).setRow w.heap.size cs.toArray).cell? ⟨w.heap.size, q, none⟩ = some u := by
  have hb : (w.alloc (.cells c t)).heap[w.heap.size]? = some (.cells c t (0, 0)) := by
    show (w.heap.push (Obj.cells c t))[w.heap.size]? = _
    simp
  rw [cell_of_row _ _ _ _ _ _ (setRow_heap _ _ _ _ _ _ hb)]
  simpa using h
/-! ### Operations -/
section
variable {P : Program} {ops : Array Oper} {o : Oper} {rest : List Oper} {a : Act} {w w' : World} {Q : Exit → Act → World → Prop} {v : Value}
theorem sg_wanted (hg : o.guard = none) : Region.wanted o (yielded ops a.tmps) = true := by simp [Region.wanted, hg]
theorem sg_val (hg : o.guard = none) (hr : (execOp a.eval o).run P w = .ok (.value v) w') (h : wpList P ops Q rest (a.put o.dst v) w') : wpList P ops Q (o :: rest) a w := by
  unfold wpList
  rw [if_pos (sg_wanted hg)]
  left
  unfold Oper.wp
  rw [hr]
  exact h
theorem sg_skip (hg : o.guard = none) (hr : (execOp a.eval o).run P w = .ok .skip w') (h : wpList P ops Q rest (a.put o.dst undef) w') : wpList P ops Q (o :: rest) a w := by
  unfold wpList
  rw [if_pos (sg_wanted hg)]
  left
  unfold Oper.wp
  rw [hr]
  exact h
theorem sg_enter {f : FuncId} {args : Array Value} {R : Ending → World → Prop} (hg : o.guard = none) (hr : (execOp a.eval o).run P w = .ok (.enter f args) w) (hc : Calls P f args w R)
    (h : ∀ e w', R e w' → ∃ v, e = .returned v ∧ wpList P ops Q rest (a.put o.dst v) w') : wpList P ops Q (o :: rest) a w := by
  unfold wpList
  rw [if_pos (sg_wanted hg)]
  left
  unfold Oper.wp
  rw [hr]
  refine Calls.mono hc fun e w1 he => ?_
  obtain ⟨v, rfl, h1⟩ := h e w1 he
  exact h1
theorem sg_move {x : Operand} (hg : o.guard = none) (hop : o.op = .move x) (h : wpList P ops Q rest (a.put o.dst (a.eval x)) w) : wpList P ops Q (o :: rest) a w :=
  sg_val hg (by simp [execOp, hop]) h
theorem sg_assign {x : Operand} (hg : o.guard = none) (hop : o.op = .assign x) (h : wpList P ops Q rest (a.put o.dst (a.eval x)) w) : wpList P ops Q (o :: rest) a w :=
  sg_val hg (by simp [execOp, hop]) h
theorem sg_call2 {f : FuncId} {x y : Operand} {t u : TypeId} {fn : Func} {code : Code} {R : Ending → World → Prop} (hg : o.guard = none) (hop : o.op = .call { callee := .value (.func f), args := #[x, y], argTypes := #[t, u] })
    (hf : P.funcs[f]? = some fn) (hb : fn.body = some code) (hn : (fn.name == "runtime.NumGoroutine") = false) (hc : Calls P f #[a.eval x, a.eval y] w R)
    (h : ∀ e w', R e w' → ∃ v, e = .returned v ∧ wpList P ops Q rest (a.put o.dst v) w') : wpList P ops Q (o :: rest) a w := by
  refine sg_enter hg ?_ hc h
  have h3' : ¬ fn.name = "runtime.NumGoroutine" := by simpa using hn
  have hprog : (program : Sem Program).run P w = .ok P w := rfl
  have hev : a.eval (.func f) = .func (.func f) #[] #[] := rfl
  simp [execOp, hop, resolve, Deferred.ofValue, hev, invoke, callFunc, hprog, hf, hb, h3']
theorem sg_op {x : Sem Value} (hg : o.guard = none) (hop : execOp a.eval o = (do let v ← x; Pure.pure (.value v))) (hr : x.run P w = .ok v w') (h : wpList P ops Q rest (a.put o.dst v) w') : wpList P ops Q (o :: rest) a w :=
  sg_val hg (by rw [hop, Sem.run_bind, hr]; rfl) h
theorem sg_opU {x : Sem Unit} (hg : o.guard = none) (hop : execOp a.eval o = (do x; Pure.pure .skip)) (hr : x.run P w = .ok () w') (h : wpList P ops Q rest (a.put o.dst undef) w') : wpList P ops Q (o :: rest) a w :=
  sg_skip hg (by rw [hop, Sem.run_bind, hr]; rfl) h
theorem sg_put {x : Sem Value} {d : Nat} (hg : o.guard = none) (hd : o.dst = some d) (hop : execOp a.eval o = (do let v ← x; Pure.pure (.value v))) (hr : x.run P w = .ok v w') (h : ∀ a', PutOf a d v a' → wpList P ops Q rest a' w') : wpList P ops Q (o :: rest) a w :=
  sg_op hg hop hr (by rw [hd]; exact h _ (putOf _ _ _))
theorem sg_mv {x : Operand} {d : Nat} (hg : o.guard = none) (hd : o.dst = some d) (hop : o.op = .move x ∨ o.op = .assign x) (h : ∀ a', PutOf a d (a.eval x) a' → wpList P ops Q rest a' w) : wpList P ops Q (o :: rest) a w := by
  rcases hop with hop | hop
  · exact sg_move hg hop (by rw [hd]; exact h _ (putOf _ _ _))
  · exact sg_assign hg hop (by rw [hd]; exact h _ (putOf _ _ _))
theorem sg_st {x : Sem Unit} (hg : o.guard = none) (hd : o.dst = none) (hop : execOp a.eval o = (do x; Pure.pure .skip)) (hr : x.run P w = .ok () w') (h : wpList P ops Q rest a w') : wpList P ops Q (o :: rest) a w :=
  sg_opU hg hop hr (by rw [hd]; exact h)
theorem sg_len {x : Operand} {t e : TypeId} {d n c : Nat} {A : Option Addr} (hg : o.guard = none) (hd : o.dst = some d) (hop : o.op = .call { callee := .builtin .len, args := #[x], argTypes := #[t] }) (hu : P.underlying t = some (.slice e)) (hx : a.eval x = .slice A n c)
    (h : ∀ a', PutOf a d (.int .i64 n) a' → wpList P ops Q rest a' w) : wpList P ops Q (o :: rest) a w := by
  refine sg_val (v := .int .i64 n) (w' := w) hg ?_ (by rw [hd]; exact h _ (putOf _ _ _))
  simp [execOp, hop, resolve, invoke, builtin, hx, Builtin.len_, run_underlying hu, goInt]
theorem run_alloc' {t : TypeId} {i : TypeInfo} {z x : Value} (hi : P.info? t = some i) (hz : i.zero = some z) : (Instr.alloc t true x).run P w = .ok (.pointer (some ⟨w.heap.size, 0, none⟩)) (w.alloc (.cells z.cells t)) := by
  simp [Instr.alloc, run_zeroValue hi hz, newVar, run_newRow]
theorem run_storeNew {t : TypeId} {i : TypeInfo} {z : Value} {cs : List Value} (hi : P.info? t = some i) (hs : i.size = cs.length) (hz : z.cells.size = cs.length) (h1 : ∀ u ∈ cs, u.oneCell' = true) :
    (Instr.storeAt t (.pointer (some ⟨w.heap.size, 0, none⟩)) (.agg cs.toArray)).run P (w.alloc (.cells z.cells t)) = .ok () ((w.alloc (.cells z.cells t)).setRow w.heap.size cs.toArray) := by
  have hst := run_stores (P := P) (b := w.heap.size) (t := t) (fr := (0, 0)) cs 0 0 [] z.cells.toList [] (w.alloc (.cells z.cells t)) (by show (w.heap.push (Obj.cells z.cells t))[w.heap.size]? = _; simp) rfl (by simpa using hz) (fun k hk => by simp) h1
  simp only [List.nil_append, List.append_nil] at hst
  have hc : (Value.agg cs.toArray).cells = cs.toArray := rfl
  simp [Instr.storeAt, Instr.sureAddr, storeVar, run_sizeOf hi, hs, hc, hst]
theorem run_index' {t e : TypeId} {inf : TypeInfo} {ad : Addr} {n c : Nat} {k : IntKind} {i : Int} (hu : P.underlying t = some (.slice e)) (hinf : P.info? e = some inf) (h1 : 0 ≤ i) (h2 : i < n) :
    (Instr.indexAt t (.slice (some ad) n c) (.int k i)).run P w = .ok (.pointer (some (ad.add (i.toNat * inf.size)))) w := by
  simp [Instr.indexAt, asIntOf, run_underlying hu, run_sizeOf hinf, h1, h2]
theorem run_load' {t : TypeId} {b o : Nat} {cs : List Value} {agg : Bool} (hf : fits P t cs.length agg = true) (h : ∀ (i : Nat) (u : Value), cs[i]? = some u → w.cell? ⟨b, o + i, none⟩ = some u) :
    (Instr.loadAt t (.pointer (some ⟨b, o, none⟩))).run P w = .ok (if agg = true then .agg cs.toArray else cs.headD undef) w := by
  simpa [Instr.loadAt, Instr.sureAddr] using run_loadVar (P := P) hf h
theorem run_field' {s : TypeId} {fields : Array Field} {f : Nat} {fd : Field} {i : TypeInfo} {ad : Addr} (hu : P.underlying s = some (.struct fields)) (hf : fields[f]? = some fd) (hi : P.info? fd.type = some i) (hz : i.size ≠ 0) :
    (Instr.fieldAt s (.pointer (some ad)) f).run P w = .ok (.pointer (some (ad.add fd.offset))) w := by
  simp [Instr.fieldAt, run_underlying hu, hf, Instr.sureAddr, fieldPlace, run_sizeOf hi, hz]
theorem run_storeByte {t : TypeId} {i : TypeInfo} {b o : Nat} {x z : Int} (hi : P.info? t = some i) (hs : i.size = 1) (hc : w.cell? ⟨b, o, none⟩ = some (.int .u8 x)) (hf : w.frozen? ⟨b, o, none⟩ = false) :
    (Instr.storeAt t (.pointer (some ⟨b, o, none⟩)) (.int .u8 z)).run P w = .ok () (w.setCell ⟨b, o, none⟩ (.int .u8 z)) := by
  have h1 : (Value.int .u8 z).oneCell' = true := rfl
  have h2 : (Value.int .u8 z).cells = #[.int .u8 z] := rfl
  simp [Instr.storeAt, Instr.sureAddr, storeVar, run_sizeOf hi, hs, h2, storeCells, addr_add, run_store _ _ _ _ _ h1, hc, hf]
theorem run_lss (x y : Operand) (p q : Int) : (do eqGuard .lss 3 x y (.int .i64 p) (.int .i64 q); binOp .lss 3 (.int .i64 p) (.int .i64 q) : Sem Value).run P w = .ok (.bool (decide (p < q))) w := rfl
theorem run_add (x y : Operand) (p q : Int) : (do eqGuard .add 3 x y (.int .i64 p) (.int .i64 q); binOp .add 3 (.int .i64 p) (.int .i64 q) : Sem Value).run P w = .ok (.int .i64 (IntKind.i64.wrap (p + q))) w := rfl
theorem run_xor (x y : Operand) (p q : Int) : ∃ z, (do eqGuard .xor 5 x y (.int .u8 p) (.int .u8 q); binOp .xor 5 (.int .u8 p) (.int .u8 q) : Sem Value).run P w = .ok (.int .u8 z) w := ⟨_, rfl⟩
end
end Go.Fm
/-
  What All and Nodes hand out, as it lies.
-/
set_option maxRecDepth 100000
set_option linter.unusedVariables false
set_option linter.unusedSimpArgs false
namespace Go.Fm
open Go Go.Proofs Go.RowKit
def Stays0 (w : World) (S : Nat → Nat → Prop) (w' : World) (S' : Nat → Nat → Prop) : Prop :=
  ∀ b o v, w.cell? ⟨b, o, none⟩ = some v → S b o → w'.cell? ⟨b, o, none⟩ = some v ∧ S' b o
theorem Here.stays0 {w w' : World} {S S' : Nat → Nat → Prop} {b o : Nat} {cs : List Value} (h : Here w S b o cs) (k : Stays0 w S w' S') : Here w' S' b o cs :=
  fun i v hv => let ⟨h1, h2⟩ := h i v hv; k _ _ _ h1 h2
mutual
theorem RC.stays0 {w w' : World} {S S' : Nat → Nat → Prop} (k : Stays0 w S w' S') {cs : List Value} {v : CV} (h : RC w S cs v) (hn : v.plain = true) : RC w' S' cs v := by
  cases h with
  | bool b => exact .bool b
  | int k n => exact .int k n
  | str s => exact .str s
  | nilp => exact .nilp
  | nilsl => exact .nilsl
  | nilmap => exact .nilmap
  | nilif => exact .nilif
  | nilfn => exact .nilfn
  | ptr b o off path root cs h hr => exact .ptr b o off path root cs (h.stays0 k) (RC.stays0 k hr (by simpa [CV.plain] using hn))
  | sl b o cap sz es cs h hr hc hm => exact .sl b o cap sz es cs (h.stays0 k) (RL.stays0 k hr (by simpa [CV.plain] using hn)) hc hm
  | sl0 sz a cap hm => exact .sl0 sz a cap hm
  | frs b o cap es cs h hr hc hm hu hs => simp [CV.plain] at hn
  | frs0 a cap hm => simp [CV.plain] at hn
  | agg cs fs h => exact .agg _ fs (RF.stays0 k h (by simpa [CV.plain] using hn))
  | arr n kk ns h => exact .arr n kk ns h
  | iface t v cv h hg => exact .iface t v cv (RC.stays0 k h (by simpa [CV.plain] using hn)) hg
  | fn f => exact .fn f
theorem RF.stays0 {w w' : World} {S S' : Nat → Nat → Prop} (k : Stays0 w S w' S') {cs : List Value} {v : List CV} (h : RF w S cs v) (hn : CV.plains v = true) : RF w' S' cs v := by
  cases h with
  | nil => exact .nil
  | cons c cs f fs h hs =>
    simp only [CV.plains, Bool.and_eq_true] at hn
    exact .cons c cs f fs (RC.stays0 k h hn.1) (RF.stays0 k hs hn.2)
theorem RL.stays0 {w w' : World} {S S' : Nat → Nat → Prop} (k : Stays0 w S w' S') {sz : Nat} {cs : List Value} {v : List CV} (h : RL w S sz cs v) (hn : CV.plains v = true) : RL w' S' sz cs v := by
  cases h with
  | nil => exact .nil _
  | cons _ c cs f fs hl h hs =>
    simp only [CV.plains, Bool.and_eq_true] at hn
    exact .cons _ c cs f fs hl (RC.stays0 k h hn.1) (RL.stays0 k hs hn.2)
end
/-- What is there, and what comes. -/
def S1 (w : World) (b o : Nat) : Prop := (w.cell? ⟨b, o, none⟩).isSome = true ∨ w.heap.size ≤ b
theorem S1_fresh {w : World} {b : Nat} (h : ∀ q, S1 w b q) : w.heap.size ≤ b := by
  have key : ∃ q, w.cell? ⟨b, q, none⟩ = none := by
    cases hb : w.heap[b]? with
    | none => exact ⟨0, by simp [World.cell?, hb]⟩
    | some o =>
      cases o with
      | cells c t fr => exact ⟨c.size, by simp [World.cell?, hb]⟩
      | _ => exact ⟨0, by simp [World.cell?, hb]⟩
  obtain ⟨q, hq⟩ := key
  rcases h q with h | h
  · rw [hq] at h; simp at h
  · exact h
theorem start_F (w : World) : Ok cfgF (S1 w) Gh.start w [] where
  inv := ⟨fun id b h => by simp [Gh.start, get] at h, fun id b h => by simp [Gh.start, get] at h, fun i bi j bj h => by simp [Gh.start, get] at h, fun _ _ h => .inr h, fun id b h => by simp [Gh.start, get] at h⟩
  real := fun id b h => by simp [Gh.start, get] at h
  gl := fun n v h => by simp [cfgF] at h
  heap := rfl
theorem not_frozenF {w : World} {b o : Nat} {cs : Array Value} {t : TypeId} (h : w.heap[b]? = some (.cells cs t (0, 0))) : w.frozen? ⟨b, o, none⟩ = false := by
  unfold World.frozen?
  rw [h]
  simp
theorem RC_ownsF {S0 : Nat → Nat → Prop} {C : Cfg} {g : Gh} {w w' : World} {H : Heap} (h : Ok C S0 g w H) {v : Value} {xs : List Int} (ho : w'.ownsRow w.heap.size 5 1 v xs.length (xs.map (Value.int .u8))) :
    RC w' (g.St S0) [v] (.frs (xs.map (CV.int .u8))) := by
  obtain ⟨_, ho⟩ := ho
  rcases ho with ⟨rfl, hn⟩ | ⟨b, cap, cur, rfl, hb, hh, hn, hc, hsz, htk⟩
  · obtain rfl : xs = [] := List.length_eq_zero_iff.1 hn
    exact .frs0 none 0 (by unfold maxLen; omega)
  · have hfree : g.free b := fun id blk hG hok hv he => by
      have := h.inv.lt id blk hG hv
      omega
    have := RC.frs (w := w') (S := g.St S0) b 0 cap (xs.map (CV.int .u8)) (xs.map (Value.int .u8)) (fun i v hv => ?_) (RL_mk xs) (by simpa using hn) hc (fun i hi => not_frozenF hh) (fun q => ⟨h.inv.fresh _ _ hb, hfree⟩)
    · simpa using this
    · refine ⟨?_, h.inv.fresh _ _ hb, hfree⟩
      rw [Nat.zero_add]
      unfold World.cell?
      rw [hh]
      simp only [Option.isSome_none, Bool.false_eq_true, if_false]
      rw [← htk, List.getElem?_take] at hv
      split at hv
      · simpa using hv
      · cases hv
theorem prim35F : PrimOk cfgF 35 cloneF where
  keeps := fun args H v H' h => by
    unfold cloneF at h
    split at h
    · simp only [Option.some.injEq, Prod.mk.injEq] at h
      rw [h.2]
      exact ⟨Nat.le_refl _, fun _ _ h _ => h⟩
    · split at h
      · split at h
        · simp only [Option.some.injEq, Prod.mk.injEq] at h
          rw [h.2]
          exact ⟨Nat.le_refl _, fun _ _ h _ => h⟩
        · cases h
      · cases h
    · cases h
  fn := fn103
  run := fun args H v H' h S0 g w us hO hu => by
    unfold cloneF at h
    split at h
    · simp only [Option.some.injEq, Prod.mk.injEq] at h
      obtain ⟨rfl, rfl⟩ := h
      cases hu with
      | cons u _ _ _ h1 hs =>
        cases hs
        obtain ⟨a, n, c, rfl, _, _, _, ha, ha', _⟩ := RC_ints (RV_c1 h1 rfl) (.inl ⟨rfl, rfl⟩)
        obtain rfl := ha' rfl
        refine Calls.mono (clone_nil n c w) fun e w' he => ?_
        obtain ⟨rfl, rfl⟩ := he
        exact ⟨_, g, rfl, hO, Step.refl _ _, .one _ _ (.c _ _ .nilsl) rfl⟩
    · rename_i es
      split at h
      · rename_i bs hbs
        split at h
        · rename_i hlen
          simp only [Option.some.injEq, Prod.mk.injEq] at h
          obtain ⟨rfl, rfl⟩ := h
          cases hu with
          | cons u _ _ _ h1 hs =>
            cases hs
            refine Calls.mono (clone_calls hO h1 (a := .c (.sl 1 es)) (by simp [elemsOf]) hbs hlen) fun e w' hc => ?_
            rcases hc with ⟨rfl, rfl, rfl⟩ | ⟨v, xs, rfl, rfl, h2, h3⟩
            · exact ⟨_, g, rfl, hO, Step.refl _ _, .one _ _ (.c _ _ (.frs0 none 0 (by unfold maxLen; omega))) rfl⟩
            · exact ⟨_, g, rfl, hO.below h3, Below.step h3, .one _ _ (.c _ _ (RC_ownsF hO h2)) rfl⟩
        · cases h
      · cases h
    · cases h
theorem primsF : ∀ f p, cfgF.prim f = some p → PrimOk cfgF f p := fun f p h => by
  simp only [cfgF] at h
  split at h
  · rename_i hf; subst hf; simp only [Option.some.injEq] at h; subst h; exact prim35F
  · cases h
theorem An0_pc : ∀ f id, (An0 f).pc id = none := by
  intro f id
  unfold An0
  split <;> rfl
theorem freezeL_ok {C : Cfg} {S0 : Nat → Nat → Prop} : ∀ (vs : List AV) (us : List Value) (H H' : Heap) (cs : List CV) (g : Gh) (w : World), (∀ v ∈ vs, NT v) → Ok C S0 g w H → RVs g w (g.St S0) us vs → freezeL H vs = some (cs, H') →
    ∃ g', Ok C S0 g' w H' ∧ Step g w g' w ∧ RVs g' w (g'.St S0) us (cs.map .c)
  | [], us, H, H', cs, g, w, hn, hO, hu, h => by
    simp only [freezeL, Option.some.injEq, Prod.mk.injEq] at h
    obtain ⟨rfl, rfl⟩ := h
    exact ⟨g, hO, Step.refl g w, hu⟩
  | v :: vs, us, H, H', cs, g, w, hn, hO, hu, h => by
    cases hu with
    | cons u us _ _ h0 hs =>
      simp only [freezeL] at h
      split at h
      · rename_i c H1 h1
        split at h
        · rename_i cs1 H2 h2
          simp only [Option.some.injEq, Prod.mk.injEq] at h
          obtain ⟨rfl, rfl⟩ := h
          obtain ⟨g1, k1, k2, k3⟩ := toCV hO h0 (hn v (by simp)) h1
          obtain ⟨g2, m1, m2, m3⟩ := freezeL_ok vs us H1 H2 cs1 g1 w (fun x hx => hn x (by simp [hx])) k1 (hs.step k2 (k2.stays S0)) h2
          exact ⟨g2, m1, k2.trans m2, .cons _ _ _ _ (k3.step m2 (m2.stays S0)) m3⟩
        · simp at h
      · simp at h
theorem RVs_plain {g g' : Gh} {w : World} {S S' : Nat → Nat → Prop} (k : Stays0 w S w S') : ∀ (cs : List CV) (us : List Value), RVs g w S us (cs.map .c) → (∀ c ∈ cs, c.isAgg = false ∧ c.plain = true) → RVs g' w S' us (cs.map .c)
  | [], us, h, _ => by cases h; exact .nil
  | c :: cs, us, h, hc => by
    cases h with
    | cons u us _ _ h hs =>
      obtain ⟨h1, h2⟩ := hc c (by simp)
      exact .cons _ _ _ _ (RV.ofC1 (RC.stays0 k (RV_c1 h h1) h2) h1) (RVs_plain k cs us hs fun x hx => hc x (by simp [hx]))
/-- A row that a call hands out fresh. -/
theorem row_calls {C : Cfg} {S0 : Nat → Nat → Prop} {g : Gh} {w : World} {H : Heap} (hO : Ok C S0 g w H) {f : FuncId} {sz k : Nat} {vs : List AV} {us : List Value} (hok : okRow f sz k vs H) (hu : RVs g w (g.St S0) us vs) :
    Calls Try.prog f us.toArray w fun e w' => ∃ a n c, e = .returned (.slice a n c) ∧ n ≤ maxLen ∧ Kept w w' ∧ (0 < n → ∃ hb ho ys, a = some ⟨hb, ho, none⟩ ∧ JInv w w' sz k hb ho n ys) := by
  obtain ⟨hnt, cs0, H1, r, hfr, hcs, hfn, hr⟩ := hok
  obtain ⟨g1, _, _, hu1⟩ := freezeL_ok vs us H H1 cs0 g w hnt hO hu hfr
  have hus : RVs Gh.start w (Gh.start.St (S1 w)) us (cs0.map .c) := RVs_plain (fun b o x hc _ => ⟨hc, .inl (by rw [hc]; rfl), fun id blk h => by simp [Gh.start, get] at h⟩) cs0 us hu1 hcs
  · refine Calls.mono ((runG_CfOk (callX_ok (An := An0) (C := cfgF) (by kernel_rfl) (piecesOk_none An0_pc) primsF) (by kernel_rfl) (piecesOk_none An0_pc)).run f (cs0.map .c) [] _ _ hfn (S1 w) Gh.start w us (start_F w) hus) fun e w' he => ?_
    obtain ⟨y, g', rfl, k1, k2, k3⟩ := he
    have hk : Kept w w' := ⟨k2.size, fun b hb => (k2.keep b hb (fun id blk hG => by simp [Gh.start, get] at hG)).1, k2.os, k2.tape, k2.output⟩
    rcases hr with rfl | ⟨es, rfl, hes⟩
    · obtain rfl := RV_nilsl k3
      exact ⟨none, 0, 0, rfl, by unfold maxLen; omega, hk, fun h => absurd h (by omega)⟩
    · have hc1 := k3.cv1 rfl
      generalize e1 : [y] = l at hc1
      cases hc1 with
      | sl0 _ a cap hm =>
        injection e1 with e1
        subst e1
        exact ⟨a, 0, cap, rfl, by unfold maxLen; omega, hk, fun h => absurd h (by omega)⟩
      | sl b o cap _ _ cs h3 h4 h5 h6 =>
        injection e1 with e1
        subst e1
        refine ⟨_, _, _, rfl, Nat.le_trans h5 h6, hk, fun hn => ?_⟩
        have hlen := h4.length
        have hones := h4.ones
        have hkey : ∀ i, i < es.length → ∃ y, w'.cell? ⟨b, o + (i * sz + k), none⟩ = some y ∧ JKey w.heap.size w' y := by
          intro i hi
          obtain ⟨pre, xs, post, rfl, q1, q2, q3, _⟩ := h4.split i es[i] (List.getElem?_eq_getElem hi)
          obtain ⟨f1, f2, x, f3, f4, f5⟩ := hes es[i] (List.getElem_mem hi)
          obtain ⟨zs, q5, q6⟩ := q3.get [k] x k f3 f4
          have hx1 : x.size = 1 := by rcases f5 with rfl | ⟨bs, rfl⟩ <;> rfl
          have hzl : zs.length = 1 := by rw [q5.length, hx1]
          obtain ⟨y, rfl⟩ := List.length_eq_one_iff.1 hzl
          have hy := q6 0 y rfl
          rw [Nat.add_zero] at hy
          have hkx : k < xs.length := (List.getElem?_eq_some_iff.1 hy).1
          have hcell : w'.cell? ⟨b, o + (i * sz + k), none⟩ = some y := (h3 (i * sz + k) y (by
            rw [List.append_assoc, List.getElem?_append_right (by omega), List.getElem?_append_left (by omega), ← hy]
            congr 1
            omega)).1
          refine ⟨y, hcell, ?_⟩
          generalize e2 : [y] = l2 at q5
          rcases f5 with rfl | ⟨bs, rfl⟩
          · cases q5
            injection e2 with e2
            subst e2
            exact ⟨none, 0, 0, rfl, by unfold maxLen; omega, fun j hj => absurd hj (by omega)⟩
          · generalize e3 : bytesAV bs = bb at q5
            cases q5 with
            | frs0 a cap' hm' =>
              injection e2 with e2
              subst e2
              exact ⟨a, 0, cap', rfl, by unfold maxLen; omega, fun j hj => absurd hj (by omega)⟩
            | frs b' o' cap' _ cs' r1 r2 r3 r4 r5 r6 =>
              injection e2 with e2
              subst e2
              subst e3
              refine ⟨_, _, _, rfl, Nat.le_trans r3 r4, fun j hj => ?_⟩
              have hcs : cs' = (bs.map fun c => (c.toNat : Int)).map (Value.int .u8) := RL_ints _ (by rw [List.map_map]; exact r2)
              have hj2 : j < bs.length := by simpa [bytesAV] using hj
              refine ⟨b', o', (bs[j].toNat : Int), rfl, S1_fresh fun q => (r6 q).1, (r1 j _ ?_).1, r5 j hj⟩
              rw [hcs]
              simp [hj2]
        refine ⟨b, o, (List.range es.length).map fun i => (w'.cell? ⟨b, o + (i * sz + k), none⟩).getD undef, rfl, hk, by simp, fun i hi q hq => ?_, fun i y hy => ?_⟩
        · have hq2 : i * sz + q < cs.length := by
            rw [hlen]
            calc i * sz + q < i * sz + sz := by omega
              _ = (i + 1) * sz := by rw [Nat.add_mul]; omega
              _ ≤ es.length * sz := Nat.mul_le_mul_right _ (by omega)
          exact ⟨cs[i * sz + q], (h3 (i * sz + q) _ (List.getElem?_eq_getElem hq2)).1, hones _ (List.getElem_mem hq2)⟩
        · have hi : i < es.length := by
            have := (List.getElem?_eq_some_iff.1 hy).1
            simpa using this
          obtain ⟨y', h7, h8⟩ := hkey i hi
          have : y = y' := by
            rw [List.getElem?_map, List.getElem?_range hi] at hy
            simp only [Option.map_some, Option.some.injEq] at hy
            rw [← hy, h7]
            rfl
          subst this
          exact ⟨h7, h8⟩
end Go.Fm

/-
  A part of the proof: PIns.
-/
import Derived.Test.YtjmjijgnbjkpnaaPClone
import Derived.Shelf.RegionOpenPlain
import Derived.WalkKit
import Derived.Lib.Walk
import Derived.Lib.SliceRun
import Derived.Lib.JoinLaws
import Derived.Lib.AppendZeros
import Derived.Lib.AppendZerosOnto
import Derived.Lib.Overlaps
import Derived.Shelf.Spec.SlicesInsert
import Derived.Laws.Externs
import Derived.Laws.IdiomCopy
set_option linter.all false
set_option autoImplicit true
/-
  slices.Insert of pairs, at the model: its four ways, by what its parts run to.
-/
set_option maxRecDepth 100000
set_option linter.unusedVariables false
set_option linter.unusedSimpArgs false
namespace Go.Fm
open Go Go.Proofs Go.RowKit Go.Lib
theorem und54 : Try.prog.underlying 47 = some (.slice 59) := by kernel_rfl
theorem info97 : (Try.prog.info? 59).map (fun i => (i.zero, i.size, i.bytes)) = some (some (.agg #[.slice none 0 0, .slice none 0 0]), 2, 48) := by kernel_rfl
/-- At the end. -/
theorem ins_end (A : Option Addr) (n c : Nat) (V : Value) (vb : Option Addr) (vc : Nat) (w w' : World) (r : Value) (hV : V = .slice vb 1 vc)
    (hap : ∀ ty, (Builtin.append_ #[47, 47] ty #[.slice A n c, V]).run Try.prog w = .ok r w') :
    Calls Try.prog 37 #[.slice A n c, .int .i64 n, V] w fun e w2 => e = .returned r ∧ w2 = w' := by
  subst hV
  have mixed := mixed
  go_enter Try.func37, Try.ntmps37
  go_wp2_with (at_builtin; refine Lib.wpList_append_run _ rfl _ _ _ _ rfl _ _ rfl rfl _ _ (hap _) ?_)
  all_goals (go_ret; exact ⟨rfl, rfl⟩)
/-- There is room: in place. -/
theorem ins_shift (b off n c i : Nat) (vb : Addr) (vc : Nat) (w w1 w2 : World) (r1 r2 : Value) (hi : i < n) (hroom : n + 1 ≤ c) (hc63 : c ≤ 9223372036854775807)
    (hov : ∀ lb cb, (callFunc 46 #[.slice (some vb) 1 vc, .slice (some ⟨b, off + (i + 1) * 2, none⟩) lb cb]).run Try.prog w = .ok (.value (.bool false)) w)
    (hcp1 : ∀ ty dc sc, (Builtin.copy_ #[47, 47] ty #[.slice (some ⟨b, off + (i + 1) * 2, none⟩) (n - i) dc, .slice (some ⟨b, off + i * 2, none⟩) (n + 1 - i) sc]).run Try.prog w.drew = .ok r1 w1)
    (hcp2 : ∀ ty dc, (Builtin.copy_ #[47, 47] ty #[.slice (some ⟨b, off + i * 2, none⟩) (n + 1 - i) dc, .slice (some vb) 1 vc]).run Try.prog w1 = .ok r2 w2) :
    Calls Try.prog 37 #[.slice (some ⟨b, off, none⟩) n c, .int .i64 i, .slice (some vb) 1 vc] w fun e w' => e = .returned (.slice (some ⟨b, off, none⟩) (n + 1) c) ∧ w' = w2 := by
  have mixed := mixed
  have hw1 : IntKind.i64.wrap ((i : Int) + 1) = (i : Int) + 1 := by rw [IntKind.wrap_i64]; omega
  have hw2 : IntKind.i64.wrap ((n : Int) + 1) = (n : Int) + 1 := by rw [IntKind.wrap_i64]; omega
  have hb1 : (0 : Int) ≤ (i : Int) + 1 := by omega
  have hin : i ≤ n := by omega
  have htn : ((i : Int) + 1).toNat = i + 1 := by omega
  have htn2 : ((n : Int) + 1).toNat = n + 1 := by omega
  have hb2 : ¬ (c = i + 1) := by omega
  have hb3 : (i : Int) ≤ (n : Int) + 1 := by omega
  have hb4 : ¬ (c = i) := by omega
  have hz2 : ¬ ((i : Int) = (n : Int)) := by omega
  have hno : ¬ ((n : Int) + 1 > (c : Int)) := by omega
  go_enter Try.func37, Try.ntmps37
  go_wp2_with (simp only [hov])
  go_region_law_o (refine step_copy_runI rfl _ _ 47 47 rfl _ _ (by simp [Act.eval, Act.put]) (by simp [Act.eval, Act.put]) (hcp1 _ _ _) ?_)
  go_wp2_with (at_builtin; refine wpList_copy_runI _ rfl _ _ 47 47 rfl _ _ rfl rfl (hcp2 _ _) ?_)
  go_ret
  exact ⟨rfl, rfl⟩
/-- There is no room: a new row. -/
theorem ins_grow (b off n c i : Nat) (vb : Addr) (vc : Nat) (nb G : Nat) (w w1 w2 w3 : World) (r1 r2 : Value) (hi : i < n) (hroom : c < n + 1) (hnc : n ≤ c) (hc63 : c ≤ 9223372036854775807) (hG : n + 1 ≤ G) (hG63 : G ≤ 9223372036854775807) (hn63 : n + 1 ≤ 9223372036854775807)
    (hap : ∀ ty, (Builtin.append_ #[47, 3] ty #[.slice (some ⟨b, off, none⟩) i c, .int .i64 ((n : Int) + 1 - (i : Int))]).run Try.prog w = .ok (.slice (some ⟨nb, 0, none⟩) (n + 1) G) w1)
    (hcp1 : ∀ ty dc, (Builtin.copy_ #[47, 47] ty #[.slice (some ⟨nb, i * 2, none⟩) (n + 1 - i) dc, .slice (some vb) 1 vc]).run Try.prog w1 = .ok r1 w2)
    (hcp2 : ∀ ty dc sc, (Builtin.copy_ #[47, 47] ty #[.slice (some ⟨nb, (i + 1) * 2, none⟩) (n - i) dc, .slice (some ⟨b, off + i * 2, none⟩) (n - i) sc]).run Try.prog w2.drew = .ok r2 w3) :
    Calls Try.prog 37 #[.slice (some ⟨b, off, none⟩) n c, .int .i64 i, .slice (some vb) 1 vc] w fun e w' => e = .returned (.slice (some ⟨nb, 0, none⟩) (n + 1) G) ∧ w' = w3 := by
  have mixed := mixed
  have hw1 : IntKind.i64.wrap ((i : Int) + 1) = (i : Int) + 1 := by rw [IntKind.wrap_i64]; omega
  have hw2 : IntKind.i64.wrap ((n : Int) + 1) = (n : Int) + 1 := by rw [IntKind.wrap_i64]; omega
  have hw3 : IntKind.i64.wrap ((n : Int) + 1 - (i : Int)) = (n : Int) + 1 - (i : Int) := by rw [IntKind.wrap_i64]; omega
  have hb1 : (0 : Int) ≤ (i : Int) + 1 := by omega
  have hin : i ≤ n := by omega
  have htn : ((i : Int) + 1).toNat = i + 1 := by omega
  have hb3 : (i : Int) ≤ (n : Int) := by omega
  have hGi : ¬ (G = i) := by omega
  have hGim : ¬ (G = i + 1) := by omega
  have hci : ¬ (c = i) := by omega
  have hz2 : ¬ ((i : Int) = (n : Int)) := by omega
  have hz3 : (c : Int) < (n : Int) + 1 := by omega
  go_enter Try.func37, Try.ntmps37
  go_wp2_with (first
    | (at_builtin; refine Lib.wpList_append_run _ rfl _ _ _ _ rfl _ _ rfl rfl _ _ (hap _) ?_)
    | (at_builtin; refine wpList_copy_runI _ rfl _ _ 47 47 rfl _ _ rfl rfl (hcp1 _ _) ?_))
  go_region_law_o (refine step_copy_runI rfl _ _ 47 47 rfl _ _ (by simp [Act.eval, Act.put]) (by simp [Act.eval, Act.put]) (hcp2 _ _ _) ?_)
  go_wp2
  go_ret
  exact ⟨rfl, rfl⟩
end Go.Fm
/-
  slices.Delete of one pair, at the model, by what its parts run to.
-/
set_option maxRecDepth 100000
set_option linter.unusedVariables false
set_option linter.unusedSimpArgs false
namespace Go.Fm
open Go Go.Proofs Go.RowKit Go.Lib
theorem step_append_runP {P : Program} {ops : Array Oper} {o : Oper} {a : Act} {w : World} {K : Act → World → Prop} {Q : Exit → Act → World → Prop} {E : Prop}
    (hg : o.guard = none) (d x : Operand) (dT sT : TypeId) (hop : o.op = Op.call { callee := Callee.builtin Builtin.append, args := #[d, x], argTypes := #[dT, sT] })
    (v u : Value) (hd : a.eval d = v) (hx : a.eval x = u) {v' : Value} {w' : World} (hr : (Builtin.append_ #[dT, sT] o.type #[v, u]).run P w = .ok v' w') (hK : K (a.put o.dst v') w') :
    if Region.wanted o (yielded ops a.tmps) = true then Oper.wp P o a w K Q else E := by
  have hw : Region.wanted o (yielded ops a.tmps) = true := by simp [Region.wanted, hg]
  rw [if_pos hw]
  unfold Oper.wp
  simp only [execOp, hop, resolve, invoke, builtin, Sem.run_bind, Sem.run_pure, Result.andThen_ok, List.map_toArray, List.map_cons, List.map_nil, hd, hx, hr]
  exact hK
/-- One goes. -/
theorem del_one (b off N c i : Nat) (A : Addr) (w w1 w2 : World) (hi : i ≤ N) (hnc : N + 1 ≤ c) (hc63 : c ≤ 9223372036854775807)
    (hA : (if c = i + 1 then (some ⟨b, off, none⟩ : Option Addr) else some ⟨b, off + (i + 1) * 2, none⟩) = some A)
    (hap : ∀ ty, (Builtin.append_ #[47, 47] ty #[.slice (some ⟨b, off, none⟩) i c, .slice (some A) (N - i) (c - (i + 1))]).run Try.prog w.drew = .ok (.slice (some ⟨b, off, none⟩) N c) w1)
    (hcl : ∀ ty, (Builtin.clear_ #[47] ty #[.slice (some ⟨b, off + N * 2, none⟩) 1 (c - N)]).run Try.prog w1 = .ok (.tuple #[]) w2) :
    Calls Try.prog 38 #[.slice (some ⟨b, off, none⟩) (N + 1) c, .int .i64 i, .int .i64 ((i : Int) + 1)] w fun e w' => e = .returned (.slice (some ⟨b, off, none⟩) N c) ∧ w' = w2 := by
  have mixed := mixed
  have hb1 : (0 : Int) ≤ (i : Int) + 1 := by omega
  have hin : (i : Int) ≤ (N : Int) := by omega
  have hin2 : i ≤ N + 1 := by omega
  have hic : i ≤ c := by omega
  have hic1 : i + 1 ≤ c := by omega
  have hic2 : (i : Int) + 1 ≤ (c : Int) := by omega
  have hic3 : (i : Int) ≤ (c : Int) := by omega
  have hin3 : (i : Int) ≤ (i : Int) + 1 := by omega
  have hNc : N ≤ c := by omega
  have hNc2 : ¬ (c = N) := by omega
  have htn : ((i : Int) + 1).toNat = i + 1 := by omega
  have hne : ¬ ((i : Int) = (i : Int) + 1) := by omega
  have hne2 : ¬ ((i : Int) + 1 = (i : Int)) := by omega
  go_enter Try.func38, Try.ntmps38
  go_wp2_with fail
  go_region_law_o (refine step_append_runP rfl _ _ 47 47 rfl _ _ (by simp [Act.eval, Act.put]) (by simp [Act.eval, Act.put]) (hap _) ?_)
  go_wp2
  go_ret
  exact ⟨rfl, rfl⟩
end Go.Fm
/-
  slices.Insert and slices.Delete of pairs, as operations of the interpreter.
-/
set_option maxRecDepth 100000
set_option linter.unusedVariables false
set_option linter.unusedSimpArgs false
namespace Go.Fm
open Go Go.Proofs Go.RowKit Go.Lib
theorem run_copyP (w w' : World) (ty : TypeId) (A : Addr) (dl dc m k : Nat) (sv : Value) (cs : List Value) (hl : Builtin.lenOf sv = (Pure.pure m : Sem Nat)) (hk : Nat.min m dl = k) (hc : (Builtin.firstCells 2 k sv).run Try.prog w = .ok cs.toArray w) (hst : (storeCells A cs).run Try.prog w = .ok () w') :
    (Builtin.copy_ #[47, 47] ty #[.slice (some A) dl dc, sv]).run Try.prog w = .ok (goInt k) w' := by
  obtain ⟨i0, hi, hz0, hz1, hz2⟩ := info_parts info97
  simp [Builtin.copy_, run_underlying und54, hl, sizeOf, typeInfo, hi, hz1, hk, hc, hst]
theorem firstP (w : World) (b o n c k : Nat) (cs : List Value) (hl : cs.length = k * 2) (h : ∀ j u, cs[j]? = some u → w.cell? ⟨b, o + j, none⟩ = some u) :
    (Builtin.firstCells 2 k (.slice (some ⟨b, o, none⟩) n c)).run Try.prog w = .ok cs.toArray w :=
  run_firstCells_some (P := Try.prog) w 2 k ⟨b, o, none⟩ n c cs hl (fun j u hj => by rw [addr_add]; exact h j u hj)
theorem cells_at {w : World} {b : Nat} {pre cs post : List Value} {t : TypeId} {fr : Nat × Nat} (h : w.heap[b]? = some (.cells (pre ++ cs ++ post).toArray t fr)) (o : Nat) (ho : pre.length = o) : ∀ j u, cs[j]? = some u → w.cell? ⟨b, o + j, none⟩ = some u := fun j u hj => by
  rw [cell_of_row w _ _ _ _ fr h]
  have hlt : j < cs.length := (List.getElem?_eq_some_iff.1 hj).1
  simp only [List.getElem?_toArray]
  rw [List.append_assoc, List.getElem?_append_right (by omega), List.getElem?_append_left (by omega), ← hj]
  congr 1
  omega
theorem not_frozen {w : World} {b o : Nat} {cs : Array Value} {t : TypeId} (h : w.heap[b]? = some (.cells cs t (0, 0))) : w.frozen? ⟨b, o, none⟩ = false := by
  unfold World.frozen?
  rw [h]
  simp
/-- In place: what lies behind. -/
theorem shift_world {b vb β βx i : Nat} {fr : Nat × Nat} {w : World} {pre csA csB post prex csx postx : List Value} {tx : TypeId} {frx : Nat × Nat} (hne : vb ≠ b)
    (h1 : w.heap[b]? = some (.cells (pre ++ (csA ++ csB) ++ post).toArray 59 fr)) (hx : w.heap[vb]? = some (.cells (prex ++ csx ++ postx).toArray tx frx))
    (hp : pre.length = β) (hpx : prex.length = βx) (hfr : ∀ k, k < (pre ++ (csA ++ csB) ++ post).length → (fr.1 ≤ k && k < fr.2) = false) (hA : csA.length = i * 2) (hx2 : csx.length = 2) (hpost : 2 ≤ post.length) (nB n : Nat) (hB : csB.length = nB * 2) (hn : n = i + nB)
    (onesB : ∀ u ∈ csB, u.oneCell' = true) (onesX : ∀ u ∈ csx, u.oneCell' = true) :
    ∃ w1, (∀ ty dc sc, (Builtin.copy_ #[47, 47] ty #[.slice (some ⟨b, β + (i + 1) * 2, none⟩) (n - i) dc, .slice (some ⟨b, β + i * 2, none⟩) (n + 1 - i) sc]).run Try.prog w.drew = .ok (goInt nB) w1) ∧
      (∀ ty dc vc, (Builtin.copy_ #[47, 47] ty #[.slice (some ⟨b, β + i * 2, none⟩) (n + 1 - i) dc, .slice (some ⟨vb, βx, none⟩) 1 vc]).run Try.prog w1 = .ok (goInt 1) (w.drew.setRow b (pre ++ (csA ++ csx ++ csB) ++ post.drop 2).toArray)) := by
  have h1' : w.drew.heap[b]? = some (.cells (pre ++ (csA ++ csB) ++ post).toArray 59 fr) := h1
  obtain ⟨BP, hBP⟩ : ∃ BP, BP = csB ++ post := ⟨_, rfl⟩
  have lBP : BP.length = nB * 2 + post.length := by rw [hBP]; simp [hB]
  have hd : BP.drop (2 + nB * 2) = post.drop 2 := by rw [hBP, ← hB, Nat.add_comm, ← List.drop_drop, List.drop_left]
  have hrow : pre ++ (csA ++ csB) ++ post = (pre ++ csA ++ BP.take 2) ++ (BP.drop 2).take (nB * 2) ++ post.drop 2 := by
    rw [← hd, ← List.drop_drop]
    simp only [List.append_assoc, List.take_append_drop]
    rw [hBP]
  have s1 := run_stores (P := Try.prog) (b := b) (t := 59) (fr := fr) csB 0 (β + (i + 1) * 2) (pre ++ csA ++ BP.take 2) ((BP.drop 2).take (nB * 2)) (post.drop 2) w.drew (by rw [← hrow]; exact h1') (by simp [hp, hA]; omega) (by simp [hB]; omega) (by rw [← hrow]; exact hfr) onesB
  refine ⟨w.drew.setRow b (pre ++ csA ++ BP.take 2 ++ csB ++ post.drop 2).toArray, fun ty dc sc => ?_, fun ty dc vc => ?_⟩
  · refine run_copyP _ _ _ _ _ _ (n + 1 - i) nB _ csB rfl (by simp only [Nat.min_def]; split <;> omega) (firstP _ _ _ _ _ _ _ hB ?_) s1
    have e : pre ++ (csA ++ csB) ++ post = (pre ++ csA) ++ csB ++ post := by simp
    rw [e] at h1'
    exact cells_at h1' _ (by simp [hp, hA])
  · have hh := setRow_heap w.drew b _ (pre ++ csA ++ BP.take 2 ++ csB ++ post.drop 2).toArray 59 fr h1'
    have e2 : pre ++ csA ++ BP.take 2 ++ csB ++ post.drop 2 = (pre ++ csA) ++ BP.take 2 ++ (csB ++ post.drop 2) := by simp
    rw [e2] at hh
    have s2 := run_stores (P := Try.prog) (b := b) (t := 59) (fr := fr) csx 0 (β + i * 2) (pre ++ csA) (BP.take 2) (csB ++ post.drop 2) _ hh (by simp [hp, hA]) (by simp [hx2]; omega) (fun k hk => hfr k (by rw [hrow]; simp at hk ⊢; omega)) onesX
    rw [← e2] at s2
    rw [setRow_setRow] at s2
    have e3 : pre ++ csA ++ csx ++ (csB ++ post.drop 2) = pre ++ (csA ++ csx ++ csB) ++ post.drop 2 := by simp
    rw [e3] at s2
    refine run_copyP _ _ _ _ _ _ 1 1 _ csx rfl (by simp only [Nat.min_def]; split <;> omega) (firstP _ _ _ _ _ _ _ (by rw [hx2]) ?_) s2
    refine cells_at (pre := prex) (post := postx) (t := tx) (fr := frx) ?_ _ hpx
    rw [setRow_other _ _ _ _ hne]
    exact hx
theorem und3 : Try.prog.underlying 3 = some (.int .i64) := by kernel_rfl
theorem setRow_push {w : World} {h : Array Obj} {A B : Array Value} {t : TypeId} {fr : Nat × Nat} (e : w.heap = h.push (.cells A t fr)) : (w.setRow h.size B).heap = h.push (.cells B t fr) := by
  apply Array.ext_getElem?
  intro k
  by_cases hk : k = h.size
  · subst hk
    rw [setRow_heap w h.size A B t fr (by rw [e]; simp)]
    simp
  · rw [setRow_other _ _ _ _ hk, e, Array.getElem?_push, Array.getElem?_push, if_neg hk, if_neg hk]
/-- Anew: what lies behind. -/
theorem grow_world {b vb β βx i κ n : Nat} {fr : Nat × Nat} {w : World} {pre csA csB post prex csx postx : List Value} {tx : TypeId} {frx : Nat × Nat}
    (h1 : w.heap[b]? = some (.cells (pre ++ (csA ++ csB) ++ post).toArray 59 fr)) (hx : w.heap[vb]? = some (.cells (prex ++ csx ++ postx).toArray tx frx))
    (hp : pre.length = β) (hpx : prex.length = βx) (hA : csA.length = i * 2) (hx2 : csx.length = 2) (nB : Nat) (hB : csB.length = nB * 2) (hn : n = i + nB) (hi : i < n) (hκ : κ < n + 1) (hnκ : n ≤ κ)
    (hbig : (n + 1) * 48 ≤ 140737488355328) (h63 : n + 1 ≤ maxLen)
    (onesB : ∀ u ∈ csB, u.oneCell' = true) (onesX : ∀ u ∈ csx, u.oneCell' = true) :
    ∃ G w1 w2 w3 Z, n + 1 ≤ G ∧ G ≤ maxLen ∧ (∀ ty, (Builtin.append_ #[47, 3] ty #[.slice (some ⟨b, β, none⟩) i κ, .int .i64 ((n : Int) + 1 - (i : Int))]).run Try.prog w = .ok (.slice (some ⟨w.heap.size, 0, none⟩) (n + 1) G) w1) ∧
      (∀ ty dc vc, (Builtin.copy_ #[47, 47] ty #[.slice (some ⟨w.heap.size, i * 2, none⟩) (n + 1 - i) dc, .slice (some ⟨vb, βx, none⟩) 1 vc]).run Try.prog w1 = .ok (goInt 1) w2) ∧
      (∀ ty dc sc, (Builtin.copy_ #[47, 47] ty #[.slice (some ⟨w.heap.size, (i + 1) * 2, none⟩) (n - i) dc, .slice (some ⟨b, β + i * 2, none⟩) (n - i) sc]).run Try.prog w2.drew = .ok (goInt nB) w3) ∧
      w3.heap = w.heap.push (.cells ([] ++ (csA ++ csx ++ csB) ++ Z).toArray 59 (0, 0)) ∧ G * 2 ≤ (csA ++ csx ++ csB ++ Z).length ∧ w3.os = w.os ∧ w3.tape = w.tape ∧ w3.output = w.output := by
  obtain ⟨i0, hi0, hz0, hz1, hz2⟩ := info_parts info97
  have hbw : b < w.heap.size := (Array.getElem?_eq_some_iff.1 h1).1
  have hvw : vb < w.heap.size := (Array.getElem?_eq_some_iff.1 hx).1
  have e0 : pre ++ (csA ++ csB) ++ post = pre ++ csA ++ (csB ++ post) := by simp
  have e1 : pre ++ (csA ++ csB) ++ post = (pre ++ csA) ++ csB ++ post := by simp
  have hold : (Builtin.firstCells i0.size i (.slice (some ⟨b, β, none⟩) i κ)).run Try.prog w.drew = .ok csA.toArray w.drew := by
    rw [hz1]
    exact firstP w.drew b β i κ i csA hA (cells_at (w := w.drew) (by rw [← e0]; exact h1) _ hp)
  have hik : i + (n + 1 - i) = n + 1 := by omega
  have hap := run_append_grow_zeros w 47 3 3 59 i0 _ .i64 .i64 und54 und3 hi0 hz0 (some ⟨b, β, none⟩) i κ csA hold (n + 1 - i) (by omega) (by omega) (by omega) (by unfold maxLen at h63; omega) (by rw [hz2]; omega) (by rw [hz2, hik]; exact growslice_fits hκ hbig)
  rw [hik] at hap
  obtain ⟨G, hG⟩ : ∃ G, G = grownCap w (n + 1) κ 59 := ⟨_, rfl⟩
  have hGge := grownCap_ge w (n + 1) κ 59
  have hGle := grownCap_le_maxLen w (n + 1) κ 59 h63
  obtain ⟨Z1, hZ1⟩ : ∃ Z1, Z1 = (Builtin.zeroCells (Value.agg #[.slice none 0 0, .slice none 0 0]).cells (n + 1 - i)).toList := ⟨_, rfl⟩
  obtain ⟨Z2, hZ2⟩ : ∃ Z2, Z2 = (Builtin.zeroCells (Value.agg #[.slice none 0 0, .slice none 0 0]).cells (G - (n + 1))).toList := ⟨_, rfl⟩
  have lZ1 : Z1.length = (n + 1 - i) * 2 := by rw [hZ1, Array.length_toList, size_zeroCells]; rfl
  have lZ2 : Z2.length = (G - (n + 1)) * 2 := by rw [hZ2, Array.length_toList, size_zeroCells]; rfl
  obtain ⟨w1, hw1⟩ : ∃ w1, w1 = w.drew.alloc (.cells (csA ++ Z1 ++ Z2).toArray 59) := ⟨_, rfl⟩
  have hr1 : (csA.toArray ++ Builtin.zeroCells (Value.agg #[.slice none 0 0, .slice none 0 0]).cells (n + 1 - i) ++ Builtin.zeroCells (Value.agg #[.slice none 0 0, .slice none 0 0]).cells (grownCap w (n + 1) κ 59 - (n + 1))) = (csA ++ Z1 ++ Z2).toArray := by
    apply Array.ext'
    rw [hZ1, hZ2, hG]
    simp
  have hh1 : w1.heap = w.heap.push (.cells (csA ++ Z1 ++ Z2).toArray 59 (0, 0)) := by rw [hw1]; rfl
  have hg1 : w1.heap[w.heap.size]? = some (.cells (csA ++ Z1.take 2 ++ (Z1.drop 2 ++ Z2)).toArray 59 (0, 0)) := by
    rw [hh1]
    simp only [Array.getElem?_push_size, Option.some.injEq]
    congr 2
    simp only [List.append_assoc]
    rw [← List.append_assoc (Z1.take 2), List.take_append_drop]
  have s1 := run_stores (P := Try.prog) (b := w.heap.size) (t := 59) (fr := (0, 0)) csx 0 (i * 2) csA (Z1.take 2) (Z1.drop 2 ++ Z2) w1 hg1 (by simp [hA]) (by simp [hx2, lZ1]; omega) (fun k hk => by simp) onesX
  obtain ⟨w2, hw2⟩ : ∃ w2, w2 = w1.setRow w.heap.size (csA ++ csx ++ (Z1.drop 2 ++ Z2)).toArray := ⟨_, rfl⟩
  rw [← hw2] at s1
  have hh2 : w2.heap = w.heap.push (.cells (csA ++ csx ++ (Z1.drop 2 ++ Z2)).toArray 59 (0, 0)) := by rw [hw2]; exact setRow_push hh1
  have hg2 : w2.drew.heap[w.heap.size]? = some (.cells ((csA ++ csx) ++ Z1.drop 2 ++ Z2).toArray 59 (0, 0)) := by
    show w2.heap[w.heap.size]? = _
    rw [hh2]
    simp
  have s2 := run_stores (P := Try.prog) (b := w.heap.size) (t := 59) (fr := (0, 0)) csB 0 ((i + 1) * 2) (csA ++ csx) (Z1.drop 2) Z2 w2.drew hg2 (by simp [hA, hx2]; omega) (by simp [hB, lZ1]; omega) (fun k hk => by simp) onesB
  have old : ∀ k, k < w.heap.size → w1.heap[k]? = w.heap[k]? := fun k hk => by rw [hh1, Array.getElem?_push, if_neg (by omega)]
  have old2 : ∀ k, k < w.heap.size → w2.drew.heap[k]? = w.heap[k]? := fun k hk => by show w2.heap[k]? = _; rw [hh2, Array.getElem?_push, if_neg (by omega)]
  refine ⟨G, w1, w2, w2.drew.setRow w.heap.size (csA ++ csx ++ csB ++ Z2).toArray, Z2, by rw [hG]; exact hGge, by rw [hG]; exact hGle, fun ty => ?_, fun ty dc vc => ?_, fun ty dc sc => ?_, ?_, ?_, ?_, ?_, ?_⟩
  · have hkk : (n : Int) + 1 - (i : Int) = ((n + 1 - i : Nat) : Int) := by omega
    rw [hr1, ← hw1, ← hG] at hap
    rw [hkk]
    exact hap
  · refine run_copyP _ _ _ _ _ _ 1 1 _ csx rfl (by simp only [Nat.min_def]; split <;> omega) (firstP _ _ _ _ _ _ _ (by rw [hx2]) ?_) s1
    exact cells_at (pre := prex) (post := postx) (t := tx) (fr := frx) (by rw [old vb hvw]; exact hx) _ hpx
  · refine run_copyP _ _ _ _ _ _ (n - i) nB _ csB rfl (by simp only [Nat.min_def]; split <;> omega) (firstP _ _ _ _ _ _ _ hB ?_) s2
    exact cells_at (pre := pre ++ csA) (post := post) (t := 59) (fr := fr) (by rw [old2 b hbw, ← e1]; exact h1) _ (by simp [hp, hA])
  · have := setRow_push (w := w2.drew) (h := w.heap) (B := (csA ++ csx ++ csB ++ Z2).toArray) (show w2.drew.heap = _ from hh2)
    rw [this]
    simp
  · simp only [List.length_append, hA, hx2, hB, lZ2]
    rw [hG] at *
    omega
  · rw [show (w2.drew.setRow w.heap.size (csA ++ csx ++ csB ++ Z2).toArray).os = w2.os from rfl, hw2, show (w1.setRow w.heap.size (csA ++ csx ++ (Z1.drop 2 ++ Z2)).toArray).os = w1.os from rfl, hw1]; rfl
  · rw [show (w2.drew.setRow w.heap.size (csA ++ csx ++ csB ++ Z2).toArray).tape = w2.tape from rfl, hw2, show (w1.setRow w.heap.size (csA ++ csx ++ (Z1.drop 2 ++ Z2)).toArray).tape = w1.tape from rfl, hw1]; rfl
  · rw [show (w2.drew.setRow w.heap.size (csA ++ csx ++ csB ++ Z2).toArray).output = w2.output from rfl, hw2, show (w1.setRow w.heap.size (csA ++ csx ++ (Z1.drop 2 ++ Z2)).toArray).output = w1.output from rfl, hw1]; rfl
end Go.Fm
/-
  slices.Insert and slices.Delete of pairs: the interpreter's operations are right.
-/
set_option maxRecDepth 100000
set_option linter.unusedVariables false
set_option linter.unusedSimpArgs false
namespace Go.Fm
open Go Go.Proofs Go.RowKit Go.Lib
def zz : List Value := [.slice none 0 0, .slice none 0 0]
theorem zcells : (Builtin.zeroCells (Value.agg #[.slice none 0 0, .slice none 0 0]).cells 1).toList = zz := by simp [Builtin.zeroCells, Value.cells, zz]
/-- One goes: what lies behind. -/
theorem del_world {b β i κ N : Nat} {fr : Nat × Nat} {w : World} {pre csA csv csB post : List Value}
    (h1 : w.heap[b]? = some (.cells (pre ++ (csA ++ csv ++ csB) ++ post).toArray 59 fr))
    (hp : pre.length = β) (hfr : ∀ k, k < (pre ++ (csA ++ csv ++ csB) ++ post).length → (fr.1 ≤ k && k < fr.2) = false) (hA : csA.length = i * 2) (hv2 : csv.length = 2) (nB : Nat) (hB : csB.length = nB * 2) (hN : N = i + nB) (hκ : N + 1 ≤ κ) (h63 : κ ≤ maxLen)
    (onesB : ∀ u ∈ csB, u.oneCell' = true) (A : Addr) (hAd : (if κ = i + 1 then (some ⟨b, β, none⟩ : Option Addr) else some ⟨b, β + (i + 1) * 2, none⟩) = some A) :
    ∃ w1, (∀ ty, (Builtin.append_ #[47, 47] ty #[.slice (some ⟨b, β, none⟩) i κ, .slice (some A) (N - i) (κ - (i + 1))]).run Try.prog w.drew = .ok (.slice (some ⟨b, β, none⟩) N κ) w1) ∧
      (∀ ty, (Builtin.clear_ #[47] ty #[.slice (some ⟨b, β + N * 2, none⟩) 1 (κ - N)]).run Try.prog w1 = .ok (.tuple #[]) (w.drew.setRow b (pre ++ (csA ++ csB) ++ (zz ++ post)).toArray)) := by
  obtain ⟨i0, hi0, hz0, hz1, hz2⟩ := info_parts info97
  have h1' : w.drew.heap[b]? = some (.cells (pre ++ (csA ++ csv ++ csB) ++ post).toArray 59 fr) := h1
  obtain ⟨Y, hY⟩ : ∃ Y, Y = csv ++ csB := ⟨_, rfl⟩
  have lY : Y.length = 2 + nB * 2 := by rw [hY]; simp [hv2, hB]
  have hrow : pre ++ (csA ++ csv ++ csB) ++ post = (pre ++ csA) ++ Y.take (nB * 2) ++ (Y.drop (nB * 2) ++ post) := by
    simp only [List.append_assoc]
    rw [← List.append_assoc (Y.take (nB * 2)), List.take_append_drop, hY]
    simp
  have hNi : N - i = nB := by omega
  have hrow2 : pre ++ (csA ++ csv ++ csB) ++ post = (pre ++ csA ++ csv) ++ csB ++ post := by simp
  have src : Src (cfg false) w.drew 47 i0.size (.slice (some A) (N - i) (κ - (i + 1))) csB nB := by
    refine ⟨⟨_, und54, .inr ⟨_, rfl⟩⟩, by rw [hNi]; rfl, fun w' hw' => ?_⟩
    rw [hz1]
    by_cases h0 : κ = i + 1
    · have hn0 : nB = 0 := by omega
      subst hn0
      have : csB = [] := List.length_eq_zero_iff.1 (by simpa using hB)
      subst this
      exact run_firstCells_some (P := Try.prog) w' 2 0 A _ _ [] (by simp) (fun j u hj => by simp at hj)
    · rw [if_neg h0] at hAd
      simp only [Option.some.injEq] at hAd
      subst hAd
      refine firstP w' b _ _ _ nB csB hB ?_
      refine cells_at (pre := pre ++ csA ++ csv) (post := post) (t := 59) (fr := fr) ?_ _ (by simp [hp, hA, hv2]; omega)
      rw [hw', ← hrow2]; exact h1'
  have s1 := run_stores (P := Try.prog) (b := b) (t := 59) (fr := fr) csB 0 (β + i * 2) (pre ++ csA) (Y.take (nB * 2)) (Y.drop (nB * 2) ++ post) w.drew (by rw [← hrow]; exact h1') (by simp [hp, hA]) (by simp [hB, lY]) (by rw [← hrow]; exact hfr) onesB
  refine ⟨w.drew.setRow b (pre ++ csA ++ csB ++ (Y.drop (nB * 2) ++ post)).toArray, fun ty => ?_, fun ty => ?_⟩
  · have hap := (run_append (C := cfg false) (ty := ty) (t := 47) (tx := 47) (e := 59) und54 hi0 hz0 src (some ⟨b, β, none⟩) i κ (by omega)).2.1 ⟨b, β, none⟩ _ rfl (by omega) (by rw [addr_add, hz1]; exact s1)
    have e : i + nB = N := by omega
    rw [e] at hap
    exact hap
  · have hh := setRow_heap w.drew b _ (pre ++ csA ++ csB ++ (Y.drop (nB * 2) ++ post)).toArray 59 fr h1'
    have e2 : pre ++ csA ++ csB ++ (Y.drop (nB * 2) ++ post) = (pre ++ csA ++ csB) ++ Y.drop (nB * 2) ++ post := by simp
    rw [e2] at hh
    have s2 := run_stores (P := Try.prog) (b := b) (t := 59) (fr := fr) zz 0 (β + N * 2) (pre ++ csA ++ csB) (Y.drop (nB * 2)) post _ hh (by simp [hp, hA, hB]; omega) (by simp [zz, lY]) (fun k hk => hfr k (by simp [hA, hB, hv2, lY] at hk ⊢; omega)) (by intro u hu; simp [zz] at hu; subst hu; rfl)
    rw [← e2, setRow_setRow] at s2
    have e3 : pre ++ csA ++ csB ++ zz ++ post = pre ++ (csA ++ csB) ++ (zz ++ post) := by simp
    rw [e3] at s2
    have hzv : ∀ w : World, (zeroValue 59).run Try.prog w = .ok (.agg #[.slice none 0 0, .slice none 0 0]) w := fun w => by simp [zeroValue, typeInfo, hi0, hz0]
    simp only [List.append_assoc] at s2
    simp [Builtin.clear_, run_underlying und54, hzv, zcells, s2]
theorem fn113 : ∃ fn c, Try.prog.funcs[37]? = some fn ∧ fn.body = some c ∧ (fn.name == "runtime.NumGoroutine") = false := ⟨Try.f37, _, Try.func37, rfl, by kernel_rfl⟩
theorem fn115 : ∃ fn c, Try.prog.funcs[38]? = some fn ∧ fn.body = some c ∧ (fn.name == "runtime.NumGoroutine") = false := ⟨Try.f38, _, Try.func38, rfl, by kernel_rfl⟩
theorem elem54 (b : Bool) : elemOf (cfg b).P 47 = some 59 := by kernel_rfl
theorem alloc_as {w3 w : World} {o : Obj} (h : w3.heap = w.heap.push o) : w3 = ({ w3 with heap := w.heap }).alloc o := by
  cases w3
  simp only [World.alloc] at h ⊢
  simp [h]
set_option maxHeartbeats 1000000 in
theorem ins_run (b : Bool) {S0 : Nat → Nat → Prop} {g : Gh} {w : World} {H : Heap} {i : Int} {x : Nat} {s : AV} {su xu : Value} {v : CV} {tx : TypeId} (hO : Ok (cfg b) S0 g w H) (hx : H[x]? = some (.row tx 2 [v])) (hsu : RV g w (g.St S0) su s) (hxu : RV g w (g.St S0) xu (.os x))
    {es : List CV} {H' : Heap} (hs : (s = .c .nilsl ∧ es = [] ∧ H' = H) ∨ (∃ id, s = .os id ∧ id ≠ x ∧ H[id]? = some (.row 59 2 es) ∧ H' = H.set id .dead)) (h0 : 0 ≤ i) (h1 : i ≤ (es.length : Int)) (hbig : (es.length + 1) * 48 ≤ 140737488355328) (h63 : es.length + 1 ≤ maxLen) :
    CallsV (cfg b) S0 g w (H' ++ [.row 59 2 (es.take i.toNat ++ v :: es.drop i.toNat)]) (.os H'.length) 37 #[su, .int .i64 i, xu] := by
  obtain ⟨i0, hi0, hz0, hz1, hz2⟩ := info_parts info97
  have hGx : g.G x = some (.row tx 2 [v]) := by rw [hO.heap]; exact hx
  obtain ⟨ax, nx, cx, rfl, hxs, hxval⟩ := RV_os hxu
  have ex := hxval 1 (by rw [hGx]; rfl)
  rcases hO.inv.blk x _ hGx with ⟨_, h, _⟩ | ⟨xv1, prex, csx, postx, frx, x1, x2, x3, x4, x5, x6, x7⟩
  · cases h
  have lx : csx.length = 2 := by have := x5.length; simpa using this
  rw [rowVal_real xv1] at ex
  rw [ex] at hxu ⊢
  by_cases hend : i = (es.length : Int)
  · -- at the end: append
    have hapv : aappend (cfg b) H 47 47 s (.os x) = some (.os H'.length, H' ++ [.row 59 2 (es ++ [v])]) := by
      have hsrc : srcOf (cfg b) H 47 2 (.os x) = some [v] := by
        unfold srcOf
        rw [show (cfg b).P.underlying 47 = some (.slice 59) from und54]
        simp [elemsOf, rowOf, hx]
      unfold aappend
      rw [elem54]
      simp only [show (cfg b).P.info? 59 = some i0 from hi0, hz0, hz1, hz2, hsrc]
      have hzc : (Value.agg #[Value.slice none 0 0, Value.slice none 0 0]).cells.size = 2 := rfl
      rcases hs with ⟨rfl, rfl, rfl⟩ | ⟨id, rfl, hne, hid, rfl⟩
      · simp only [List.length_nil, Nat.zero_add] at hbig h63
        simp [hzc, hbig, h63]
      · simp [hzc, hid, hbig, h63]
    obtain ⟨r, w', g', hrun, k1, k2, k3⟩ := aappend_ok (ty := 47) hO hsu hxu hapv
    have hrun' : ∀ ty, (Builtin.append_ #[47, 47] ty #[su, .slice (some ⟨g.φ x, g.β x, none⟩) 1 (g.κ x)]).run Try.prog w = .ok r w' := fun ty => by
      exact hrun
    have hsl : ∃ A n c, su = .slice A n c ∧ n = es.length := by
      rcases hs with ⟨rfl, rfl, rfl⟩ | ⟨id, rfl, hne, hid, rfl⟩
      · exact ⟨none, 0, 0, RV_nilsl hsu, rfl⟩
      · obtain ⟨a, n, c, e, _, hval⟩ := RV_os hsu
        have hGd : g.G id = some (.row 59 2 es) := by rw [hO.heap]; exact hid
        have e2 := hval es.length (by rw [hGd]; rfl)
        cases hv : g.vt id with
        | true =>
          rcases hO.inv.blk id _ hGd with ⟨_, h, _⟩ | ⟨h, _⟩
          · subst h; exact ⟨_, _, _, e.trans (e2.trans (rowVal_virt hv)), rfl⟩
          · rw [h] at hv; cases hv
        | false => exact ⟨_, _, _, e.trans (e2.trans (rowVal_real hv)), rfl⟩
    obtain ⟨A, n, c, rfl, hn⟩ := hsl
    subst hn
    refine Calls.mono (hend ▸ ins_end A es.length c _ _ _ w w' r rfl hrun') fun e w2 he => ?_
    obtain ⟨rfl, rfl⟩ := he
    refine ⟨r, g', rfl, ?_, k2, k3⟩
    have e1 : es.take i.toNat ++ v :: es.drop i.toNat = es ++ [v] := by rw [hend]; simp
    rw [e1]
    exact k1
  · rcases hs with ⟨rfl, rfl, rfl⟩ | ⟨id, rfl, hne, hid, rfl⟩
    · simp at h1 hend; omega
    have hG : g.G id = some (.row 59 2 es) := by rw [hO.heap]; exact hid
    obtain ⟨a, n, c, e1, hsm, hval⟩ := RV_os hsu
    rw [hval es.length (by rw [hG]; rfl)] at e1
    subst e1
    rcases hO.inv.blk id _ hG with ⟨_, h, _⟩ | ⟨v1, pre, cs, post, fr, r1, r2, r3, r4, r5, r6, r7⟩
    · subst h; simp at h1 hend; omega
    rw [rowVal_real v1]
    have hfr0 := r2.big (by decide)
    have hφ : g.φ x ≠ g.φ id := fun e => hO.inv.inj x _ id _ hGx hG rfl rfl xv1 v1 (Ne.symm hne) e
    obtain ⟨k, hk⟩ : ∃ k : Nat, i = (k : Int) := ⟨i.toNat, by omega⟩
    subst hk
    have hkn : k < es.length := by omega
    have lcs := r5.length
    obtain ⟨csA, hcA⟩ : ∃ csA, csA = cs.take (k * 2) := ⟨_, rfl⟩
    obtain ⟨csB, hcB⟩ : ∃ csB, csB = cs.drop (k * 2) := ⟨_, rfl⟩
    have hcs : cs = csA ++ csB := by rw [hcA, hcB, List.take_append_drop]
    have lA : csA.length = k * 2 := by rw [hcA, List.length_take, lcs]; omega
    have lB : csB.length = (es.length - k) * 2 := by rw [hcB, List.length_drop, lcs]; omega
    have rA := r5.take k
    have rB := r5.drop k
    rw [← hcA] at rA
    rw [← hcB] at rB
    rw [hcs] at r1 r2 r4
    have toN : ((k : Int)).toNat = k := by simp
    rw [toN]
    by_cases hroom : es.length + 1 ≤ g.κ id
    · have hpost : 2 ≤ post.length := by
        have h1 : (es.length + 1) * 2 ≤ g.κ id * 2 := Nat.mul_le_mul_right _ hroom
        simp only [List.length_append, lA, lB] at r4
        omega
      obtain ⟨w1, c1, c2⟩ := shift_world hφ r1 x1 r3 x3 r2.out lA lx hpost (es.length - k) es.length lB (by omega) rB.ones x5.ones
      have hov : ∀ lb cb, (callFunc 46 #[.slice (some ⟨g.φ x, g.β x, none⟩) 1 (g.κ x), .slice (some ⟨g.φ id, g.β id + (k + 1) * 2, none⟩) lb cb]).run Try.prog w = .ok (.value (.bool false)) w := fun lb cb => by
        rw [run_callFunc_extern Try.func46 (by kernel_rfl) (by kernel_rfl) (by kernel_rfl) (e := Extern.SlicesOverlaps.overlaps #[47, 47] #[4]) (by kernel_rfl)]
        have hx0 := x2.big (by decide)
        rw [hx0] at x1
        rw [Lib.run_overlaps_apart w 47 4 59 und54 2 (fun w => by simp [Go.sizeOf, typeInfo, hi0, hz1]) ⟨g.φ x, g.β x, none⟩ ⟨g.φ id, g.β id + (k + 1) * 2, none⟩ 1 (g.κ x) lb cb hφ tx 59 (prex ++ csx ++ postx).toArray.size (pre ++ (csA ++ csB) ++ post).toArray.size
          (by simp [World.shape?, x1]) (by simp [World.shape?, r1]) (by simp [lB]; omega) (not_frozen x1) (not_frozen x1)]
        rfl
      have hcall := ins_shift (g.φ id) (g.β id) es.length (g.κ id) k ⟨g.φ x, g.β x, none⟩ (g.κ x) w w1 _ (goInt (es.length - k : Nat)) (goInt 1) hkn hroom (by unfold maxLen at r7; omega) hov c1 (fun ty dc => c2 ty dc _)
      refine Calls.mono hcall fun e w2 he => ?_
      obtain ⟨rfl, rfl⟩ := he
      obtain ⟨g2, k1, k2, p1, p2, p3, p4⟩ := hO.move (b := .row 59 2 es) (b' := .row 59 2 (es.take k ++ v :: es.drop k)) hid v1 rfl (g.β id) (g.κ id) (w' := w.drew.setRow (g.φ id) (pre ++ (csA ++ csx ++ csB) ++ post.drop 2).toArray)
        ⟨by simp, rfl, rfl, rfl, fun j hj => by rw [setRow_other _ _ _ _ hj]; rfl⟩ (fun g' hk q1 q2 q3 q4 => .inr ⟨q4, pre, csA ++ csx ++ csB, post.drop 2, fr, by
            rw [q1]
            exact setRow_heap w.drew (g.φ id) _ _ 59 fr r1, ⟨r2.le, r2.big, fun o ho => r2.out o (by
            simp only [List.length_append, List.length_drop, lx] at ho ⊢
            omega)⟩, by rw [q2]; exact r3, by
            rw [q3]
            simp only [List.length_append, List.length_drop, lx] at r4 ⊢
            omega, by
            have := ((rA.append x5).append rB).stays (hk.stays S0)
            simpa using this, by rw [q3]; simp; omega, by rw [q3]; exact r7⟩)
      refine ⟨_, g2, rfl, by simpa using k1, k2, .one _ _ (.os _ _ _ _ (by rw [k1.heap]; simp [get]) fun mm hm => ?_) rfl⟩
      have hG2 : g2.G (H.set id Blk.dead).length = some (.row 59 2 (es.take k ++ v :: es.drop k)) := by rw [k1.heap]; simp [get]
      rw [hG2] at hm
      simp only [Option.bind_some, Blk.len?, Option.some.injEq] at hm
      subst hm
      have hl : (H.set id Blk.dead).length = H.length := by simp
      rw [hl, rowVal_real p4, p1, p2, p3]
      congr 1
      simp
      omega
    · obtain ⟨G, w1, w2, w3, Z, hGn, hGm, c0, c1, c2, hh3, hG2l, ho3, ht3, hu3⟩ := grow_world r1 x1 r3 x3 lA lx (es.length - k) lB (n := es.length) (by omega) hkn (by omega) r6 hbig h63 rB.ones x5.ones
      have hcall := ins_grow (g.φ id) (g.β id) es.length (g.κ id) k ⟨g.φ x, g.β x, none⟩ (g.κ x) w.heap.size G w w1 w2 w3 (goInt 1) (goInt (es.length - k : Nat)) hkn (by omega) r6 (by unfold maxLen at r7; omega) hGn (by unfold maxLen at hGm; omega) (by unfold maxLen at h63; omega) c0 (fun ty dc => c1 ty dc _) c2
      refine Calls.mono hcall fun e w' he => ?_
      obtain ⟨rfl, rfl⟩ := he
      obtain ⟨d1, d2⟩ := hO.set (b := .row 59 2 es) (b' := .dead) (w' := w) hid (.inr rfl) rfl (fun n hn => by simp [Blk.len?] at hn) (fun n hn => by simp [Blk.sz?] at hn) (fun h => by simp [Blk.ok] at h) (.inl (Like.refl w)) (fun _ => trivial)
      have hw3 := alloc_as hh3
      have hlike : Like w ({ w' with heap := w.heap } : World) := ⟨rfl, ho3, ht3, hu3⟩
      obtain ⟨g2, k1, k2, p1, p2, p3, p4⟩ := d1.alloc hlike (.cells ([] ++ (csA ++ csx ++ csB) ++ Z).toArray 59 (0, 0)) (.row 59 2 (es.take k ++ v :: es.drop k)) G (by
        intro g' hk2 hk hnew q1 q2 q3 q4
        refine .inr ⟨q4, [], csA ++ csx ++ csB, Z, (0, 0), by rw [q1, hnew], ⟨by simp, fun _ => rfl, by simp⟩, by rw [q2]; rfl, by rw [q3]; exact hG2l, ?_, by rw [q3]; simp; omega, by rw [q3]; exact hGm⟩
        have := ((rA.append x5).append rB).stays ((d2.trans hk).stays S0)
        simpa using this)
      rw [← hw3] at k1 k2
      refine ⟨_, g2, rfl, k1, d2.trans k2, .one _ _ (.os _ _ _ _ (by rw [k1.heap]; simp [get]) fun mm hm => ?_) rfl⟩
      have hG2 : g2.G (H.set id Blk.dead).length = some (.row 59 2 (es.take k ++ v :: es.drop k)) := by rw [k1.heap]; simp [get]
      rw [hG2] at hm
      simp only [Option.bind_some, Blk.len?, Option.some.injEq] at hm
      subst hm
      rw [rowVal_real p4, p1, p2, p3]
      congr 1
      simp
      omega
end Go.Fm
/-
  All operations of the interpreter's own are right.
-/
set_option maxRecDepth 100000
set_option linter.unusedVariables false
set_option linter.unusedSimpArgs false
namespace Go.Fm
open Go Go.Proofs Go.RowKit Go.Lib
theorem insP_parts {args : List AV} {H H' : Heap} {v : AV} (h : insP args H = some (v, H')) : ∃ s i x c tx es H1, args = [s, .c (.int .i64 i), .os x] ∧ H[x]? = some (.row tx 2 [c]) ∧
    ((s = .c .nilsl ∧ es = [] ∧ H1 = H) ∨ (∃ id, s = .os id ∧ id ≠ x ∧ H[id]? = some (.row 59 2 es) ∧ H1 = H.set id .dead)) ∧ 0 ≤ i ∧ i ≤ (es.length : Int) ∧ (es.length + 1) * 48 ≤ 140737488355328 ∧ es.length + 1 ≤ maxLen ∧
    v = .os H1.length ∧ H' = H1 ++ [.row 59 2 (es.take i.toNat ++ c :: es.drop i.toNat)] := by
  unfold insP at h
  split at h
  · rename_i s i x
    split at h
    · rename_i tx sz' c hx
      split at h
      · rename_i hsz
        subst hsz
        split at h
        · split at h
          · rename_i hi
            subst hi
            simp only [Option.some.injEq, Prod.mk.injEq] at h
            obtain ⟨rfl, rfl⟩ := h
            exact ⟨_, _, _, _, _, [], H, rfl, hx, .inl ⟨rfl, rfl, rfl⟩, by decide, by decide, by decide, by unfold maxLen; decide, rfl, rfl⟩
          · cases h
        · rename_i id
          split at h
          · rename_i t sz es hid
            split at h
            · rename_i hc
              obtain ⟨⟨rfl, rfl⟩, hne, ⟨h0, h1⟩, h2, h3⟩ := hc
              simp only [Option.some.injEq, Prod.mk.injEq] at h
              obtain ⟨rfl, rfl⟩ := h
              exact ⟨_, _, _, _, _, es, _, rfl, hx, .inr ⟨id, rfl, hne, hid, rfl⟩, h0, h1, h2, h3, by simp, rfl⟩
            · cases h
          · cases h
        · cases h
      · cases h
    · cases h
  · cases h
theorem RVs3 {g : Gh} {w : World} {S : Nat → Nat → Prop} {us : List Value} {a b c : AV} (h : RVs g w S us [a, b, c]) : ∃ x y z, us = [x, y, z] ∧ RV g w S x a ∧ RV g w S y b ∧ RV g w S z c := by
  cases h with
  | cons x _ _ _ h1 hs => cases hs with
    | cons y _ _ _ h2 hs => cases hs with
      | cons z _ _ _ h3 hs => cases hs; exact ⟨x, y, z, rfl, h1, h2, h3⟩
theorem prim113 (b : Bool) : PrimOk (cfg b) 37 insP where
  keeps := fun args H v H' h => by
    obtain ⟨s, i, x, c, tx, es, H1, rfl, hx, hs, _, _, _, _, rfl, rfl⟩ := insP_parts h
    rcases hs with ⟨_, _, rfl⟩ | ⟨id, _, _, hid, rfl⟩
    · exact Keeps.append _ _
    · exact Keeps.move _ hid rfl
  fn := fn113
  run := fun args H v H' h S0 g w us hO hu => by
    obtain ⟨s, i, x, c, tx, es, H1, rfl, hx, hs, h0, h1, h2, h3, rfl, rfl⟩ := insP_parts h
    obtain ⟨su, iu, xu, rfl, r1, r2, r3⟩ := RVs3 hu
    rw [RV_int r2]
    exact ins_run b hO hx r1 r3 hs h0 h1 h2 h3
theorem delP_parts {args : List AV} {H H' : Heap} {v : AV} (h : delP args H = some (v, H')) : ∃ id i es, args = [.os id, .c (.int .i64 i), .c (.int .i64 (i + 1))] ∧ H[id]? = some (.row 59 2 es) ∧ 0 ≤ i ∧ i < (es.length : Int) ∧
    v = .os H.length ∧ H' = H.set id .dead ++ [.row 59 2 (es.take i.toNat ++ es.drop (i.toNat + 1))] := by
  unfold delP at h
  split at h
  · rename_i id i j
    split at h
    · rename_i t sz es hid
      split at h
      · rename_i hc
        obtain ⟨⟨rfl, rfl⟩, ⟨h0, h1⟩, rfl⟩ := hc
        simp only [Option.some.injEq, Prod.mk.injEq] at h
        exact ⟨_, _, es, rfl, hid, h0, h1, h.1.symm, h.2.symm⟩
      · cases h
    · cases h
  · cases h
theorem prim115 (b : Bool) : PrimOk (cfg b) 38 delP where
  keeps := fun args H v H' h => by
    obtain ⟨id, i, es, rfl, hid, _, _, rfl, rfl⟩ := delP_parts h
    exact Keeps.move _ hid rfl
  fn := fn115
  run := fun args H v H' h S0 g w us hO hu => by
    obtain ⟨id, i, es, rfl, hid, h0, h1, rfl, rfl⟩ := delP_parts h
    obtain ⟨su, iu, ju, rfl, q1, q2, q3⟩ := RVs3 hu
    rw [RV_int q2, RV_int q3]
    have hG : g.G id = some (.row 59 2 es) := by rw [hO.heap]; exact hid
    obtain ⟨a, n, c, e1, hsm, hval⟩ := RV_os q1
    rw [hval es.length (by rw [hG]; rfl)] at e1
    subst e1
    rcases hO.inv.blk id _ hG with ⟨_, h, _⟩ | ⟨v1, pre, cs, post, fr, r1, r2, r3, r4, r5, r6, r7⟩
    · subst h; simp at h1; omega
    rw [rowVal_real v1]
    obtain ⟨k, hk⟩ : ∃ k : Nat, i = (k : Int) := ⟨i.toNat, by omega⟩
    subst hk
    have hkn : k < es.length := by omega
    have lcs := r5.length
    obtain ⟨N, hN⟩ : ∃ N, es.length = N + 1 := ⟨es.length - 1, by omega⟩
    obtain ⟨csA, hcA⟩ : ∃ csA, csA = cs.take (k * 2) := ⟨_, rfl⟩
    obtain ⟨csB, hcB⟩ : ∃ csB, csB = cs.drop ((k + 1) * 2) := ⟨_, rfl⟩
    obtain ⟨csv, hcv⟩ : ∃ csv, csv = (cs.drop (k * 2)).take 2 := ⟨_, rfl⟩
    have hcs : cs = csA ++ csv ++ csB := by
      rw [hcA, hcB, hcv, show (k + 1) * 2 = k * 2 + 2 by omega, ← List.drop_drop, List.append_assoc, List.take_append_drop, List.take_append_drop]
    have lA : csA.length = k * 2 := by rw [hcA, List.length_take, lcs]; omega
    have lB : csB.length = (N - k) * 2 := by rw [hcB, List.length_drop, lcs]; omega
    have lv : csv.length = 2 := by rw [hcv, List.length_take, List.length_drop, lcs]; omega
    have rA := r5.take k
    have rB := r5.drop (k + 1)
    rw [← hcA] at rA
    rw [← hcB] at rB
    rw [hcs] at r1 r2 r4
    have toN : ((k : Int)).toNat = k := by simp
    rw [toN]
    obtain ⟨A, hA⟩ : ∃ A : Addr, (if g.κ id = k + 1 then (some ⟨g.φ id, g.β id, none⟩ : Option Addr) else some ⟨g.φ id, g.β id + (k + 1) * 2, none⟩) = some A := by
      split
      · exact ⟨_, rfl⟩
      · exact ⟨_, rfl⟩
    obtain ⟨w1, c1, c2⟩ := del_world r1 r3 r2.out lA lv (N - k) lB (N := N) (κ := g.κ id) (by omega) (by omega) r7 rB.ones A hA
    have hcall := del_one (g.φ id) (g.β id) N (g.κ id) k A w w1 _ (by omega) (by omega) (by unfold maxLen at r7; omega) hA c1 c2
    rw [← hN] at hcall
    refine Calls.mono hcall fun e w2 he => ?_
    obtain ⟨rfl, rfl⟩ := he
    obtain ⟨g2, k1, k2, p1, p2, p3, p4⟩ := hO.move (b := .row 59 2 es) (b' := .row 59 2 (es.take k ++ es.drop (k + 1))) hid v1 rfl (g.β id) (g.κ id) (w' := w.drew.setRow (g.φ id) (pre ++ (csA ++ csB) ++ (zz ++ post)).toArray)
      ⟨by simp, rfl, rfl, rfl, fun j hj => by rw [setRow_other _ _ _ _ hj]; rfl⟩ (fun g' hk q1 q2 q3 q4 => .inr ⟨q4, pre, csA ++ csB, zz ++ post, fr, by
          rw [q1]
          exact setRow_heap w.drew (g.φ id) _ _ 59 fr r1, ⟨r2.le, r2.big, fun o ho => r2.out o (by
          simp only [List.length_append, zz, lv, List.length_cons, List.length_nil] at ho ⊢
          omega)⟩, by rw [q2]; exact r3, by
          rw [q3]
          simp only [List.length_append, zz, lv, List.length_cons, List.length_nil] at r4 ⊢
          omega, (rA.append rB).stays (hk.stays S0), by rw [q3]; simp; omega, by rw [q3]; exact r7⟩)
    refine ⟨_, g2, rfl, k1, k2, .one _ _ (.os _ _ _ _ (by rw [k1.heap]; simp [get]) fun mm hm => ?_) rfl⟩
    have hG2 : g2.G H.length = some (.row 59 2 (es.take k ++ es.drop (k + 1))) := by rw [k1.heap]; simp [get]
    rw [hG2] at hm
    simp only [Option.bind_some, Blk.len?, Option.some.injEq] at hm
    subst hm
    rw [rowVal_real p4, p1, p2, p3]
    congr 1
    simp
    omega
theorem prims_ok (b : Bool) : ∀ f p, (cfg b).prim f = some p → PrimOk (cfg b) f p := fun f p h => by
  simp only [cfg] at h
  by_cases h1 : f = 45
  · subst h1; simp at h; subst h; exact prim101 b
  · by_cases h2 : f = 35
    · subst h2; simp at h; subst h; exact prim103 b
    · by_cases h3 : f = 37
      · subst h3; simp at h; subst h; exact prim113 b
      · by_cases h4 : f = 38
        · subst h4; simp at h; subst h; exact prim115 b
        · simp [h1, h2, h3, h4] at h
end Go.Fm

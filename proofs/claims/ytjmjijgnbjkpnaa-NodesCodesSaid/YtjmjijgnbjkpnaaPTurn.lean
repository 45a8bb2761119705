/-
  A part of the proof: PTurn.
-/
import Derived.Laws.AppendOwn
import Derived.Test.YtjmjijgnbjkpnaaPLaw4c
import Derived.WalkKit
import Derived.ProofKit
import Derived.RowKit
import Derived.Deep.LoopGhost
import Derived.StillTailTactics
import Derived.BigRegion
import Derived.Deep.RegionWith
import Derived.Shelf.RegionOpenPlain
import Derived.Lib.Walk
import Derived.Lib.SliceRun
import Derived.Lib.JoinLaws
import Derived.Lib.AppendZeros
set_option linter.all false
set_option autoImplicit true
/-
  An own row, and the append onto a capped front of it, at the model.
-/
set_option autoImplicit false
set_option maxRecDepth 100000
set_option linter.unusedVariables false
namespace Go.Fm
open Go
/-- An own row of bytes: its block may be longer than its capacity. -/
def OwnT (w : World) (base : Nat) (e : TypeId) (v : Value) (n : Nat) (xs : List Value) : Prop :=
  xs.length = n ∧ ∃ g cap cur, v = .slice (some ⟨g, 0, none⟩) n cap ∧ base ≤ g ∧ w.heap[g]? = some (.cells cur e (0, 0)) ∧ n ≤ cap ∧ cap ≤ maxLen ∧ cap ≤ cur.size ∧ cur.toList.take n = xs
theorem OwnT.of {w : World} {base : Nat} {e : TypeId} {v : Value} {n : Nat} {xs : List Value} (h : w.ownsRow base e 1 v n xs) (hv : v ≠ .slice none 0 0) : OwnT w base e v n xs := by
  obtain ⟨h1, h2⟩ := h
  rcases h2 with ⟨h2, _⟩ | ⟨g, cap, cur, h3, h4, h5, h6, h7, h8, h9⟩
  · exact absurd h2 hv
  · exact ⟨by simpa using h1, g, cap, cur, h3, h4, h5, h6, h7, by simp at h8; omega, by simpa using h9⟩
theorem alloc_old0 (w : World) (o : Obj) (q : Nat) (hq : q < w.heap.size) : (w.alloc o).heap[q]? = w.heap[q]? := by
  show (w.heap.push o)[q]? = _
  rw [Array.getElem?_push, if_neg (by omega)]
theorem alloc_new0 (w : World) (o : Obj) : (w.alloc o).heap[w.heap.size]? = some o := by
  show (w.heap.push o)[w.heap.size]? = _
  simp
section
variable {P : Program}
/-- append(x[:k:k], x[k+1:]...) -/
theorem run_append_cut (w : World) (base : Nat) (t ty e : TypeId) (i : TypeInfo) (z : Value) (ht : P.underlying t = some (.slice e)) (hi : P.info? e = some i) (hz : i.zero = some z)
    (hsize : i.size = 1) (hby : i.bytes = 1) (hzs : z.cells.size = 1)
    (g : Nat) (cur : Array Value) (hg : w.heap[g]? = some (.cells cur e (0, 0))) (hbg : base ≤ g) (hbase : base ≤ w.heap.size) (n k : Nat) (hk : k < n) (hn : n ≤ cur.size) (hm : n ≤ 1000000) (c : Nat) (A : Addr) (hA : n ≠ k + 1 → A = ⟨g, k + 1, none⟩) :
    ∃ v' w', (Builtin.append_ #[t, t] ty #[.slice (some ⟨g, 0, none⟩) k k, .slice (some A) (n - (k + 1)) c]).run P w = .ok v' w' ∧
      OwnT w' base e v' (n - 1) (cur.toList.take k ++ (cur.toList.drop (k + 1)).take (n - (k + 1))) ∧ w.grownBy w' (some g) := by
  have hmx : (1000000 : Nat) ≤ maxLen := by unfold maxLen; decide
  have hadd (a j : Nat) : (⟨g, a, none⟩ : Addr).add j = ⟨g, a + j, none⟩ := by unfold Addr.add; split <;> simp_all
  have hcell : ∀ j u, cur.toList[j]? = some u → w.cell? ⟨g, j, none⟩ = some u := by
    intro j u hj
    rw [cell_of_row w g j cur e (0, 0) hg]
    simpa using hj
  have hN : ((cur.toList.drop (k + 1)).take (n - (k + 1))).length = n - (k + 1) := by
    simp only [List.length_take, List.length_drop, Array.length_toList]; omega
  have hO : (cur.toList.take k).length = k := by simp only [List.length_take, Array.length_toList]; omega
  have hnews : ∀ j u, ((cur.toList.drop (k + 1)).take (n - (k + 1)))[j]? = some u → w.cell? ((⟨g, k + 1, none⟩ : Addr).add j) = some u := by
    intro j u hj
    rw [hadd]
    refine hcell _ _ ?_
    rw [List.getElem?_take] at hj
    split at hj
    · rwa [List.getElem?_drop] at hj
    · cases hj
  by_cases hz0 : n - (k + 1) = 0
  · rw [hz0] at hN hnews ⊢
    have hnil : (cur.toList.drop (k + 1)).take 0 = [] := List.take_zero
    rw [hnil] at hN hnews ⊢
    have hk1 : n - 1 = k := by omega
    rw [hk1]
    have hr := run_append_room (P := P) w t ty e i ht hi g k k cur hg A 0 c [] (by simp) (by simp) (by simp) (by omega) (by simp [hsize]; omega)
    refine ⟨_, _, hr, ⟨?_, g, k, _, rfl, hbg, setRow_heap w g cur _ e _ hg, by omega, by omega, ?_, ?_⟩, ⟨rfl, rfl, rfl, by simp, fun q _ hq => setRow_other w g q _ (fun e => hq (by simp [e]))⟩⟩
    · rw [List.append_nil]; exact hO
    · simp [hsize]; omega
    · simp only [hsize, Nat.mul_one, List.append_nil, Nat.add_zero, List.length_nil]
      rw [List.take_left' hO]
  · have hm0 : 0 < n - (k + 1) := by omega
    obtain rfl := hA (by omega)
    have holds : ∀ j u, (cur.toList.take k)[j]? = some u → w.cell? ((⟨g, 0, none⟩ : Addr).add j) = some u := by
      intro j u hj
      rw [hadd, Nat.zero_add]
      refine hcell _ _ ?_
      rw [List.getElem?_take] at hj
      split at hj
      · exact hj
      · cases hj
    have hr := run_append_grow (P := P) w t ty e i z ht hi hz ⟨g, 0, none⟩ k k (cur.toList.take k) (by rw [hO, hsize, Nat.mul_one]) holds ⟨g, k + 1, none⟩ (n - (k + 1)) c ((cur.toList.drop (k + 1)).take (n - (k + 1))) (by rw [hN, hsize, Nat.mul_one]) hnews (by omega) (by omega) (growslice_fits (by omega) (by rw [hby]; omega))
    have hge := grownCap_ge w (k + (n - (k + 1))) k e
    have hcm : grownCap w (k + (n - (k + 1))) k e ≤ maxLen := grownCap_le_maxLen w _ k e (by omega)
    have hk1 : k + (n - (k + 1)) = n - 1 := by omega
    rw [hk1] at hr hge hcm
    refine ⟨_, _, hr, ⟨?_, w.heap.size, _, _, rfl, hbase, alloc_new0 w.drew _, hge, hcm, ?_, ?_⟩, ⟨rfl, rfl, rfl, by simp, fun q hq _ => alloc_old0 w.drew _ q hq⟩⟩
    · rw [List.length_append, hO, hN]; exact hk1
    · simp only [Array.size_append, List.size_toArray, size_zeroCells, hzs, hO, hN, Nat.mul_one]
      omega
    · simp only [Array.toList_append, List.append_assoc]
      rw [← List.append_assoc]
      exact List.take_left' (by rw [List.length_append, hO, hN]; exact hk1)
end
end Go.Fm
/-
  ferrymanlaw04.Turned, walked.
-/
set_option maxRecDepth 100000
set_option linter.unusedVariables false
set_option linter.unusedSimpArgs false
namespace Go.Fm
open Go Go.Proofs Go.RowKit
theorem info5 : (Try.prog.info? 5).map (fun i => (i.zero, i.size, i.bytes)) = some (some (.int .u8 0), 1, 1) := by kernel_rfl
theorem und22 : Try.prog.underlying 22 = some (.slice 5) := by kernel_rfl
theorem mixed : Try.prog.follows .mixedOrders = true := by kernel_rfl
def bV (l : List UInt8) : List Value := l.map fun c => .int .u8 (c.toNat : Int)
theorem step_append_runP {P : Program} {ops : Array Oper} {o : Oper} {a : Act} {w : World} {K : Act → World → Prop} {Q : Exit → Act → World → Prop} {E : Prop}
    (hg : o.guard = none) (d x : Operand) (dT sT : TypeId) (hop : o.op = Op.call { callee := Callee.builtin Builtin.append, args := #[d, x], argTypes := #[dT, sT] })
    (v u : Value) (hd : a.eval d = v) (hx : a.eval x = u) {v' : Value} {w' : World} (hr : (Builtin.append_ #[dT, sT] o.type #[v, u]).run P w = .ok v' w') (hK : K (a.put o.dst v') w') :
    if Region.wanted o (yielded ops a.tmps) = true then Oper.wp P o a w K Q else E := by
  have hw : Region.wanted o (yielded ops a.tmps) = true := by simp [Region.wanted, hg]
  rw [if_pos hw]
  unfold Oper.wp
  simp only [execOp, hop, resolve, invoke, builtin, Sem.run_bind, Sem.run_pure, Result.andThen_ok, List.map_toArray, List.map_cons, List.map_nil, hd, hx, hr]
  exact hK
/-- Numbers that lie to be read. -/
def Rd (w : World) (k : IntKind) (u : Value) (n : Nat) (xs : List Int) : Prop :=
  n = xs.length ∧ ∃ a c, u = .slice a n c ∧ c ≤ maxLen ∧ xs.length ≤ c ∧ ∀ j x, xs[j]? = some x → ∃ b o, a = some ⟨b, o, none⟩ ∧ w.cell? ⟨b, o + j, none⟩ = some (.int k x)
theorem tf_stop (i : Nat) (out : List UInt8) (a : List Int) (t : List UInt8) (h : ¬ (i < 4 ∧ i < a.length ∧ i < t.length ∧ out ≠ [])) : turnF (4 - i) out (a.drop i) (t.drop i) = out := by
  by_cases h4 : i < 4
  · obtain ⟨m, hm⟩ : ∃ m, 4 - i = m + 1 := ⟨3 - i, by omega⟩
    rw [hm]
    by_cases ha : i < a.length
    · by_cases ht : i < t.length
      · have ho : out = [] := by
          apply Decidable.byContradiction
          intro ho
          exact h ⟨h4, ha, ht, ho⟩
        rw [List.drop_eq_getElem_cons ha, List.drop_eq_getElem_cons ht]
        simp [turnF, ho]
      · rw [List.drop_eq_nil_of_le (by omega : t.length ≤ i)]
        cases a.drop i <;> simp [turnF]
    · rw [List.drop_eq_nil_of_le (by omega : a.length ≤ i)]
      simp [turnF]
  · have : 4 - i = 0 := by omega
    rw [this]; rfl
theorem tf_step (i : Nat) (out : List UInt8) (a : List Int) (t : List UInt8) (h4 : i < 4) (ha : i < a.length) (ht : i < t.length) (ho : out ≠ []) :
    turnF (4 - i) out (a.drop i) (t.drop i) = turnF (4 - (i + 1)) (turnStep out a[i] t[i]) (a.drop (i + 1)) (t.drop (i + 1)) := by
  obtain ⟨m, hm⟩ : ∃ m, 4 - i = m + 1 := ⟨3 - i, by omega⟩
  have hm2 : 4 - (i + 1) = m := by omega
  rw [hm, hm2, List.drop_eq_getElem_cons ha, List.drop_eq_getElem_cons ht]
  simp [turnF, ho]
theorem not_frozen1 {w : World} {b o : Nat} {cs : Array Value} {t : TypeId} (h : w.heap[b]? = some (.cells cs t (0, 0))) : w.frozen? ⟨b, o, none⟩ = false := by
  unfold World.frozen?
  rw [h]
  simp
theorem hadd0 (b o j : Nat) : (⟨b, o, none⟩ : Addr).add j = ⟨b, o + j, none⟩ := by unfold Addr.add; split <;> simp_all
theorem setCell_own {w : World} {b : Nat} {cur : Array Value} {t : TypeId} (h : w.heap[b]? = some (.cells cur t (0, 0))) {k : Nat} {u : Value} (hk : k < cur.size) :
    (w.setCell ⟨b, k, none⟩ u).drew.heap[b]? = some (.cells (cur.setIfInBounds k u) t (0, 0)) := by
  show (w.heap.modify b _)[b]? = _
  rw [Array.getElem?_modify]
  simp [h]
theorem run_shl (z : Int) (h : ¬ z < 0) (w : World) : (Op.shift BinOp.shl IntKind.u8 1 IntKind.u8 z).run Try.prog w = .ok (.int .u8 (IntKind.u8.wrap (1 * 2 ^ (min z.toNat 8)))) w := by
  simp only [Op.shift, h, if_false]
  rfl
theorem tmod_nat (n k : Nat) : ((n : Int)).tmod (k : Int) = ((n % k : Nat) : Int) := by
  rw [Int.tmod_eq_emod_of_nonneg (by omega)]; omega
theorem xor_all : ∀ o : Fin 256, ∀ s : Fin 9, Go.bits BinOp.xor IntKind.u8 ((UInt8.ofNat o.val).toNat : Int) (IntKind.u8.wrap (1 * 2 ^ (min s.val 8))) = ((UInt8.ofNat o.val ^^^ UInt8.ofNat (2 ^ s.val)).toNat : Int) := by decide +kernel
theorem xor_byte (o : UInt8) (s : Nat) (hs : s < 9) : Go.bits BinOp.xor IntKind.u8 (o.toNat : Int) (IntKind.u8.wrap (1 * 2 ^ (min s 8))) = ((o ^^^ UInt8.ofNat (2 ^ s)).toNat : Int) := by
  have h := xor_all ⟨o.toNat, o.toNat_lt⟩ ⟨s, hs⟩
  simpa using h
set_option maxHeartbeats 4000000 in
theorem turned_run (w w1 : World) (ab : Option Addr) (nb cb : Nat) (v1 ua ut : Value) (na nt : Nat) (x : List UInt8) (a : List Int) (t : List UInt8) (ha : Rd w .i64 ua na a) (ht : Rd w .u8 ut nt (t.map fun c => (c.toNat : Int))) (hm : x.length ≤ 1000000)
    (hap : ∀ ty, (Builtin.append_ #[22, 22] ty #[.slice (some ⟨w.heap.size, 0, none⟩) 0 0, .slice ab nb cb]).run Try.prog (w.alloc (.cells #[] 5)) = .ok v1 w1) (hown : OwnT w1 w.heap.size 5 v1 x.length (bV x)) (hbel : Below w.heap.size w w1) :
    Calls Try.prog 9 #[.slice ab nb cb, ua, ut] w fun e w' => ∃ v, e = .returned v ∧ OwnT w' w.heap.size 5 v (turnF 4 x a t).length (bV (turnF 4 x a t)) ∧ Below w.heap.size w w' := by
  obtain ⟨i0, hi, hz0, hz1, hz2⟩ : ∃ i, Try.prog.info? 5 = some i ∧ i.zero = some (.int .u8 0) ∧ i.size = 1 ∧ i.bytes = 1 := by
    have := info5
    cases h : Try.prog.info? 5 with
    | none => rw [h] at this; cases this
    | some i => rw [h] at this; simp at this; exact ⟨i, rfl, this.1, this.2.1, this.2.2⟩
  have HI : Aside (Try.prog.info? 5 = some i0 ∧ i0.zero = some (.int .u8 0) ∧ i0.size = 1 ∧ i0.bytes = 1) := ⟨hi, hz0, hz1, hz2⟩
  clear hi hz0 hz1 hz2
  have HA : Aside (Rd w .i64 ua na a ∧ Rd w .u8 ut nt (t.map fun c => (c.toNat : Int)) ∧ OwnT w1 w.heap.size 5 v1 x.length (bV x) ∧ Below w.heap.size w w1 ∧ x.length ≤ 1000000) := ⟨ha, ht, hown, hbel, hm⟩
  obtain ⟨hna, aA, cA, rfl, hcA1, hcA2, hcA⟩ := ha
  obtain ⟨hnt, aT, cT, rfl, hcT1, hcT2, hcT⟩ := ht
  clear hm hown hbel hcA hcT hcA1 hcA2 hcT1 hcT2 hna hnt
  have mixed := mixed
  go_enter Try.func9, Try.ntmps9
  go_wp2_with (at_builtin; go_loud (refine Lib.wpList_append_run _ rfl _ _ _ _ rfl _ _ rfl rfl _ _ (hap _) ?_))
  go_loopg [7, 8] 5 (fun g s7 s8 wx => ∃ (i : Nat) (out : List UInt8), i + g = 5 ∧ s8 = .int .i64 i ∧ OwnT wx w.heap.size 5 s7 out.length (bV out) ∧ out.length ≤ 1000000 ∧ turnF (4 - i) out (a.drop i) (t.drop i) = turnF 4 x a t ∧ Below w.heap.size w wx)
  case atStart =>
    obtain ⟨_, _, h1, h2, h3⟩ := HA.out
    exact ⟨0, x, rfl, rfl, h1, h3, rfl, h2⟩
  case round =>
    obtain ⟨i, out, hig, rfl, hown, hlen, hinv, hbel⟩ := hrel
    obtain ⟨hl, gb, cap, cur, rfl, hbg, hheap, hn1, hn2, hn3, htake⟩ := hown
    obtain ⟨N, hN⟩ : ∃ N, N = out.length := ⟨_, rfl⟩
    rw [← hN]
    have HR : Aside (i + gk = 5 ∧ out.length ≤ 1000000 ∧ turnF (4 - i) out (a.drop i) (t.drop i) = turnF 4 x a t ∧ Below w.heap.size w wr ∧ w.heap.size ≤ gb ∧ wr.heap[gb]? = some (.cells cur 5 (0, 0)) ∧ out.length ≤ cap ∧ cap ≤ maxLen ∧ cap ≤ cur.size ∧ cur.toList.take out.length = bV out ∧ N = out.length) := ⟨hig, hlen, hinv, hbel, hbg, hheap, hn1, hn2, hn3, htake, hN⟩
    have fin : ¬ (i < 4 ∧ i < a.length ∧ i < t.length ∧ out ≠ []) → OwnT wr w.heap.size 5 (.slice (some ⟨gb, 0, none⟩) N cap) (turnF 4 x a t).length (bV (turnF 4 x a t)) ∧ Below w.heap.size w wr := fun hs => by
      rw [tf_stop i out a t hs] at hinv
      rw [← hinv, hN]
      exact ⟨⟨hl, gb, cap, cur, rfl, hbg, hheap, hn1, hn2, hn3, htake⟩, hbel⟩
    have FIN : Aside (¬ (i < 4 ∧ i < a.length ∧ i < t.length ∧ out ≠ []) → OwnT wr w.heap.size 5 (.slice (some ⟨gb, 0, none⟩) N cap) (turnF 4 x a t).length (bV (turnF 4 x a t)) ∧ Below w.heap.size w wr) := fin
    have LA : Aside (na = a.length ∧ nt = t.length) := by
      obtain ⟨q1, q2, _⟩ := HA.out
      exact ⟨q1.1, by rw [q2.1]; simp⟩
    clear hig hlen hinv hbel hl hbg hheap hn1 hn2 hn3 htake hN fin
    by_cases C1 : (i : Int) < (na : Int)
    · by_cases C2 : (i : Int) < (nt : Int)
      · by_cases C3 : (i : Int) < 4
        · by_cases C4 : (N : Int) > 0
          · obtain ⟨e1, e2⟩ := LA.out
            have hia : i < a.length := by omega
            have hit : i < t.length := by omega
            obtain ⟨⟨hq1, aA', cA', eA, hq3, hq4, hcA⟩, ⟨hq2, aT', cT', eT, hq5, hq6, hcT⟩, hq7⟩ := HA.out
            cases eA
            cases eT
            obtain ⟨ba, oa, rfl, hca⟩ := hcA i a[i] (List.getElem?_eq_getElem hia)
            obtain ⟨bt, ot, rfl, hct⟩ := hcT i (t[i].toNat : Int) (by rw [List.getElem?_map, List.getElem?_eq_getElem hit]; rfl)
            obtain ⟨r1, r2, r3, r4, r5, r6, r7, r8, r9, r10, r11⟩ := HR.out
            have hla : ba < w.heap.size := lt_of_cell hca
            have hlt : bt < w.heap.size := lt_of_cell hct
            have ca : wr.cell? ⟨ba, oa + i, none⟩ = some (.int .i64 a[i]) := by rw [← hca]; exact r4.cell hla
            have ct : wr.cell? ⟨bt, ot + i, none⟩ = some (.int .u8 (t[i].toNat : Int)) := by rw [← hct]; exact r4.cell hlt
            obtain ⟨k, hk⟩ : ∃ k, k = (IntKind.u64.wrap a[i]).toNat % out.length := ⟨_, rfl⟩
            have hkl : k < out.length := by rw [hk]; exact Nat.mod_lt _ (by omega)
            have ne : out ≠ [] := fun h => by rw [h] at hkl; simp at hkl
            have st := tf_step i out a t (by omega) hia hit ne
            obtain ⟨A, hA⟩ : ∃ A, A = a[i] := ⟨_, rfl⟩
            obtain ⟨T, hT⟩ : ∃ T, T = t[i] := ⟨_, rfl⟩
            rw [← hA] at ca st hk
            rw [← hT] at ct st
            have ST : Aside (turnF (4 - i) out (a.drop i) (t.drop i) = turnF (4 - (i + 1)) (turnStep out A T) (a.drop (i + 1)) (t.drop (i + 1)) ∧ k < out.length ∧ i < 4 ∧ k = (IntKind.u64.wrap A).toNat % out.length) := ⟨st, hkl, by omega, hk⟩
            have w0 : (0 : Int) ≤ IntKind.u64.wrap A := by unfold IntKind.wrap; simp [IntKind.bits, IntKind.signed]; omega
            have k1 : IntKind.u64.wrap (N : Int) = (N : Int) := by unfold IntKind.wrap; simp [IntKind.bits, IntKind.signed]; omega
            have k2 : (IntKind.u64.wrap A).tmod (N : Int) = (k : Int) := by rw [Int.tmod_eq_emod_of_nonneg w0, hk, r11, Int.natCast_emod, Int.toNat_of_nonneg w0]
            have k3 : IntKind.i64.wrap (k : Int) = (k : Int) := i64_small (by omega) (by omega)
            have k4 : ¬ ((N : Int) = 0) := by omega
            have hadd : ∀ (b o j : Nat), (⟨b, o, none⟩ : Addr).add j = ⟨b, o + j, none⟩ := fun b o j => hadd0 b o j
            clear hq1 hq2 hq3 hq4 hq5 hq6 hq7 hcA hcT hca hct hia hit hla hlt r1 r2 r3 r4 r5 r6 r7 r8 r9 r10 r11 hk hkl ne st hA hT w0 e1 e2
            have C4' : 0 < N := by omega
            have k12 : IntKind.i64.wrap ((i : Int) + 1) = (i : Int) + 1 := by
              obtain ⟨_, _, s3, _⟩ := ST.out
              exact i64_small (by omega) (by omega)
            have dec : decide (0 < N) = true := by simpa using C4'
            by_cases C5 : ((T.toNat : Int) % 9) = 8
            · have C5b : ((T.toNat : Int) % 9 == 8) = true := by simpa using C5
              obtain ⟨A2, hA2⟩ : ∃ A2, (if cap = k + 1 then (some ⟨gb, 0, none⟩ : Option Addr) else some ⟨gb, k + 1, none⟩) = some A2 := by
                split
                · exact ⟨_, rfl⟩
                · exact ⟨_, rfl⟩
              obtain ⟨r1, r2, r3, r4, r5, r6, r7, r8, r9, r10, r11⟩ := HR.out
              obtain ⟨s1, s2, s3, s4⟩ := ST.out
              obtain ⟨j1, j2, j3, j4⟩ := HI.out
              obtain ⟨v', w', hrun, hown', hgrow⟩ := run_append_cut (P := Try.prog) wr.drew w.heap.size 22 22 5 i0 (.int .u8 0) und22 j1 j2 j3 j4 rfl gb cur r6 r5 r4.size N k (by omega) (by omega) (by omega) (cap - (k + 1)) A2 (by
                intro hne
                rw [if_neg (by omega)] at hA2
                simpa using hA2.symm)
              have k5 : IntKind.i64.wrap ((k : Int) + 1) = (k : Int) + 1 := i64_small (by omega) (by omega)
              have k6 : (0 : Int) ≤ (k : Int) + 1 := by omega
              have k7 : ((k : Int) + 1).toNat = k + 1 := by omega
              have k8 : k ≤ cap := by omega
              have k9 : k + 1 ≤ N := by omega
              have k10 : (k : Int) + 1 ≤ (N : Int) := by omega
              have k11 : (k : Int) ≤ (cap : Int) := by omega
              have GR : Aside (wr.drew.grownBy w' (some gb) ∧ OwnT w' w.heap.size 5 v' (N - 1) (cur.toList.take k ++ (cur.toList.drop (k + 1)).take (N - (k + 1)))) := ⟨hgrow, hown'⟩
              clear r1 r2 r3 r4 r5 r6 r7 r8 r9 r10 r11 s1 s2 s3 s4 j1 j2 j3 j4 hown' hgrow
              go_wp2_with fail
              go_region_law_o (refine step_append_runP rfl _ _ 22 22 rfl _ _ (by simp [Act.eval, Act.put]) (by simp [Act.eval, Act.put, hA2]) hrun ?_)
              go_wp2
              go_roundg (gk - 1)
              case measure => obtain ⟨r1, _⟩ := HR.out; omega
              case rel =>
                obtain ⟨r1, r2, r3, r4, r5, r6, r7, r8, r9, r10, r11⟩ := HR.out
                obtain ⟨s1, s2, s3, s4⟩ := ST.out
                obtain ⟨hgrow, hown'⟩ := GR.out
                have hC : T.toNat % 9 = 8 := by omega
                have hts : turnStep out A T = out.take k ++ out.drop (k + 1) := by
                  unfold turnStep
                  rw [if_pos hC, ← s4]
                have hbv : cur.toList.take k ++ (cur.toList.drop (k + 1)).take (N - (k + 1)) = bV (turnStep out A T) := by
                  rw [hts]
                  have e1 : cur.toList.take k = (bV out).take k := by rw [← r10, List.take_take, Nat.min_eq_left (by omega)]
                  have e2 : (cur.toList.drop (k + 1)).take (N - (k + 1)) = (bV out).drop (k + 1) := by rw [← r10, List.drop_take, r11]
                  rw [e1, e2]
                  simp [bV]
                have hlen' : (turnStep out A T).length = N - 1 := by rw [hts]; simp; omega
                rw [hbv] at hown'
                refine ⟨i + 1, turnStep out A T, by omega, rfl, by rw [hlen']; exact hown', by omega, by rw [← s1]; exact r3, (r4.drew).grown hgrow r4.size (fun q hq => by cases hq; exact r5)⟩
            · have C5b : ((T.toNat : Int) % 9 == 8) = false := by simpa using C5
              obtain ⟨r1, r2, r3, r4, r5, r6, r7, r8, r9, r10, r11⟩ := HR.out
              obtain ⟨s1, s2, s3, s4⟩ := ST.out
              obtain ⟨O, hO⟩ : ∃ O, O = out[k] := ⟨_, rfl⟩
              have cO : cur.toList[k]? = some (.int .u8 (O.toNat : Int)) := by
                have e := congrArg (fun l => l[k]?) r10
                simp only [List.getElem?_take, if_pos s2] at e
                rw [e, bV, List.getElem?_map, List.getElem?_eq_getElem s2, hO]
                rfl
              have cO1 : wr.cell? ⟨gb, k, none⟩ = some (.int .u8 (O.toNat : Int)) := by
                rw [cell_of_row wr gb k cur 5 (0, 0) r6]
                simpa using cO
              have cO2 : wr.drew.cell? ⟨gb, k, none⟩ = some (.int .u8 (O.toNat : Int)) := cO1
              have cF : wr.drew.frozen? ⟨gb, k, none⟩ = false := not_frozen1 (w := wr.drew) r6
              have cT1 : wr.drew.cell? ⟨bt, ot + i, none⟩ = some (.int .u8 (T.toNat : Int)) := ct
              have OO : Aside (O = out.getD k 0) := by rw [List.getD_eq_getElem?_getD, List.getElem?_eq_getElem s2, hO]; rfl
              have kN1 : k < N := by omega
              have kN2 : (k : Int) < (N : Int) := by omega
              have kN3 : (0 : Int) ≤ (k : Int) := by omega
              have hz : ((T.toNat : Int).tmod 9) = ((T.toNat % 9 : Nat) : Int) := tmod_nat T.toNat 9
              obtain ⟨M, hM⟩ : ∃ M, M = IntKind.u8.wrap (1 * 2 ^ (min (((T.toNat : Int).tmod 9)).toNat 8)) := ⟨_, rfl⟩
              have hsh : ∀ w, (Op.shift BinOp.shl IntKind.u8 1 IntKind.u8 ((T.toNat : Int).tmod 9)).run Try.prog w = .ok (.int .u8 M) w := fun w => by rw [hM]; exact run_shl _ (by rw [hz]; omega) w
              have MM : Aside (M = IntKind.u8.wrap (1 * 2 ^ (min (((T.toNat : Int).tmod 9)).toNat 8)) ∧ ((T.toNat : Int).tmod 9) = ((T.toNat % 9 : Nat) : Int)) := ⟨hM, hz⟩
              clear r1 r2 r3 r4 r5 r6 r7 r8 r9 r10 r11 s1 s2 s3 s4 hO cO hz hM
              go_wp2_with fail
              go_region_law_o (fail)
              all_goals
                go_wp2
                go_roundg (gk - 1)
                case measure => obtain ⟨r1, _⟩ := HR.out; omega
                case rel =>
                  obtain ⟨r1, r2, r3, r4, r5, r6, r7, r8, r9, r10, r11⟩ := HR.out
                  obtain ⟨s1, s2, s3, s4⟩ := ST.out
                  obtain ⟨m1, m2⟩ := MM.out
                  have o1 := OO.out
                  have hC : ¬ T.toNat % 9 = 8 := by omega
                  have hts : turnStep out A T = out.set k (O ^^^ UInt8.ofNat (2 ^ (T.toNat % 9))) := by
                    unfold turnStep
                    rw [if_neg hC, ← s4, o1]
                  have hv : Go.bits BinOp.xor IntKind.u8 (O.toNat : Int) M = ((O ^^^ UInt8.ofNat (2 ^ (T.toNat % 9))).toNat : Int) := by
                    rw [m1, m2]
                    exact xor_byte O (T.toNat % 9) (Nat.mod_lt _ (by omega))
                  rw [hv]
                  have hs := setCell_own r6 (k := k) (u := .int .u8 ((O ^^^ UInt8.ofNat (2 ^ (T.toNat % 9))).toNat : Int)) (by omega)
                  have hl : (turnStep out A T).length = out.length := by rw [hts]; simp
                  refine ⟨i + 1, turnStep out A T, by omega, rfl, ⟨by simp [bV], gb, cap, _, by rw [hl, r11], r5, hs, by omega, r8, by simpa using r9, ?_⟩, by omega, by rw [← s1]; exact r3, ((r4.setCell r5 _).drew)⟩
                  rw [hl, hts, Array.toList_setIfInBounds, List.take_set, r10]
                  simp [bV, List.map_set]
          · go_wp2
            go_ret
            obtain ⟨_, _, _, _, _, _, _, _, _, _, e⟩ := HR.out
            have h := FIN.out (fun h => h.2.2.2 (List.eq_nil_of_length_eq_zero (by omega)))
            exact ⟨_, rfl, h⟩
        · go_wp2
          go_ret
          have h := FIN.out (fun h => by omega)
          exact ⟨_, rfl, h⟩
      · go_wp2
        go_ret
        obtain ⟨e1, e2⟩ := LA.out
        have h := FIN.out (fun h => by omega)
        exact ⟨_, rfl, h⟩
    · go_wp2
      go_ret
      obtain ⟨e1, e2⟩ := LA.out
      have h := FIN.out (fun h => by omega)
      exact ⟨_, rfl, h⟩
end Go.Fm
/-
  ferrymanlaw04.Turned, as the interpreter's own operation: it is right.
-/
set_option maxRecDepth 100000
set_option linter.unusedVariables false
set_option linter.unusedSimpArgs false
namespace Go.Fm
open Go Go.Proofs Go.RowKit
theorem bytesX_eq : ∀ {es : List CV} {bs : List UInt8}, bytesX es = some bs → es = (bs.map fun c => (c.toNat : Int)).map (CV.int .u8)
  | [], bs, h => by simp only [bytesX, Option.some.injEq] at h; rw [← h]; rfl
  | .int .u8 n :: es, bs, h => by
    simp only [bytesX] at h
    split at h
    · rename_i bs' h'
      have ih := bytesX_eq h'
      split at h
      · rename_i hn
        simp only [Option.some.injEq] at h
        rw [← h, ih]
        simp only [List.map_cons]
        rw [← hn]
      · cases h
    · cases h
theorem intsC_eq {k : IntKind} : ∀ {es : List CV} {ns : List Int}, intsC k es = some ns → es = ns.map (CV.int k)
  | [], ns, h => by simp only [intsC, Option.some.injEq] at h; rw [← h]; rfl
  | .int k' n :: es, ns, h => by
    simp only [intsC] at h
    split at h
    · rename_i hk
      subst hk
      split at h
      · rename_i ns' h'
        simp only [Option.some.injEq] at h
        rw [← h, intsC_eq h']
        rfl
      · cases h
    · cases h
theorem RL_intsK {w : World} {S : Nat → Nat → Prop} {sz : Nat} {k : IntKind} : ∀ (xs : List Int) {cs : List Value}, RL w S sz cs (xs.map (CV.int k)) → cs = xs.map (Value.int k)
  | [], cs, h => by cases h; rfl
  | x :: xs, cs, h => by
    cases h with
    | cons _ c cs _ _ hl h hs =>
      cases h
      rw [RL_intsK xs hs]; rfl
theorem rd_of {w : World} {S : Nat → Nat → Prop} {k : IntKind} {cv : CV} {xs : List Int} {u : Value} (h : RC w S [u] cv) (hb : cv = .nilsl ∧ xs = [] ∨ ∃ sz, cv = .sl sz (xs.map (CV.int k))) : ∃ n, Rd w k u n xs := by
  rcases hb with ⟨rfl, rfl⟩ | ⟨sz, rfl⟩
  · obtain rfl : u = .slice none 0 0 := by
      generalize hu : [u] = us at h
      cases h
      exact (List.cons.inj hu).1
    exact ⟨0, rfl, none, 0, rfl, by unfold maxLen; omega, by simp, fun j x hj => by simp at hj⟩
  · generalize hes : xs.map (CV.int k) = es at h
    generalize hu : [u] = us at h
    cases h with
    | sl b o cap _ _ cs h hr hc hm =>
      obtain rfl := (List.cons.inj hu).1
      subst hes
      have hcs := RL_intsK xs hr
      subst hcs
      refine ⟨_, by simp, some ⟨b, o, none⟩, cap, rfl, hm, by simpa using hc, fun j x hj => ⟨b, o, rfl, ?_⟩⟩
      exact (h j (.int k x) (by rw [List.getElem?_map, hj]; rfl)).1
    | sl0 _ a cap hm =>
      have : xs = [] := by simpa using hes
      subst this
      obtain rfl := (List.cons.inj hu).1
      exact ⟨0, rfl, a, cap, rfl, hm, by simp, fun j x hj => by simp at hj⟩
theorem btx_rd {w : World} {S : Nat → Nat → Prop} {cv : CV} {bs : List UInt8} {u : Value} (h : RC w S [u] cv) (hb : btx cv = some bs) : ∃ n, Rd w .u8 u n (bs.map fun c => (c.toNat : Int)) := by
  refine rd_of h ?_
  cases cv with
  | sl sz es => exact .inr ⟨sz, by rw [bytesX_eq hb]⟩
  | nilsl =>
    simp only [btx, Option.some.injEq] at hb
    exact .inl ⟨rfl, by rw [← hb]; rfl⟩
  | _ => simp [btx] at hb
theorem its_rd {w : World} {S : Nat → Nat → Prop} {cv : CV} {ns : List Int} {u : Value} (h : RC w S [u] cv) (hb : its64 cv = some ns) : ∃ n, Rd w .i64 u n ns := by
  refine rd_of h ?_
  cases cv with
  | sl sz es => exact .inr ⟨sz, by rw [intsC_eq hb]⟩
  | nilsl =>
    simp only [its64, Option.some.injEq] at hb
    exact .inl ⟨rfl, hb.symm⟩
  | _ => simp [its64] at hb
/-- The copy at the start. -/
theorem turned_copy (w : World) (ub : Value) (n : Nat) (x : List UInt8) (hx : Rd w .u8 ub n (x.map fun c => (c.toNat : Int))) (hm : x.length ≤ 1000000) :
    ∃ ab cb v1 w1, ub = .slice ab n cb ∧ (∀ ty, (Builtin.append_ #[22, 22] ty #[.slice (some ⟨w.heap.size, 0, none⟩) 0 0, .slice ab n cb]).run Try.prog (w.alloc (.cells #[] 5)) = .ok v1 w1) ∧
      OwnT w1 w.heap.size 5 v1 x.length (bV x) ∧ Below w.heap.size w w1 := by
  obtain ⟨i0, hi, hz0, hz1, hz2⟩ : ∃ i, Try.prog.info? 5 = some i ∧ i.zero = some (.int .u8 0) ∧ i.size = 1 ∧ i.bytes = 1 := by
    have := info5
    cases h : Try.prog.info? 5 with
    | none => rw [h] at this; cases this
    | some i => rw [h] at this; simp at this; exact ⟨i, rfl, this.1, this.2.1, this.2.2⟩
  obtain ⟨hn, ab, cb, rfl, hc1, hc2, hx⟩ := hx
  have hn' : n = x.length := by simpa using hn
  have hb1 : Below w.heap.size w (w.alloc (.cells #[] 5)) := (Below.refl _ _).alloc (Nat.le_refl _) _
  have hlen : (bV x).length = n := by rw [bV, List.length_map, hn']
  have src : Src (cfg false) (w.alloc (.cells #[] 5)) 22 i0.size (.slice ab n cb) (bV x) n := by
    refine ⟨⟨_, und22, .inr ⟨_, rfl⟩⟩, rfl, fun w' hw' => ?_⟩
    rw [hz1]
    by_cases h0 : n = 0
    · have hxe : x = [] := List.eq_nil_of_length_eq_zero (by omega)
      subst hxe
      rw [h0]
      cases ab with
      | none => simp [Builtin.firstCells, bV]
      | some A => exact run_firstCells_some (P := Try.prog) w' 1 0 A _ _ [] (by simp) (fun j u hj => by simp at hj)
    · obtain ⟨b0, o0, rfl, hc0⟩ := hx 0 ((x.map fun c => (c.toNat : Int))[0]'(by rw [List.length_map]; omega)) (List.getElem?_eq_getElem _)
      refine run_firstCells_some (P := Try.prog) w' 1 n ⟨b0, o0, none⟩ n cb (bV x) (by omega) (fun j u hj => ?_)
      have hjl : j < x.length := by
        have := (List.getElem?_eq_some_iff.1 hj).1
        simpa [bV] using this
      obtain ⟨b1, o1, e1, hc1'⟩ := hx j (x[j].toNat : Int) (by rw [List.getElem?_map, List.getElem?_eq_getElem hjl]; rfl)
      cases e1
      have hu : u = .int .u8 (x[j].toNat : Int) := by
        rw [bV, List.getElem?_map, List.getElem?_eq_getElem hjl] at hj
        simpa using hj.symm
      rw [hu, hadd0, ← hc1']
      have hlt := lt_of_cell hc1'
      have hh : w'.heap[b0]? = w.heap[b0]? := by rw [hw']; exact hb1.block b0 hlt
      exact World.cell?_of_block hh
  have h63 : 0 + n ≤ maxLen := by unfold maxLen; omega
  have hr := fun ty => run_append (C := cfg false) (ty := ty) (t := 22) (tx := 22) (e := 5) und22 hi hz0 src (some ⟨w.heap.size, 0, none⟩) 0 0 h63
  have hnew : (w.alloc (.cells #[] 5)).heap[w.heap.size]? = some (.cells #[] 5 (0, 0)) := by show (w.heap.push _)[w.heap.size]? = _; simp
  by_cases h0 : n = 0
  · have hxe : x = [] := List.eq_nil_of_length_eq_zero (by omega)
    subst hxe
    subst h0
    refine ⟨ab, cb, _, _, rfl, fun ty => (hr ty).2.1 ⟨w.heap.size, 0, none⟩ (w.alloc (.cells #[] 5)) rfl (Nat.le_refl _) rfl, ?_, hb1⟩
    exact ⟨rfl, w.heap.size, 0, #[], rfl, Nat.le_refl _, hnew, Nat.le_refl _, Nat.zero_le _, Nat.zero_le _, rfl⟩
  · have hg := fun ty => (hr ty).2.2 [] (by omega) (by rw [hz2]; omega) (by rw [hz1]; exact run_firstCells_some (P := Try.prog) _ 1 0 _ _ _ [] (by simp) (fun j u hj => by simp at hj))
    have hge := grownCap_ge (w.alloc (.cells #[] 5)) (0 + n) 0 5
    have hle := grownCap_le_maxLen (w.alloc (.cells #[] 5)) (0 + n) 0 5 h63
    refine ⟨ab, cb, _, _, rfl, hg, ?_, (hb1.drew).alloc hb1.size _⟩
    refine ⟨by rw [hlen, hn'], (w.alloc (.cells #[] 5)).heap.size, _, _, by rw [Nat.zero_add, hn'], hb1.size, alloc_new0 (w.alloc (.cells #[] 5)).drew _, by omega, hle, ?_, ?_⟩
    · simp only [Array.size_append, List.size_toArray, size_zeroCells, List.length_nil, hlen]
      have hzc : (Value.int .u8 0).cells.size = 1 := rfl
      rw [hzc]
      omega
    · simp only [Array.toList_append, List.nil_append]
      rw [← hn', ← hlen]
      exact List.take_left' rfl
/-- A row that was made anew, read as a content. -/
theorem RC_ownT {C : Cfg} {S0 : Nat → Nat → Prop} {g : Gh} {w w' : World} {H : Heap} (h : Ok C S0 g w H) {v : Value} {x : List UInt8} (ho : OwnT w' w.heap.size 5 v x.length (bV x)) :
    RC w' (g.St S0) [v] (.sl 1 (bytesAV x)) := by
  obtain ⟨hl, b, cap, cur, rfl, hb, hh, hn, hc, hsz, htk⟩ := ho
  have hRL : RL w' (g.St S0) 1 (bV x) (bytesAV x) := bytesAV_RL x
  have := RC.sl (w := w') (S := g.St S0) b 0 cap 1 (bytesAV x) (bV x) (fun i v hv => ?_) hRL (by simpa [bytesAV] using hn) hc
  · simpa [bytesAV] using this
  · refine ⟨?_, h.inv.fresh _ _ hb, fun id blk hG hok hv he => ?_⟩
    · rw [Nat.zero_add]
      rw [cell_of_row w' b i cur 5 (0, 0) hh]
      rw [← htk, List.getElem?_take] at hv
      split at hv
      · simpa using hv
      · cases hv
    · have := h.inv.lt id blk hG hv
      omega
theorem Below.step {g : Gh} {w w' : World} (h : Below w.heap.size w w') : Step g w g w' where
  size := h.size
  os := h.os
  tape := h.tape
  output := h.output
  ids := fun id b hb => ⟨b, hb, rfl, rfl, rfl, rfl, fun _ h => h, fun _ h => h⟩
  keep := fun b hb hf => ⟨h.block b hb, hf⟩
theorem Ok.below {C : Cfg} {S0 : Nat → Nat → Prop} {g : Gh} {w w' : World} {H : Heap} (h : Ok C S0 g w H) (hb : Below w.heap.size w w') : Ok C S0 g w' H where
  inv := h.inv.next h.real (Below.step hb) (fun id b hG => .inl ⟨hG, fun ho hv => hb.block _ (h.inv.lt id b hG hv)⟩) (fun id b hG hv => Nat.lt_of_lt_of_le (h.inv.lt id b hG hv) hb.size) h.inv.inj h.inv.s0
  real := h.real
  gl := h.gl.stays ((Below.step hb).stays S0)
  heap := h.heap
theorem RV_c1 {g : Gh} {w : World} {S : Nat → Nat → Prop} {u : Value} {v : CV} (h : RV g w S u (.c v)) (hv : v.isAgg = false) : RC w S [u] v := h.cv1 hv
theorem btx_nag {cv : CV} {bs : List UInt8} (h : btx cv = some bs) : cv.isAgg = false := by cases cv <;> simp_all [btx, CV.isAgg]
theorem its_nag {cv : CV} {bs : List Int} (h : its64 cv = some bs) : cv.isAgg = false := by cases cv <;> simp_all [its64, CV.isAgg]
theorem fn9 : ∃ fn c, Try.prog.funcs[9]? = some fn ∧ fn.body = some c ∧ (fn.name == "runtime.NumGoroutine") = false := ⟨Try.f9, _, Try.func9, rfl, by kernel_rfl⟩
theorem turnedP_parts {args : List AV} {H H' : Heap} {v : AV} (h : turnedP args H = some (v, H')) : ∃ X A T x a t, args = [.c X, .c A, .c T] ∧ btx X = some x ∧ its64 A = some a ∧ btx T = some t ∧ x.length ≤ 1000000 ∧ v = .c (.sl 1 (bytesAV (turnF 4 x a t))) ∧ H' = H := by
  unfold turnedP at h
  split at h
  · rename_i X A T
    split at h
    · rename_i x a t h1 h2 h3
      split at h
      · rename_i hm
        simp only [Option.some.injEq, Prod.mk.injEq] at h
        exact ⟨X, A, T, x, a, t, rfl, h1, h2, h3, hm, h.1.symm, h.2.symm⟩
      · cases h
    · cases h
  · cases h
theorem prim9_ok (b : Bool) : PrimOk (cfg b) 9 turnedP where
  keeps := fun args H v H' h => by
    obtain ⟨X, A, T, x, a, t, rfl, h1, h2, h3, hm, rfl, rfl⟩ := turnedP_parts h
    exact Keeps.refl _
  fn := fn9
  run := fun args H v H' h S0 g w us hO hu => by
    obtain ⟨X, A, T, x, a, t, rfl, h1, h2, h3, hm, rfl, rfl⟩ := turnedP_parts h
    cases hu with
    | cons u1 _ _ _ r1 hs => cases hs with
      | cons u2 _ _ _ r2 hs => cases hs with
        | cons u3 _ _ _ r3 hs =>
          cases hs
          obtain ⟨n1, d1⟩ := btx_rd (RV_c1 r1 (btx_nag h1)) h1
          obtain ⟨n2, d2⟩ := its_rd (RV_c1 r2 (its_nag h2)) h2
          obtain ⟨n3, d3⟩ := btx_rd (RV_c1 r3 (btx_nag h3)) h3
          obtain ⟨ab, cb, v1, w1, rfl, hap, hown, hbel⟩ := turned_copy w u1 n1 x d1 hm
          refine Calls.mono (turned_run w w1 ab n1 cb v1 u2 u3 n2 n3 x a t d2 d3 hm hap hown hbel) fun e w' he => ?_
          obtain ⟨v, rfl, ho, hb⟩ := he
          exact ⟨_, g, rfl, hO.below hb, Below.step hb, .one _ _ (.c _ _ (RC_ownT hO ho)) rfl⟩
theorem prims_ok (b : Bool) : ∀ f p, (cfg b).prim f = some p → PrimOk (cfg b) f p := fun f p h => by
  simp only [cfg] at h
  by_cases h1 : f = 9
  · subst h1; simp at h; subst h; exact prim9_ok b
  · simp [h1] at h
end Go.Fm

/-
  A part of the proof: PLawA.
-/
import Derived.Test.YtjmjijgnbjkpnaaPTail
import Derived.Test.YtjmjijgnbjkpnaaPKaw
set_option linter.all false
set_option autoImplicit true
/-
  KvPlays: its calls; the tails once more; the loop that turns the bytes handed in.
-/
set_option maxRecDepth 100000
set_option linter.unusedVariables false
set_option linter.unusedSimpArgs false
namespace Go.Fm
open Go Go.Proofs
def ActL.puts (a : ActL) : Bool := decide ((a.kind.toNat : Int).tmod 6 < 4)
/-- A law's calls, in a row. -/
def actsC : Option (List ActL) → CV
  | none => .nilsl
  | some l => .sl 4 (l.map ActL.cv)
def actsL : Option (List ActL) → List ActL
  | none => []
  | some l => l
theorem csz_act (a : ActL) : CV.size a.cv = 4 := by simp [ActL.cv]
theorem cag_act (a : ActL) : CV.isAgg a.cv = true := rfl
theorem lenOf_acts (o : Option (List ActL)) (H : Heap) : lenOf H (.c (actsC o)) = some (actsL o).length := by cases o <;> simp [actsC, actsL]
theorem mIdxS_acts (o : Option (List ActL)) (i : Nat) (h : i < (actsL o).length) (H : Heap) : mIdxS 4 (.c (actsC o)) (.c (.int .i64 (i : Int))) H = some (.c (.ptr ((actsL o).getD i default).cv [] 0), H) := by
  cases o with
  | none => simp [actsL] at h
  | some l =>
    simp only [actsC, actsL] at h ⊢
    rw [mIdxS_s, if_pos ⟨⟨by omega, by simp; omega⟩, rfl⟩, Int.toNat_natCast, nthC_map default h]
section
variable (a : ActL)
theorem ga_0 : getC a.cv [0] = some (.int .u8 (a.kind.toNat : Int)) := by simp [ActL.cv]
theorem oa_0 : offC a.cv [0] = some 0 := by simp [ActL.cv]
theorem ga_1 : getC a.cv [1] = some (.int .u8 (a.k.toNat : Int)) := by simp [ActL.cv]
theorem oa_1 : offC a.cv [1] = some 1 := by simp [ActL.cv]
theorem ga_2 : getC a.cv [2] = some (pV a.raw) := by simp [ActL.cv]
theorem oa_2 : offC a.cv [2] = some 2 := by simp [ActL.cv]
theorem ga_3 : getC a.cv [3] = some (pV a.val) := by simp [ActL.cv]
theorem oa_3 : offC a.cv [3] = some 3 := by simp [ActL.cv]
end
attribute [simp] csz_act cag_act lenOf_acts ga_0 oa_0 ga_1 oa_1 ga_2 oa_2 ga_3 oa_3
theorem ok32X {x : AV} (l : List Pr) (hm : l.length ≤ 1000000) (hok : ∀ p ∈ l, PrOk p) (Y : Blk) (R : Heap) : okpc5_32 [.ov 0 [] 0, x] (.var 82 (.agg [.os 2]) :: Y :: .row 59 2 (l.map prC) :: R) :=
  ok32 l hm hok (H' := .fvar 82 (.agg [.sl 2 (l.map prC)]) :: Y :: .frow 59 2 (l.map prC) :: R) (by simp [toC, toCsW])
/-! CF -/
set_option maxHeartbeats 8000000 in
theorem tail_X1 (b : Bool) (q : Option (List UInt8)) (k : List UInt8) (A N : CV) (n : Nat) (hn : n ≤ 1000) (X : Blk) (s l : List Pr) (h : Kvd s l) (hk : isK k s = true) :
    tl5 b (callX (cfg b) An) (.c (pV q)) (.ov 0 [] 0) (.c (pairsC l)) (.c (.sl 1 (bytesAV k))) (.c A) (.c N) (.c (.int .i64 (n : Int))) [.var 82 (.agg [.os 2]), X, .row 59 2 (s.map prC)] =
      some (.cont [.c (pV q), .ov 0 [] 0, .c (pairsC l), .c A, .c N, .c (.int .i64 ((n : Int) + 1))], [.var 82 (.agg [.os 2]), X, .row 59 2 (s.map prC)]) := by
  have ha := idx_add n (by omega)
  have hll := h.same.len
  have hlm : l.length ≤ 1000000 := by have := h.len; omega
  have g := kvget_fn b s h.len h.rise h.ok k hk
  have f := fun H => find_call b l (some k) hlm H
  obtain ⟨z1, z2⟩ := h.same.findZ h.rise hk
  have l1 := klist_fn b s h.len h.ok none
  have l2 := klist_fn b s h.len h.ok q
  have bg := fun H => begin_call b l q hlm H
  have sp := fun H => samePairs_call b s l h.len h.same H
  have sp2 := fun H => samePairs_call b (begP q s) (begP q l) (Nat.le_trans (List.length_filter_le _ _) h.len) h.same.beg H
  have e1 : pV (some k) = .sl 1 (bytesAV k) := rfl
  have e0 : pV (none : Option (List UInt8)) = .nilsl := rfl
  have ok := ok32X (x := .any) s h.len h.ok X []
  obtain ⟨_, _, _, _, hlt⟩ := isK_split hk
  have hi := mIdxS_pairsC l (posK k s) (by omega)
  simp only [pB, z1, begP_none, e1, e0, kvH] at g f l1 l2 bg sp sp2
  have eqs := elemsOf_pV
  generalize posK k s = m at *
  generalize l.getD m default = lp at *
  generalize s.getD m default = sq at *
  have hge : (0 : Int) ≤ (m : Int) := by omega
  generalize pairsC (begP q s) = S1 at *
  generalize pairsC (begP q l) = S2 at *
  generalize pairsC s = S3 at *
  generalize pairsC l = S4 at *
  generalize s.map prC = M at *
  generalize pV q = Q at *
  simp (maxSteps := 1000000) [tl5, p5_l0_d0, v21, v23, bne4, frz82, frz59, g, f, l1, l2, bg, sp, sp2, pr32 ok, ha, hi, hge, BA_toList, eqs, z2]
set_option maxHeartbeats 8000000 in
theorem tail_X0 (b : Bool) (q : Option (List UInt8)) (k : List UInt8) (A N : CV) (n : Nat) (hn : n ≤ 1000) (X : Blk) (s l : List Pr) (h : Kvd s l) (hk : isK k s = false) :
    tl5 b (callX (cfg b) An) (.c (pV q)) (.ov 0 [] 0) (.c (pairsC l)) (.c (.sl 1 (bytesAV k))) (.c A) (.c N) (.c (.int .i64 (n : Int))) [.var 82 (.agg [.os 2]), X, .row 59 2 (s.map prC)] =
      some (.cont [.c (pV q), .ov 0 [] 0, .c (pairsC l), .c A, .c N, .c (.int .i64 ((n : Int) + 1))], [.var 82 (.agg [.os 2]), X, .row 59 2 (s.map prC)]) := by
  have ha := idx_add n (by omega)
  have hll := h.same.len
  have hlm : l.length ≤ 1000000 := by have := h.len; omega
  have g := kvget_no b s h.len h.rise k hk
  have f := fun H => find_call b l (some k) hlm H
  have z1 := h.same.findN h.rise hk
  have l1 := klist_fn b s h.len h.ok none
  have l2 := klist_fn b s h.len h.ok q
  have bg := fun H => begin_call b l q hlm H
  have sp := fun H => samePairs_call b s l h.len h.same H
  have sp2 := fun H => samePairs_call b (begP q s) (begP q l) (Nat.le_trans (List.length_filter_le _ _) h.len) h.same.beg H
  have e1 : pV (some k) = .sl 1 (bytesAV k) := rfl
  have e0 : pV (none : Option (List UInt8)) = .nilsl := rfl
  have ok := ok32X (x := .any) s h.len h.ok X []
  simp only [pB, z1, begP_none, e1, e0, kvH] at g f l1 l2 bg sp sp2
  generalize pairsC (begP q s) = S1 at *
  generalize pairsC (begP q l) = S2 at *
  generalize pairsC s = S3 at *
  generalize pairsC l = S4 at *
  generalize s.map prC = M at *
  generalize pV q = Q at *
  simp (maxSteps := 1000000) [tl5, p5_l0_d0, v21, v23, bne4, frz82, frz59, g, f, l1, l2, bg, sp, sp2, pr32 ok, ha]
def u8C (ns : List Int) : List CV := ns.map (CV.int .u8)
theorem u8C_len (ns : List Int) : (u8C ns).length = ns.length := by simp [u8C]
theorem u8C_nth {ns : List Int} {i : Nat} (h : i < ns.length) : nthC (u8C ns) i = .int .u8 (ns.getD i 0) := by
  unfold u8C
  rw [nthC_map 0 h]
theorem u8C_set (ns : List Int) (i : Nat) (x : Int) : (u8C ns).set i (.int .u8 x) = u8C (ns.set i x) := by simp [u8C, List.map_set]
theorem u8C_bytes (l : List UInt8) : bytesAV l = u8C (dI l) := by simp [u8C, dI, bytesAV]
theorem x3E (b : Bool) (cf : CallFn) (Q L K A : CV) (N I : Int) (M : List CV) : ∀ (r : Nat) (ns : List Int) (j : Nat), j + r = ns.length → ns.length ≤ 1000000 →
    ∃ ms : List Int, ms.length = ns.length ∧ loopX 0 (p5_l3 b cf 0) [.c Q, .ov 0 [] 0, .c L, .c K, .os 1, .c A, .c (.int .i64 N), .c (.int .i64 I), .c (.int .i64 (ns.length : Int)), .c (.int .i64 (j : Int))] [.var 82 (.c (.agg [.nilsl])), .row 5 1 (u8C ns)] =
      some (.exit 3 [.c Q, .ov 0 [] 0, .c L, .c K, .c A, .c (.int .i64 N), .c (.int .i64 I)], [.var 82 (.c (.agg [.nilsl])), .row 5 1 (u8C ms)])
  | 0, ns, j, h, hm => by
    refine ⟨ns, rfl, ?_⟩
    have hj : ns.length = j := by omega
    rw [loopX_eq]
    simp [p5_l3, hj]
  | r + 1, ns, j, h, hm => by
    have hj : j < ns.length := by omega
    have ha := idx_add j (by omega)
    obtain ⟨ms, h1, h2⟩ := x3E b cf Q L K A N I M r (ns.set j (iXor .u8 (ns.getD j 0) 255)) (j + 1) (by simp; omega) (by simpa using hm)
    refine ⟨ms, by simpa using h1, ?_⟩
    have hn := u8C_nth hj
    have hs := u8C_set ns j (iXor .u8 (ns.getD j 0) 255)
    have hl := u8C_len ns
    rw [List.length_set, ← hs] at h2
    rw [show ((j + 1 : Nat) : Int) = (j : Int) + 1 from rfl] at h2
    rw [loopX_eq]
    generalize u8C ns = E at *
    generalize ns.getD j 0 = x at *
    generalize ns.length = n at *
    simp [p5_l3, hj, hn, hl, ha]
    exact h2
theorem x3H (b : Bool) (cf : CallFn) (Q L K A : CV) (N I : Int) (M : List CV) : ∀ (r : Nat) (ns : List Int) (j : Nat), j + r = ns.length → ns.length ≤ 1000000 →
    ∃ ms : List Int, ms.length = ns.length ∧ loopX 0 (p5_l3 b cf 0) [.c Q, .ov 0 [] 0, .c L, .c K, .os 1, .c A, .c (.int .i64 N), .c (.int .i64 I), .c (.int .i64 (ns.length : Int)), .c (.int .i64 (j : Int))] [.var 82 (.agg [.os 2]), .row 5 1 (u8C ns), .row 59 2 M] =
      some (.exit 3 [.c Q, .ov 0 [] 0, .c L, .c K, .c A, .c (.int .i64 N), .c (.int .i64 I)], [.var 82 (.agg [.os 2]), .row 5 1 (u8C ms), .row 59 2 M])
  | 0, ns, j, h, hm => by
    refine ⟨ns, rfl, ?_⟩
    have hj : ns.length = j := by omega
    rw [loopX_eq]
    simp [p5_l3, hj]
  | r + 1, ns, j, h, hm => by
    have hj : j < ns.length := by omega
    have ha := idx_add j (by omega)
    obtain ⟨ms, h1, h2⟩ := x3H b cf Q L K A N I M r (ns.set j (iXor .u8 (ns.getD j 0) 255)) (j + 1) (by simp; omega) (by simpa using hm)
    refine ⟨ms, by simpa using h1, ?_⟩
    have hn := u8C_nth hj
    have hs := u8C_set ns j (iXor .u8 (ns.getD j 0) 255)
    have hl := u8C_len ns
    rw [List.length_set, ← hs] at h2
    rw [show ((j + 1 : Nat) : Int) = (j : Int) + 1 from rfl] at h2
    rw [loopX_eq]
    generalize u8C ns = E at *
    generalize ns.getD j 0 = x at *
    generalize ns.length = n at *
    simp [p5_l3, hj, hn, hl, ha]
    exact h2
end Go.Fm
/-
  KvPlays: turns that may not put.
-/
set_option maxRecDepth 100000
set_option linter.unusedVariables false
set_option linter.unusedSimpArgs false
namespace Go.Fm
open Go Go.Proofs
def kpS (Q L A : CV) (N I : Int) : List AV := [.c Q, .ov 0 [] 0, .c L, .c A, .c (.int .i64 N), .c (.int .i64 I)]
theorem sum64 {m n : Nat} (h : m + n ≤ 4000000000000000000) : iAdd .i64 (m : Int) (n : Int) = (m : Int) + (n : Int) := by
  unfold iAdd
  rw [i64_small (by omega) (by omega)]
theorem key_len (a : ActL) : a.key.length ≤ (pB a.raw).length + 3 := by
  unfold ActL.key
  split
  · omega
  · simp
/-! CF -/
set_option maxHeartbeats 8000000 in
theorem long_E (b : Bool) (q : Option (List UInt8)) (o : Option (List ActL)) (pre rest : List ActL) (a : ActL) (h : actsL o = pre ++ a :: rest) (h80 : pre.length ≤ 80) (hsum : (pB a.raw).length + (pB a.val).length ≤ 1000) (hp : a.puts = true) (hk : 96 < a.key.length) :
    loopX 0 (q5_l0 b (callX (cfg b) An) 0) (kpS (pV q) .nilsl (actsC o) ((actsL o).length : Int) ((pre.length : Int))) [.var 82 (.c (.agg [.nilsl]))] =
    loopX 0 (q5_l0 b (callX (cfg b) An) 0) (kpS (pV q) .nilsl (actsC o) ((actsL o).length : Int) ((pre.length : Int) + 1)) [.var 82 (.c (.agg [.nilsl]))] := by
  have hl : pre.length < (actsL o).length := by rw [h]; simp
  have hi := mIdxS_acts o pre.length hl
  have hg : (actsL o).getD pre.length default = a := by rw [h]; simp [List.getD_eq_getElem?_getD]
  rw [hg] at hi
  have h1 : ¬ (80 : Int) < (pre.length : Int) := by omega
  have hs := sum64 (m := (pB a.raw).length) (n := (pB a.val).length) (by omega)
  have h2 : ¬ (1000 : Int) < ((pB a.raw).length : Int) + ((pB a.val).length : Int) := by omega
  have kc := key_call b a
  have hkl := key_len a
  have hka : (bytesAV a.key).length = a.key.length := len_av _
  have k1 : a.key.length ≤ 140737488355328 := by omega
  have k2 := big_max (n := a.key.length) (by omega)
  have hp' : (a.kind.toNat : Int).tmod 6 < 4 := by simpa [ActL.puts] using hp
  have hkI : (96 : Int) < (a.key.length : Int) := by omega
  have pu := kvputO_long b a.key a.val hk
  obtain ⟨ms, hm1, hm2⟩ := x3E b (callX (cfg b) An) (pV q) .nilsl (.sl 1 (bytesAV a.key)) (actsC o) ((actsL o).length : Int) (pre.length : Int) [] a.key.length (dI a.key) 0 (by rw [len_dI]; omega) (by rw [len_dI]; omega)
  rw [← u8C_bytes, len_dI, show ((0 : Nat) : Int) = 0 from rfl] at hm2
  have tl := tail_E b q a.key (actsC o) (.int .i64 ((actsL o).length : Int)) pre.length (by omega) (.row 5 1 (u8C ms))
  simp only [kvEO] at pu
  generalize bytesAV a.key = KK at *
  generalize a.key.length = kn at *
  generalize pV q = Q at *
  generalize u8C ms = E at *
  generalize (actsL o).length = N at *
  generalize pre.length = n at *
  have e3 : loopX 0 (p5_l3 b (callX (cfg b) An) 0) [.c Q, .ov 0 [] 0, .c .nilsl, .c (.sl 1 KK), .os 3, .c (actsC o), .c (.int .i64 (N : Int)), .c (.int .i64 (n : Int)), .c (.int .i64 (kn : Int)), .c (.int .i64 0)] [.var 82 (.c (.agg [.nilsl])), .var 49 (.c a.cv), .dead, .row 5 1 KK] = some (.exit 3 [.c Q, .ov 0 [] 0, .c .nilsl, .c (.sl 1 KK), .c (actsC o), .c (.int .i64 (N : Int)), .c (.int .i64 (n : Int))], [.var 82 (.c (.agg [.nilsl])), .row 5 1 E]) := by
    rw [loopX_gc (s1 := [.c Q, .ov 0 [] 0, .c .nilsl, .c (.sl 1 KK), .os 1, .c (actsC o), .c (.int .i64 (N : Int)), .c (.int .i64 (n : Int)), .c (.int .i64 (kn : Int)), .c (.int .i64 0)]) (H1 := [.var 82 (.c (.agg [.nilsl])), .row 5 1 KK]) (by simp) (by simp)]
    exact hm2
  rw [loopX_eq]
  simp only [kpS]
  simp (maxSteps := 1000000) [q5_l0, hl, hi, h1, hs, h2, kc, frz82, frz59, hp', hkI, hka, k1, k2, v17, pu, e3, tl]
  exact loopX_gc (by simp) (by simp)
set_option maxHeartbeats 8000000 in
theorem long_H1 (b : Bool) (q : Option (List UInt8)) (o : Option (List ActL)) (pre rest : List ActL) (a : ActL) (h : actsL o = pre ++ a :: rest) (h80 : pre.length ≤ 80) (hsum : (pB a.raw).length + (pB a.val).length ≤ 1000) (hp : a.puts = true) (hk : 96 < a.key.length) (s l : List Pr) (hd : Kvd s l) (hi5 : isK a.key s = true) :
    loopX 0 (q5_l0 b (callX (cfg b) An) 0) (kpS (pV q) (pairsC l) (actsC o) ((actsL o).length : Int) ((pre.length : Int))) [.var 82 (.agg [.os 1]), .row 59 2 (s.map prC)] =
    loopX 0 (q5_l0 b (callX (cfg b) An) 0) (kpS (pV q) (pairsC l) (actsC o) ((actsL o).length : Int) ((pre.length : Int) + 1)) [.var 82 (.agg [.os 1]), .row 59 2 (s.map prC)] := by
  have hl : pre.length < (actsL o).length := by rw [h]; simp
  have hi := mIdxS_acts o pre.length hl
  have hg : (actsL o).getD pre.length default = a := by rw [h]; simp [List.getD_eq_getElem?_getD]
  rw [hg] at hi
  have h1 : ¬ (80 : Int) < (pre.length : Int) := by omega
  have hs := sum64 (m := (pB a.raw).length) (n := (pB a.val).length) (by omega)
  have h2 : ¬ (1000 : Int) < ((pB a.raw).length : Int) + ((pB a.val).length : Int) := by omega
  have kc := key_call b a
  have hkl := key_len a
  have hka : (bytesAV a.key).length = a.key.length := len_av _
  have k1 : a.key.length ≤ 140737488355328 := by omega
  have k2 := big_max (n := a.key.length) (by omega)
  have hp' : (a.kind.toNat : Int).tmod 6 < 4 := by simpa [ActL.puts] using hp
  have hkI : (96 : Int) < (a.key.length : Int) := by omega
  have pu := kvputO_longH b a.key a.val hk s
  obtain ⟨ms, hm1, hm2⟩ := x3H b (callX (cfg b) An) (pV q) (pairsC l) (.sl 1 (bytesAV a.key)) (actsC o) ((actsL o).length : Int) (pre.length : Int) (s.map prC) a.key.length (dI a.key) 0 (by rw [len_dI]; omega) (by rw [len_dI]; omega)
  rw [← u8C_bytes, len_dI, show ((0 : Nat) : Int) = 0 from rfl] at hm2
  have tl := tail_X1 b q a.key (actsC o) (.int .i64 ((actsL o).length : Int)) pre.length (by omega) (.row 5 1 (u8C ms)) s l hd hi5
  simp only [kvHO, List.cons_append, List.nil_append] at pu
  generalize pairsC l = L at *
  generalize s.map prC = M at *
  generalize bytesAV a.key = KK at *
  generalize a.key.length = kn at *
  generalize pV q = Q at *
  generalize u8C ms = E at *
  generalize (actsL o).length = N at *
  generalize pre.length = n at *
  have e3 : loopX 0 (p5_l3 b (callX (cfg b) An) 0) [.c Q, .ov 0 [] 0, .c L, .c (.sl 1 KK), .os 4, .c (actsC o), .c (.int .i64 (N : Int)), .c (.int .i64 (n : Int)), .c (.int .i64 (kn : Int)), .c (.int .i64 0)] [.var 82 (.agg [.os 1]), .row 59 2 M, .var 49 (.c a.cv), .dead, .row 5 1 KK] = some (.exit 3 [.c Q, .ov 0 [] 0, .c L, .c (.sl 1 KK), .c (actsC o), .c (.int .i64 (N : Int)), .c (.int .i64 (n : Int))], [.var 82 (.agg [.os 2]), .row 5 1 E, .row 59 2 M]) := by
    rw [loopX_gc (s1 := [.c Q, .ov 0 [] 0, .c L, .c (.sl 1 KK), .os 1, .c (actsC o), .c (.int .i64 (N : Int)), .c (.int .i64 (n : Int)), .c (.int .i64 (kn : Int)), .c (.int .i64 0)]) (H1 := [.var 82 (.agg [.os 2]), .row 5 1 KK, .row 59 2 M]) (by simp) (by simp)]
    exact hm2
  rw [loopX_eq]
  simp only [kpS]
  simp (maxSteps := 1000000) [q5_l0, hl, hi, h1, hs, h2, kc, frz82, frz59, hp', hkI, hka, k1, k2, v17, pu, e3, tl]
  exact loopX_gc (by simp) (by simp)
set_option maxHeartbeats 8000000 in
theorem long_H0 (b : Bool) (q : Option (List UInt8)) (o : Option (List ActL)) (pre rest : List ActL) (a : ActL) (h : actsL o = pre ++ a :: rest) (h80 : pre.length ≤ 80) (hsum : (pB a.raw).length + (pB a.val).length ≤ 1000) (hp : a.puts = true) (hk : 96 < a.key.length) (s l : List Pr) (hd : Kvd s l) (hi5 : isK a.key s = false) :
    loopX 0 (q5_l0 b (callX (cfg b) An) 0) (kpS (pV q) (pairsC l) (actsC o) ((actsL o).length : Int) ((pre.length : Int))) [.var 82 (.agg [.os 1]), .row 59 2 (s.map prC)] =
    loopX 0 (q5_l0 b (callX (cfg b) An) 0) (kpS (pV q) (pairsC l) (actsC o) ((actsL o).length : Int) ((pre.length : Int) + 1)) [.var 82 (.agg [.os 1]), .row 59 2 (s.map prC)] := by
  have hl : pre.length < (actsL o).length := by rw [h]; simp
  have hi := mIdxS_acts o pre.length hl
  have hg : (actsL o).getD pre.length default = a := by rw [h]; simp [List.getD_eq_getElem?_getD]
  rw [hg] at hi
  have h1 : ¬ (80 : Int) < (pre.length : Int) := by omega
  have hs := sum64 (m := (pB a.raw).length) (n := (pB a.val).length) (by omega)
  have h2 : ¬ (1000 : Int) < ((pB a.raw).length : Int) + ((pB a.val).length : Int) := by omega
  have kc := key_call b a
  have hkl := key_len a
  have hka : (bytesAV a.key).length = a.key.length := len_av _
  have k1 : a.key.length ≤ 140737488355328 := by omega
  have k2 := big_max (n := a.key.length) (by omega)
  have hp' : (a.kind.toNat : Int).tmod 6 < 4 := by simpa [ActL.puts] using hp
  have hkI : (96 : Int) < (a.key.length : Int) := by omega
  have pu := kvputO_longH b a.key a.val hk s
  obtain ⟨ms, hm1, hm2⟩ := x3H b (callX (cfg b) An) (pV q) (pairsC l) (.sl 1 (bytesAV a.key)) (actsC o) ((actsL o).length : Int) (pre.length : Int) (s.map prC) a.key.length (dI a.key) 0 (by rw [len_dI]; omega) (by rw [len_dI]; omega)
  rw [← u8C_bytes, len_dI, show ((0 : Nat) : Int) = 0 from rfl] at hm2
  have tl := tail_X0 b q a.key (actsC o) (.int .i64 ((actsL o).length : Int)) pre.length (by omega) (.row 5 1 (u8C ms)) s l hd hi5
  simp only [kvHO, List.cons_append, List.nil_append] at pu
  generalize pairsC l = L at *
  generalize s.map prC = M at *
  generalize bytesAV a.key = KK at *
  generalize a.key.length = kn at *
  generalize pV q = Q at *
  generalize u8C ms = E at *
  generalize (actsL o).length = N at *
  generalize pre.length = n at *
  have e3 : loopX 0 (p5_l3 b (callX (cfg b) An) 0) [.c Q, .ov 0 [] 0, .c L, .c (.sl 1 KK), .os 4, .c (actsC o), .c (.int .i64 (N : Int)), .c (.int .i64 (n : Int)), .c (.int .i64 (kn : Int)), .c (.int .i64 0)] [.var 82 (.agg [.os 1]), .row 59 2 M, .var 49 (.c a.cv), .dead, .row 5 1 KK] = some (.exit 3 [.c Q, .ov 0 [] 0, .c L, .c (.sl 1 KK), .c (actsC o), .c (.int .i64 (N : Int)), .c (.int .i64 (n : Int))], [.var 82 (.agg [.os 2]), .row 5 1 E, .row 59 2 M]) := by
    rw [loopX_gc (s1 := [.c Q, .ov 0 [] 0, .c L, .c (.sl 1 KK), .os 1, .c (actsC o), .c (.int .i64 (N : Int)), .c (.int .i64 (n : Int)), .c (.int .i64 (kn : Int)), .c (.int .i64 0)]) (H1 := [.var 82 (.agg [.os 2]), .row 5 1 KK, .row 59 2 M]) (by simp) (by simp)]
    exact hm2
  rw [loopX_eq]
  simp only [kpS]
  simp (maxSteps := 1000000) [q5_l0, hl, hi, h1, hs, h2, kc, frz82, frz59, hp', hkI, hka, k1, k2, v17, pu, e3, tl]
  exact loopX_gc (by simp) (by simp)
set_option maxHeartbeats 8000000 in
theorem wide_E (b : Bool) (q : Option (List UInt8)) (o : Option (List ActL)) (pre rest : List ActL) (a : ActL) (h : actsL o = pre ++ a :: rest) (h80 : pre.length ≤ 80) (hsum : (pB a.raw).length + (pB a.val).length ≤ 1000) (hp : a.puts = true) (hk : a.key.length ≤ 96) (hv : 256 < (pB a.val).length) :
    loopX 0 (q5_l0 b (callX (cfg b) An) 0) (kpS (pV q) .nilsl (actsC o) ((actsL o).length : Int) ((pre.length : Int))) [.var 82 (.c (.agg [.nilsl]))] =
    loopX 0 (q5_l0 b (callX (cfg b) An) 0) (kpS (pV q) .nilsl (actsC o) ((actsL o).length : Int) ((pre.length : Int) + 1)) [.var 82 (.c (.agg [.nilsl]))] := by
  have hl : pre.length < (actsL o).length := by rw [h]; simp
  have hi := mIdxS_acts o pre.length hl
  have hg : (actsL o).getD pre.length default = a := by rw [h]; simp [List.getD_eq_getElem?_getD]
  rw [hg] at hi
  have h1 : ¬ (80 : Int) < (pre.length : Int) := by omega
  have hs := sum64 (m := (pB a.raw).length) (n := (pB a.val).length) (by omega)
  have h2 : ¬ (1000 : Int) < ((pB a.raw).length : Int) + ((pB a.val).length : Int) := by omega
  have kc := key_call b a
  have hkl := key_len a
  have hka : (bytesAV a.key).length = a.key.length := len_av _
  have k1 : a.key.length ≤ 140737488355328 := by omega
  have k2 := big_max (n := a.key.length) (by omega)
  have hp' : (a.kind.toNat : Int).tmod 6 < 4 := by simpa [ActL.puts] using hp
  have hkI : ¬ (96 : Int) < (a.key.length : Int) := by omega
  have hvI : (256 : Int) < ((pB a.val).length : Int) := by omega
  have pu := kvputO_wide b a.key a.val (List.length_pos_iff.2 a.key_ne) hk hv
  obtain ⟨ms, hm1, hm2⟩ := x3E b (callX (cfg b) An) (pV q) .nilsl (.sl 1 (bytesAV a.key)) (actsC o) ((actsL o).length : Int) (pre.length : Int) [] a.key.length (dI a.key) 0 (by rw [len_dI]; omega) (by rw [len_dI]; omega)
  rw [← u8C_bytes, len_dI, show ((0 : Nat) : Int) = 0 from rfl] at hm2
  have tl := tail_E b q a.key (actsC o) (.int .i64 ((actsL o).length : Int)) pre.length (by omega) (.row 5 1 (u8C ms))
  simp only [kvEO] at pu
  generalize bytesAV a.key = KK at *
  generalize a.key.length = kn at *
  generalize pV q = Q at *
  generalize u8C ms = E at *
  generalize (actsL o).length = N at *
  generalize pre.length = n at *
  have e3 : loopX 0 (p5_l3 b (callX (cfg b) An) 0) [.c Q, .ov 0 [] 0, .c .nilsl, .c (.sl 1 KK), .os 3, .c (actsC o), .c (.int .i64 (N : Int)), .c (.int .i64 (n : Int)), .c (.int .i64 (kn : Int)), .c (.int .i64 0)] [.var 82 (.c (.agg [.nilsl])), .var 49 (.c a.cv), .dead, .row 5 1 KK] = some (.exit 3 [.c Q, .ov 0 [] 0, .c .nilsl, .c (.sl 1 KK), .c (actsC o), .c (.int .i64 (N : Int)), .c (.int .i64 (n : Int))], [.var 82 (.c (.agg [.nilsl])), .row 5 1 E]) := by
    rw [loopX_gc (s1 := [.c Q, .ov 0 [] 0, .c .nilsl, .c (.sl 1 KK), .os 1, .c (actsC o), .c (.int .i64 (N : Int)), .c (.int .i64 (n : Int)), .c (.int .i64 (kn : Int)), .c (.int .i64 0)]) (H1 := [.var 82 (.c (.agg [.nilsl])), .row 5 1 KK]) (by simp) (by simp)]
    exact hm2
  rw [loopX_eq]
  simp only [kpS]
  simp (maxSteps := 1000000) [q5_l0, hl, hi, h1, hs, h2, kc, frz82, frz59, hp', hkI, hvI, hka, k1, k2, v17, pu, e3, tl]
  exact loopX_gc (by simp) (by simp)
set_option maxHeartbeats 8000000 in
theorem wide_H1 (b : Bool) (q : Option (List UInt8)) (o : Option (List ActL)) (pre rest : List ActL) (a : ActL) (h : actsL o = pre ++ a :: rest) (h80 : pre.length ≤ 80) (hsum : (pB a.raw).length + (pB a.val).length ≤ 1000) (hp : a.puts = true) (hk : a.key.length ≤ 96) (hv : 256 < (pB a.val).length) (s l : List Pr) (hd : Kvd s l) (hi5 : isK a.key s = true) :
    loopX 0 (q5_l0 b (callX (cfg b) An) 0) (kpS (pV q) (pairsC l) (actsC o) ((actsL o).length : Int) ((pre.length : Int))) [.var 82 (.agg [.os 1]), .row 59 2 (s.map prC)] =
    loopX 0 (q5_l0 b (callX (cfg b) An) 0) (kpS (pV q) (pairsC l) (actsC o) ((actsL o).length : Int) ((pre.length : Int) + 1)) [.var 82 (.agg [.os 1]), .row 59 2 (s.map prC)] := by
  have hl : pre.length < (actsL o).length := by rw [h]; simp
  have hi := mIdxS_acts o pre.length hl
  have hg : (actsL o).getD pre.length default = a := by rw [h]; simp [List.getD_eq_getElem?_getD]
  rw [hg] at hi
  have h1 : ¬ (80 : Int) < (pre.length : Int) := by omega
  have hs := sum64 (m := (pB a.raw).length) (n := (pB a.val).length) (by omega)
  have h2 : ¬ (1000 : Int) < ((pB a.raw).length : Int) + ((pB a.val).length : Int) := by omega
  have kc := key_call b a
  have hkl := key_len a
  have hka : (bytesAV a.key).length = a.key.length := len_av _
  have k1 : a.key.length ≤ 140737488355328 := by omega
  have k2 := big_max (n := a.key.length) (by omega)
  have hp' : (a.kind.toNat : Int).tmod 6 < 4 := by simpa [ActL.puts] using hp
  have hkI : ¬ (96 : Int) < (a.key.length : Int) := by omega
  have hvI : (256 : Int) < ((pB a.val).length : Int) := by omega
  have pu := kvputO_wideH b a.key a.val (List.length_pos_iff.2 a.key_ne) hk hv s
  obtain ⟨ms, hm1, hm2⟩ := x3H b (callX (cfg b) An) (pV q) (pairsC l) (.sl 1 (bytesAV a.key)) (actsC o) ((actsL o).length : Int) (pre.length : Int) (s.map prC) a.key.length (dI a.key) 0 (by rw [len_dI]; omega) (by rw [len_dI]; omega)
  rw [← u8C_bytes, len_dI, show ((0 : Nat) : Int) = 0 from rfl] at hm2
  have tl := tail_X1 b q a.key (actsC o) (.int .i64 ((actsL o).length : Int)) pre.length (by omega) (.row 5 1 (u8C ms)) s l hd hi5
  simp only [kvHO, List.cons_append, List.nil_append] at pu
  generalize pairsC l = L at *
  generalize s.map prC = M at *
  generalize bytesAV a.key = KK at *
  generalize a.key.length = kn at *
  generalize pV q = Q at *
  generalize u8C ms = E at *
  generalize (actsL o).length = N at *
  generalize pre.length = n at *
  have e3 : loopX 0 (p5_l3 b (callX (cfg b) An) 0) [.c Q, .ov 0 [] 0, .c L, .c (.sl 1 KK), .os 4, .c (actsC o), .c (.int .i64 (N : Int)), .c (.int .i64 (n : Int)), .c (.int .i64 (kn : Int)), .c (.int .i64 0)] [.var 82 (.agg [.os 1]), .row 59 2 M, .var 49 (.c a.cv), .dead, .row 5 1 KK] = some (.exit 3 [.c Q, .ov 0 [] 0, .c L, .c (.sl 1 KK), .c (actsC o), .c (.int .i64 (N : Int)), .c (.int .i64 (n : Int))], [.var 82 (.agg [.os 2]), .row 5 1 E, .row 59 2 M]) := by
    rw [loopX_gc (s1 := [.c Q, .ov 0 [] 0, .c L, .c (.sl 1 KK), .os 1, .c (actsC o), .c (.int .i64 (N : Int)), .c (.int .i64 (n : Int)), .c (.int .i64 (kn : Int)), .c (.int .i64 0)]) (H1 := [.var 82 (.agg [.os 2]), .row 5 1 KK, .row 59 2 M]) (by simp) (by simp)]
    exact hm2
  rw [loopX_eq]
  simp only [kpS]
  simp (maxSteps := 1000000) [q5_l0, hl, hi, h1, hs, h2, kc, frz82, frz59, hp', hkI, hvI, hka, k1, k2, v17, pu, e3, tl]
  exact loopX_gc (by simp) (by simp)
set_option maxHeartbeats 8000000 in
theorem wide_H0 (b : Bool) (q : Option (List UInt8)) (o : Option (List ActL)) (pre rest : List ActL) (a : ActL) (h : actsL o = pre ++ a :: rest) (h80 : pre.length ≤ 80) (hsum : (pB a.raw).length + (pB a.val).length ≤ 1000) (hp : a.puts = true) (hk : a.key.length ≤ 96) (hv : 256 < (pB a.val).length) (s l : List Pr) (hd : Kvd s l) (hi5 : isK a.key s = false) :
    loopX 0 (q5_l0 b (callX (cfg b) An) 0) (kpS (pV q) (pairsC l) (actsC o) ((actsL o).length : Int) ((pre.length : Int))) [.var 82 (.agg [.os 1]), .row 59 2 (s.map prC)] =
    loopX 0 (q5_l0 b (callX (cfg b) An) 0) (kpS (pV q) (pairsC l) (actsC o) ((actsL o).length : Int) ((pre.length : Int) + 1)) [.var 82 (.agg [.os 1]), .row 59 2 (s.map prC)] := by
  have hl : pre.length < (actsL o).length := by rw [h]; simp
  have hi := mIdxS_acts o pre.length hl
  have hg : (actsL o).getD pre.length default = a := by rw [h]; simp [List.getD_eq_getElem?_getD]
  rw [hg] at hi
  have h1 : ¬ (80 : Int) < (pre.length : Int) := by omega
  have hs := sum64 (m := (pB a.raw).length) (n := (pB a.val).length) (by omega)
  have h2 : ¬ (1000 : Int) < ((pB a.raw).length : Int) + ((pB a.val).length : Int) := by omega
  have kc := key_call b a
  have hkl := key_len a
  have hka : (bytesAV a.key).length = a.key.length := len_av _
  have k1 : a.key.length ≤ 140737488355328 := by omega
  have k2 := big_max (n := a.key.length) (by omega)
  have hp' : (a.kind.toNat : Int).tmod 6 < 4 := by simpa [ActL.puts] using hp
  have hkI : ¬ (96 : Int) < (a.key.length : Int) := by omega
  have hvI : (256 : Int) < ((pB a.val).length : Int) := by omega
  have pu := kvputO_wideH b a.key a.val (List.length_pos_iff.2 a.key_ne) hk hv s
  obtain ⟨ms, hm1, hm2⟩ := x3H b (callX (cfg b) An) (pV q) (pairsC l) (.sl 1 (bytesAV a.key)) (actsC o) ((actsL o).length : Int) (pre.length : Int) (s.map prC) a.key.length (dI a.key) 0 (by rw [len_dI]; omega) (by rw [len_dI]; omega)
  rw [← u8C_bytes, len_dI, show ((0 : Nat) : Int) = 0 from rfl] at hm2
  have tl := tail_X0 b q a.key (actsC o) (.int .i64 ((actsL o).length : Int)) pre.length (by omega) (.row 5 1 (u8C ms)) s l hd hi5
  simp only [kvHO, List.cons_append, List.nil_append] at pu
  generalize pairsC l = L at *
  generalize s.map prC = M at *
  generalize bytesAV a.key = KK at *
  generalize a.key.length = kn at *
  generalize pV q = Q at *
  generalize u8C ms = E at *
  generalize (actsL o).length = N at *
  generalize pre.length = n at *
  have e3 : loopX 0 (p5_l3 b (callX (cfg b) An) 0) [.c Q, .ov 0 [] 0, .c L, .c (.sl 1 KK), .os 4, .c (actsC o), .c (.int .i64 (N : Int)), .c (.int .i64 (n : Int)), .c (.int .i64 (kn : Int)), .c (.int .i64 0)] [.var 82 (.agg [.os 1]), .row 59 2 M, .var 49 (.c a.cv), .dead, .row 5 1 KK] = some (.exit 3 [.c Q, .ov 0 [] 0, .c L, .c (.sl 1 KK), .c (actsC o), .c (.int .i64 (N : Int)), .c (.int .i64 (n : Int))], [.var 82 (.agg [.os 2]), .row 5 1 E, .row 59 2 M]) := by
    rw [loopX_gc (s1 := [.c Q, .ov 0 [] 0, .c L, .c (.sl 1 KK), .os 1, .c (actsC o), .c (.int .i64 (N : Int)), .c (.int .i64 (n : Int)), .c (.int .i64 (kn : Int)), .c (.int .i64 0)]) (H1 := [.var 82 (.agg [.os 2]), .row 5 1 KK, .row 59 2 M]) (by simp) (by simp)]
    exact hm2
  rw [loopX_eq]
  simp only [kpS]
  simp (maxSteps := 1000000) [q5_l0, hl, hi, h1, hs, h2, kc, frz82, frz59, hp', hkI, hvI, hka, k1, k2, v17, pu, e3, tl]
  exact loopX_gc (by simp) (by simp)
end Go.Fm
/-
  KvPlays: turns that put.
-/
set_option maxRecDepth 100000
set_option linter.unusedVariables false
set_option linter.unusedSimpArgs false
namespace Go.Fm
open Go Go.Proofs
theorem ltk_irr (k : List UInt8) (v : Option (List UInt8)) : ltk k (k, v) = false := bytesLess_irr k
theorem rise_nil : Rise [] := List.Pairwise.nil
theorem isK_put (k : List UInt8) (v : Option (List UInt8)) : ∀ {s : List Pr}, Rise s → isK k (putP k v s) = true
  | [], _ => by
    have e : putP k v [] = [(k, v)] := rfl
    rw [e, (pk_ge [] (ltk_irr k v)).2]
    simp
  | p :: s, hr => by
    have hc := List.pairwise_cons.1 hr
    unfold putP
    split
    · rename_i h1
      rw [(pk_lt _ (h1 : ltk k p = true)).2]
      exact isK_put k v hc.2
    · split
      · rw [(pk_ge _ (ltk_irr k v)).2]; simp
      · rw [(pk_ge _ (ltk_irr k v)).2]; simp
theorem v16 {b : Bool} {H : Heap} {vs : List AV} : callX (cfg b) An 16 vs H = cvw (fnX (cfg b) An 16) (handCs (cfg b) false H vs) := callX_v (prim_none (by decide))
theorem cf_PLaw5c_cab2db32 : clashFree [0, 0, 0, 6, 0, 0, 32, 126, 255, 511] [(false, [], 2, 2), (false, [], 2, 3), (false, [], 3, 3), (true, [2], 3, 4), (false, [], 4, 5), (false, [1], 5, 5), (false, [1], 5, 5), (true, [4], 5, 6), (true, [3, 5], 6, 6), (false, [], 6, 6)] = true := by decide
attribute [simp] cf_PLaw5c_cab2db32
theorem cf_PLaw5c_d6b5d8d5 : clashFree [0, 0, 0, 6, 0, 0, 32, 126, 255, 511] [(false, [], 3, 3), (false, [], 3, 4), (false, [], 4, 4), (true, [3], 4, 5), (false, [], 5, 6), (false, [2], 6, 6), (false, [2], 6, 6), (true, [5], 6, 7), (true, [4, 6], 7, 7), (false, [], 7, 7)] = true := by decide
attribute [simp] cf_PLaw5c_d6b5d8d5
/-! CF -/
set_option maxHeartbeats 8000000 in
theorem put_E (b : Bool) (q : Option (List UInt8)) (o : Option (List ActL)) (pre rest : List ActL) (a : ActL) (h : actsL o = pre ++ a :: rest) (h80 : pre.length ≤ 80) (hsum : (pB a.raw).length + (pB a.val).length ≤ 1000) (hp : a.puts = true) (hk : a.key.length ≤ 96) (hv : (pB a.val).length ≤ 256) :
    loopX 0 (q5_l0 b (callX (cfg b) An) 0) (kpS (pV q) .nilsl (actsC o) ((actsL o).length : Int) ((pre.length : Int))) [.var 82 (.c (.agg [.nilsl]))] =
    loopX 0 (q5_l0 b (callX (cfg b) An) 0) (kpS (pV q) (pairsC (putP a.key (some (pB a.val)) [])) (actsC o) ((actsL o).length : Int) ((pre.length : Int) + 1)) [.var 82 (.agg [.os 1]), .row 59 2 ((putP a.key a.val []).map prC)] := by
  have hl : pre.length < (actsL o).length := by rw [h]; simp
  have hi := mIdxS_acts o pre.length hl
  have hg : (actsL o).getD pre.length default = a := by rw [h]; simp [List.getD_eq_getElem?_getD]
  rw [hg] at hi
  have h1 : ¬ (80 : Int) < (pre.length : Int) := by omega
  have hs := sum64 (m := (pB a.raw).length) (n := (pB a.val).length) (by omega)
  have h2 : ¬ (1000 : Int) < ((pB a.raw).length : Int) + ((pB a.val).length : Int) := by omega
  have kc := key_call b a
  have hkl := key_len a
  have hka : (bytesAV a.key).length = a.key.length := len_av _
  have k1 : a.key.length ≤ 140737488355328 := by omega
  have k2 := big_max (n := a.key.length) (by omega)
  have hp' : (a.kind.toNat : Int).tmod 6 < 4 := by simpa [ActL.puts] using hp
  have hkI : ¬ (96 : Int) < (a.key.length : Int) := by omega
  have hvI : ¬ (256 : Int) < ((pB a.val).length : Int) := by omega
  have hva : (bytesAV (pB a.val)).length = (pB a.val).length := len_av _
  have k3 : (pB a.val).length ≤ 140737488355328 := by omega
  have k4 := big_max (n := (pB a.val).length) (by omega)
  have hkp : 0 < a.key.length := List.length_pos_iff.2 a.key_ne
  have eq := fun H => elemsOf_pV H a.val
  have e2 : pV (some (pB a.val)) = .sl 1 (bytesAV (pB a.val)) := rfl
  have pp := putPair_fn b [] a.key (some (pB a.val)) (by simp)
  have pu := kvputO_nil b a.key a.val hkp hk hv
  have pe : putP a.key a.val [] = [(a.key, a.val)] := rfl
  have hd2 : Kvd (putP a.key a.val []) (putP a.key (some (pB a.val)) []) := ⟨by simp [putP], rise_nil.put, fun p hp => by
    rcases putP_mem hp with rfl | hp
    · exact ⟨a.key_ne, hk, hv⟩
    · simp at hp, Same.put (by rfl) trivial⟩
  have hk2 : isK a.key (putP a.key a.val []) = true := isK_put _ _ rise_nil
  rw [show [prC (a.key, a.val)] = (putP a.key a.val []).map prC from rfl] at pu
  obtain ⟨ms, hm1, hm2⟩ := x3H b (callX (cfg b) An) (pV q) (pairsC (putP a.key (some (pB a.val)) [])) (.sl 1 (bytesAV a.key)) (actsC o) ((actsL o).length : Int) (pre.length : Int) ((putP a.key a.val []).map prC) a.key.length (dI a.key) 0 (by rw [len_dI]; omega) (by rw [len_dI]; omega)
  rw [← u8C_bytes, len_dI, show ((0 : Nat) : Int) = 0 from rfl] at hm2
  have tl := tail_X1 b q a.key (actsC o) (.int .i64 ((actsL o).length : Int)) pre.length (by omega) (.row 5 1 (u8C ms)) _ _ hd2 hk2
  simp only [kvEO, kvHO, kvDO, List.cons_append, List.nil_append, pairsC_nil, e2] at pu pp
  clear hd2 hk2
  generalize pairsC (putP a.key (some (pB a.val)) []) = L2 at *
  generalize (putP a.key a.val []).map prC = M2 at *
  generalize bytesAV a.key = KK at *
  generalize a.key.length = kn at *
  generalize bytesAV (pB a.val) = VV at *
  generalize pV q = Q at *
  generalize u8C ms = E at *
  generalize (actsL o).length = N at *
  generalize pre.length = n at *
  have e3 : loopX 0 (p5_l3 b (callX (cfg b) An) 0) [.c Q, .ov 0 [] 0, .c L2, .c (.sl 1 KK), .os 7, .c (actsC o), .c (.int .i64 (N : Int)), .c (.int .i64 (n : Int)), .c (.int .i64 (kn : Int)), .c (.int .i64 0)] [.var 82 (.agg [.os 8]), .var 49 (.c a.cv), .dead, .frow 5 1 KK, .dead, .frow 5 1 VV, .dead, .row 5 1 KK, .row 59 2 M2] = some (.exit 3 [.c Q, .ov 0 [] 0, .c L2, .c (.sl 1 KK), .c (actsC o), .c (.int .i64 (N : Int)), .c (.int .i64 (n : Int))], [.var 82 (.agg [.os 2]), .row 5 1 E, .row 59 2 M2]) := by
    rw [loopX_gc (s1 := [.c Q, .ov 0 [] 0, .c L2, .c (.sl 1 KK), .os 1, .c (actsC o), .c (.int .i64 (N : Int)), .c (.int .i64 (n : Int)), .c (.int .i64 (kn : Int)), .c (.int .i64 0)]) (H1 := [.var 82 (.agg [.os 2]), .row 5 1 KK, .row 59 2 M2]) (by simp) (by simp)]
    exact hm2
  rw [loopX_eq]
  simp only [kpS]
  simp (maxSteps := 1000000) [q5_l0, hl, hi, h1, hs, h2, kc, frz82, frz59, p5_l0_d2, hp', hkI, hvI, hka, hva, k1, k2, k3, k4, eq, v16, pp, v17, pu, e3, tl]
  exact loopX_gc (by simp) (by simp)
set_option maxHeartbeats 8000000 in
theorem put_H1 (b : Bool) (q : Option (List UInt8)) (o : Option (List ActL)) (pre rest : List ActL) (a : ActL) (h : actsL o = pre ++ a :: rest) (h80 : pre.length ≤ 80) (hsum : (pB a.raw).length + (pB a.val).length ≤ 1000) (hp : a.puts = true) (hk : a.key.length ≤ 96) (hv : (pB a.val).length ≤ 256) (s l : List Pr) (hd : Kvd s l) (hm9 : s.length ≤ 100000) (hi5 : isK a.key s = true) :
    loopX 0 (q5_l0 b (callX (cfg b) An) 0) (kpS (pV q) (pairsC l) (actsC o) ((actsL o).length : Int) ((pre.length : Int))) [.var 82 (.agg [.os 1]), .row 59 2 (s.map prC)] =
    loopX 0 (q5_l0 b (callX (cfg b) An) 0) (kpS (pV q) (pairsC (putP a.key (some (pB a.val)) l)) (actsC o) ((actsL o).length : Int) ((pre.length : Int) + 1)) [.var 82 (.agg [.os 1]), .row 59 2 ((putP a.key a.val s).map prC)] := by
  have hl : pre.length < (actsL o).length := by rw [h]; simp
  have hi := mIdxS_acts o pre.length hl
  have hg : (actsL o).getD pre.length default = a := by rw [h]; simp [List.getD_eq_getElem?_getD]
  rw [hg] at hi
  have h1 : ¬ (80 : Int) < (pre.length : Int) := by omega
  have hs := sum64 (m := (pB a.raw).length) (n := (pB a.val).length) (by omega)
  have h2 : ¬ (1000 : Int) < ((pB a.raw).length : Int) + ((pB a.val).length : Int) := by omega
  have kc := key_call b a
  have hkl := key_len a
  have hka : (bytesAV a.key).length = a.key.length := len_av _
  have k1 : a.key.length ≤ 140737488355328 := by omega
  have k2 := big_max (n := a.key.length) (by omega)
  have hp' : (a.kind.toNat : Int).tmod 6 < 4 := by simpa [ActL.puts] using hp
  have hkI : ¬ (96 : Int) < (a.key.length : Int) := by omega
  have hvI : ¬ (256 : Int) < ((pB a.val).length : Int) := by omega
  have hva : (bytesAV (pB a.val)).length = (pB a.val).length := len_av _
  have k3 : (pB a.val).length ≤ 140737488355328 := by omega
  have k4 := big_max (n := (pB a.val).length) (by omega)
  have hkp : 0 < a.key.length := List.length_pos_iff.2 a.key_ne
  have eq := fun H => elemsOf_pV H a.val
  have e2 : pV (some (pB a.val)) = .sl 1 (bytesAV (pB a.val)) := rfl
  have hlm : l.length ≤ 1000000 := by have := hd.same.len; have := hd.len; omega
  have pp := putPair_fn b l a.key (some (pB a.val)) hlm
  have pu := kvputO_set b s hd.len hd.rise a.key a.val hkp hk hv hi5
  have hd2 : Kvd (putP a.key a.val s) (putP a.key (some (pB a.val)) l) := ⟨Nat.le_trans (putP_len _ _ _) (by omega), hd.rise.put, fun p hp => by
    rcases putP_mem hp with rfl | hp
    · exact ⟨a.key_ne, hk, hv⟩
    · exact hd.ok p hp, Same.put (by rfl) hd.same⟩
  have hk2 : isK a.key (putP a.key a.val s) = true := isK_put _ _ hd.rise
  obtain ⟨ms, hm1, hm2⟩ := x3H b (callX (cfg b) An) (pV q) (pairsC (putP a.key (some (pB a.val)) l)) (.sl 1 (bytesAV a.key)) (actsC o) ((actsL o).length : Int) (pre.length : Int) ((putP a.key a.val s).map prC) a.key.length (dI a.key) 0 (by rw [len_dI]; omega) (by rw [len_dI]; omega)
  rw [← u8C_bytes, len_dI, show ((0 : Nat) : Int) = 0 from rfl] at hm2
  have tl := tail_X1 b q a.key (actsC o) (.int .i64 ((actsL o).length : Int)) pre.length (by omega) (.row 5 1 (u8C ms)) _ _ hd2 hk2
  simp only [kvEO, kvHO, kvDO, List.cons_append, List.nil_append, pairsC_nil, e2] at pu pp
  clear hd2 hk2
  generalize pairsC (putP a.key (some (pB a.val)) l) = L2 at *
  generalize (putP a.key a.val s).map prC = M2 at *
  clear hi5
  generalize pairsC l = L at *
  generalize s.map prC = M at *
  generalize bytesAV a.key = KK at *
  generalize a.key.length = kn at *
  generalize bytesAV (pB a.val) = VV at *
  generalize pV q = Q at *
  generalize u8C ms = E at *
  generalize (actsL o).length = N at *
  generalize pre.length = n at *
  have e3 : loopX 0 (p5_l3 b (callX (cfg b) An) 0) [.c Q, .ov 0 [] 0, .c L2, .c (.sl 1 KK), .os 8, .c (actsC o), .c (.int .i64 (N : Int)), .c (.int .i64 (n : Int)), .c (.int .i64 (kn : Int)), .c (.int .i64 0)] [.var 82 (.agg [.os 1]), .row 59 2 M2, .var 49 (.c a.cv), .dead, .frow 5 1 KK, .dead, .frow 5 1 VV, .dead, .row 5 1 KK] = some (.exit 3 [.c Q, .ov 0 [] 0, .c L2, .c (.sl 1 KK), .c (actsC o), .c (.int .i64 (N : Int)), .c (.int .i64 (n : Int))], [.var 82 (.agg [.os 2]), .row 5 1 E, .row 59 2 M2]) := by
    rw [loopX_gc (s1 := [.c Q, .ov 0 [] 0, .c L2, .c (.sl 1 KK), .os 1, .c (actsC o), .c (.int .i64 (N : Int)), .c (.int .i64 (n : Int)), .c (.int .i64 (kn : Int)), .c (.int .i64 0)]) (H1 := [.var 82 (.agg [.os 2]), .row 5 1 KK, .row 59 2 M2]) (by simp) (by simp)]
    exact hm2
  rw [loopX_eq]
  simp only [kpS]
  simp (maxSteps := 1000000) [q5_l0, hl, hi, h1, hs, h2, kc, frz82, frz59, p5_l0_d2, hp', hkI, hvI, hka, hva, k1, k2, k3, k4, eq, v16, pp, v17, pu, e3, tl]
  exact loopX_gc (by simp) (by simp)
set_option maxHeartbeats 8000000 in
theorem put_H0 (b : Bool) (q : Option (List UInt8)) (o : Option (List ActL)) (pre rest : List ActL) (a : ActL) (h : actsL o = pre ++ a :: rest) (h80 : pre.length ≤ 80) (hsum : (pB a.raw).length + (pB a.val).length ≤ 1000) (hp : a.puts = true) (hk : a.key.length ≤ 96) (hv : (pB a.val).length ≤ 256) (s l : List Pr) (hd : Kvd s l) (hm9 : s.length ≤ 100000) (hi5 : isK a.key s = false) :
    loopX 0 (q5_l0 b (callX (cfg b) An) 0) (kpS (pV q) (pairsC l) (actsC o) ((actsL o).length : Int) ((pre.length : Int))) [.var 82 (.agg [.os 1]), .row 59 2 (s.map prC)] =
    loopX 0 (q5_l0 b (callX (cfg b) An) 0) (kpS (pV q) (pairsC (putP a.key (some (pB a.val)) l)) (actsC o) ((actsL o).length : Int) ((pre.length : Int) + 1)) [.var 82 (.agg [.os 1]), .row 59 2 ((putP a.key a.val s).map prC)] := by
  have hl : pre.length < (actsL o).length := by rw [h]; simp
  have hi := mIdxS_acts o pre.length hl
  have hg : (actsL o).getD pre.length default = a := by rw [h]; simp [List.getD_eq_getElem?_getD]
  rw [hg] at hi
  have h1 : ¬ (80 : Int) < (pre.length : Int) := by omega
  have hs := sum64 (m := (pB a.raw).length) (n := (pB a.val).length) (by omega)
  have h2 : ¬ (1000 : Int) < ((pB a.raw).length : Int) + ((pB a.val).length : Int) := by omega
  have kc := key_call b a
  have hkl := key_len a
  have hka : (bytesAV a.key).length = a.key.length := len_av _
  have k1 : a.key.length ≤ 140737488355328 := by omega
  have k2 := big_max (n := a.key.length) (by omega)
  have hp' : (a.kind.toNat : Int).tmod 6 < 4 := by simpa [ActL.puts] using hp
  have hkI : ¬ (96 : Int) < (a.key.length : Int) := by omega
  have hvI : ¬ (256 : Int) < ((pB a.val).length : Int) := by omega
  have hva : (bytesAV (pB a.val)).length = (pB a.val).length := len_av _
  have k3 : (pB a.val).length ≤ 140737488355328 := by omega
  have k4 := big_max (n := (pB a.val).length) (by omega)
  have hkp : 0 < a.key.length := List.length_pos_iff.2 a.key_ne
  have eq := fun H => elemsOf_pV H a.val
  have e2 : pV (some (pB a.val)) = .sl 1 (bytesAV (pB a.val)) := rfl
  have hlm : l.length ≤ 1000000 := by have := hd.same.len; have := hd.len; omega
  have pp := putPair_fn b l a.key (some (pB a.val)) hlm
  have pu := kvputO_ins b s hd.len hd.rise a.key a.val hkp hk hv hi5
  have hd2 : Kvd (putP a.key a.val s) (putP a.key (some (pB a.val)) l) := ⟨Nat.le_trans (putP_len _ _ _) (by omega), hd.rise.put, fun p hp => by
    rcases putP_mem hp with rfl | hp
    · exact ⟨a.key_ne, hk, hv⟩
    · exact hd.ok p hp, Same.put (by rfl) hd.same⟩
  have hk2 : isK a.key (putP a.key a.val s) = true := isK_put _ _ hd.rise
  obtain ⟨ms, hm1, hm2⟩ := x3H b (callX (cfg b) An) (pV q) (pairsC (putP a.key (some (pB a.val)) l)) (.sl 1 (bytesAV a.key)) (actsC o) ((actsL o).length : Int) (pre.length : Int) ((putP a.key a.val s).map prC) a.key.length (dI a.key) 0 (by rw [len_dI]; omega) (by rw [len_dI]; omega)
  rw [← u8C_bytes, len_dI, show ((0 : Nat) : Int) = 0 from rfl] at hm2
  have tl := tail_X1 b q a.key (actsC o) (.int .i64 ((actsL o).length : Int)) pre.length (by omega) (.row 5 1 (u8C ms)) _ _ hd2 hk2
  simp only [kvEO, kvHO, kvDO, List.cons_append, List.nil_append, pairsC_nil, e2] at pu pp
  clear hd2 hk2
  generalize pairsC (putP a.key (some (pB a.val)) l) = L2 at *
  generalize (putP a.key a.val s).map prC = M2 at *
  clear hi5
  generalize pairsC l = L at *
  generalize s.map prC = M at *
  generalize bytesAV a.key = KK at *
  generalize a.key.length = kn at *
  generalize bytesAV (pB a.val) = VV at *
  generalize pV q = Q at *
  generalize u8C ms = E at *
  generalize (actsL o).length = N at *
  generalize pre.length = n at *
  have e3 : loopX 0 (p5_l3 b (callX (cfg b) An) 0) [.c Q, .ov 0 [] 0, .c L2, .c (.sl 1 KK), .os 8, .c (actsC o), .c (.int .i64 (N : Int)), .c (.int .i64 (n : Int)), .c (.int .i64 (kn : Int)), .c (.int .i64 0)] [.var 82 (.agg [.os 9]), .dead, .var 49 (.c a.cv), .dead, .frow 5 1 KK, .dead, .frow 5 1 VV, .dead, .row 5 1 KK, .row 59 2 M2] = some (.exit 3 [.c Q, .ov 0 [] 0, .c L2, .c (.sl 1 KK), .c (actsC o), .c (.int .i64 (N : Int)), .c (.int .i64 (n : Int))], [.var 82 (.agg [.os 2]), .row 5 1 E, .row 59 2 M2]) := by
    rw [loopX_gc (s1 := [.c Q, .ov 0 [] 0, .c L2, .c (.sl 1 KK), .os 1, .c (actsC o), .c (.int .i64 (N : Int)), .c (.int .i64 (n : Int)), .c (.int .i64 (kn : Int)), .c (.int .i64 0)]) (H1 := [.var 82 (.agg [.os 2]), .row 5 1 KK, .row 59 2 M2]) (by simp) (by simp)]
    exact hm2
  rw [loopX_eq]
  simp only [kpS]
  simp (maxSteps := 1000000) [q5_l0, hl, hi, h1, hs, h2, kc, frz82, frz59, p5_l0_d2, hp', hkI, hvI, hka, hva, k1, k2, k3, k4, eq, v16, pp, v17, pu, e3, tl]
  exact loopX_gc (by simp) (by simp)
end Go.Fm
/-
  KvPlays: turns that cut.
-/
set_option maxRecDepth 100000
set_option linter.unusedVariables false
set_option linter.unusedSimpArgs false
namespace Go.Fm
open Go Go.Proofs
/-! CF -/
set_option maxHeartbeats 8000000 in
theorem cut_E (b : Bool) (q : Option (List UInt8)) (o : Option (List ActL)) (pre rest : List ActL) (a : ActL) (h : actsL o = pre ++ a :: rest) (h80 : pre.length ≤ 80) (hsum : (pB a.raw).length + (pB a.val).length ≤ 1000) (hp : ¬ a.puts = true) :
    loopX 0 (q5_l0 b (callX (cfg b) An) 0) (kpS (pV q) .nilsl (actsC o) ((actsL o).length : Int) ((pre.length : Int))) [.var 82 (.c (.agg [.nilsl]))] =
    loopX 0 (q5_l0 b (callX (cfg b) An) 0) (kpS (pV q) .nilsl (actsC o) ((actsL o).length : Int) ((pre.length : Int) + 1)) [.var 82 (.c (.agg [.nilsl]))] := by
  have hl : pre.length < (actsL o).length := by rw [h]; simp
  have hi := mIdxS_acts o pre.length hl
  have hg : (actsL o).getD pre.length default = a := by rw [h]; simp [List.getD_eq_getElem?_getD]
  rw [hg] at hi
  have h1 : ¬ (80 : Int) < (pre.length : Int) := by omega
  have hs := sum64 (m := (pB a.raw).length) (n := (pB a.val).length) (by omega)
  have h2 : ¬ (1000 : Int) < ((pB a.raw).length : Int) + ((pB a.val).length : Int) := by omega
  have kc := key_call b a
  have hkl := key_len a
  have hka : (bytesAV a.key).length = a.key.length := len_av _
  have k1 : a.key.length ≤ 140737488355328 := by omega
  have k2 := big_max (n := a.key.length) (by omega)
  have hp' : ¬ (a.kind.toNat : Int).tmod 6 < 4 := by simpa [ActL.puts] using hp
  have e1 : pV (some a.key) = .sl 1 (bytesAV a.key) := rfl
  have cu := kvcut_nil b a.key
  have f := fun H => find_call b [] (some a.key) (by simp) H
  have cc := fun H => cutPair_call b [] a.key (by simp) H
  have z : findZ a.key [] = -1 := rfl
  have cz : cutP a.key [] = [] := rfl
  have tl := tail_E b q a.key (actsC o) (.int .i64 ((actsL o).length : Int)) pre.length (by omega) (.var 49 (.c a.cv))
  simp only [pB, z, cz, e1, pairsC_nil, kvE] at cu f cc
  generalize bytesAV a.key = KK at *
  generalize a.key.length = kn at *
  generalize pV q = Q at *
  generalize (actsL o).length = N at *
  generalize pre.length = n at *
  rw [loopX_eq]
  simp only [kpS]
  simp (maxSteps := 1000000) [q5_l0, hl, hi, h1, hs, h2, kc, frz82, frz59, hp', v18, cu, f, cc, bne4, tl]
  exact loopX_gc (by simp) (by simp)
set_option maxHeartbeats 8000000 in
theorem cut_H0 (b : Bool) (q : Option (List UInt8)) (o : Option (List ActL)) (pre rest : List ActL) (a : ActL) (h : actsL o = pre ++ a :: rest) (h80 : pre.length ≤ 80) (hsum : (pB a.raw).length + (pB a.val).length ≤ 1000) (hp : ¬ a.puts = true) (s l : List Pr) (hd : Kvd s l) (hi5 : isK a.key s = false) :
    loopX 0 (q5_l0 b (callX (cfg b) An) 0) (kpS (pV q) (pairsC l) (actsC o) ((actsL o).length : Int) ((pre.length : Int))) [.var 82 (.agg [.os 1]), .row 59 2 (s.map prC)] =
    loopX 0 (q5_l0 b (callX (cfg b) An) 0) (kpS (pV q) (pairsC (cutP a.key l)) (actsC o) ((actsL o).length : Int) ((pre.length : Int) + 1)) [.var 82 (.agg [.os 1]), .row 59 2 (s.map prC)] := by
  have hl : pre.length < (actsL o).length := by rw [h]; simp
  have hi := mIdxS_acts o pre.length hl
  have hg : (actsL o).getD pre.length default = a := by rw [h]; simp [List.getD_eq_getElem?_getD]
  rw [hg] at hi
  have h1 : ¬ (80 : Int) < (pre.length : Int) := by omega
  have hs := sum64 (m := (pB a.raw).length) (n := (pB a.val).length) (by omega)
  have h2 : ¬ (1000 : Int) < ((pB a.raw).length : Int) + ((pB a.val).length : Int) := by omega
  have kc := key_call b a
  have hkl := key_len a
  have hka : (bytesAV a.key).length = a.key.length := len_av _
  have k1 : a.key.length ≤ 140737488355328 := by omega
  have k2 := big_max (n := a.key.length) (by omega)
  have hp' : ¬ (a.kind.toNat : Int).tmod 6 < 4 := by simpa [ActL.puts] using hp
  have e1 : pV (some a.key) = .sl 1 (bytesAV a.key) := rfl
  have hlm : l.length ≤ 1000000 := by have := hd.same.len; have := hd.len; omega
  have f := fun H => find_call b l (some a.key) hlm H
  have cc := fun H => cutPair_call b l a.key hlm H
  have hcl : cutP a.key l = l := cutP_not (hd.same.mem (isK_not hd.rise hi5))
  have cu := kvcut_no b s hd.len hd.rise a.key hi5
  have z := hd.same.findN hd.rise hi5
  have tl := tail_H0 b q a.key (actsC o) (.int .i64 ((actsL o).length : Int)) pre.length (by omega) (.var 49 (.c a.cv)) s l hd hi5
  rw [hcl] at cc ⊢
  simp only [pB, z, e1, kvH] at cu f cc
  clear hi5 hcl z
  generalize pairsC l = L at *
  generalize s.map prC = M at *
  generalize bytesAV a.key = KK at *
  generalize a.key.length = kn at *
  generalize pV q = Q at *
  generalize (actsL o).length = N at *
  generalize pre.length = n at *
  rw [loopX_eq]
  simp only [kpS]
  simp (maxSteps := 1000000) [q5_l0, hl, hi, h1, hs, h2, kc, frz82, frz59, hp', v18, cu, f, cc, bne4, tl]
  exact loopX_gc (by simp) (by simp)
set_option maxHeartbeats 8000000 in
theorem cut_H1 (b : Bool) (q : Option (List UInt8)) (o : Option (List ActL)) (pre rest : List ActL) (a : ActL) (h : actsL o = pre ++ a :: rest) (h80 : pre.length ≤ 80) (hsum : (pB a.raw).length + (pB a.val).length ≤ 1000) (hp : ¬ a.puts = true) (s l : List Pr) (hd : Kvd s l) (hi5 : isK a.key s = true) :
    loopX 0 (q5_l0 b (callX (cfg b) An) 0) (kpS (pV q) (pairsC l) (actsC o) ((actsL o).length : Int) ((pre.length : Int))) [.var 82 (.agg [.os 1]), .row 59 2 (s.map prC)] =
    loopX 0 (q5_l0 b (callX (cfg b) An) 0) (kpS (pV q) (pairsC (cutP a.key l)) (actsC o) ((actsL o).length : Int) ((pre.length : Int) + 1)) [.var 82 (.agg [.os 1]), .row 59 2 ((cutP a.key s).map prC)] := by
  have hl : pre.length < (actsL o).length := by rw [h]; simp
  have hi := mIdxS_acts o pre.length hl
  have hg : (actsL o).getD pre.length default = a := by rw [h]; simp [List.getD_eq_getElem?_getD]
  rw [hg] at hi
  have h1 : ¬ (80 : Int) < (pre.length : Int) := by omega
  have hs := sum64 (m := (pB a.raw).length) (n := (pB a.val).length) (by omega)
  have h2 : ¬ (1000 : Int) < ((pB a.raw).length : Int) + ((pB a.val).length : Int) := by omega
  have kc := key_call b a
  have hkl := key_len a
  have hka : (bytesAV a.key).length = a.key.length := len_av _
  have k1 : a.key.length ≤ 140737488355328 := by omega
  have k2 := big_max (n := a.key.length) (by omega)
  have hp' : ¬ (a.kind.toNat : Int).tmod 6 < 4 := by simpa [ActL.puts] using hp
  have e1 : pV (some a.key) = .sl 1 (bytesAV a.key) := rfl
  have hlm : l.length ≤ 1000000 := by have := hd.same.len; have := hd.len; omega
  have f := fun H => find_call b l (some a.key) hlm H
  have cc := fun H => cutPair_call b l a.key hlm H
  have hcs : Kvd (cutP a.key s) (cutP a.key l) := ⟨Nat.le_trans (cutP_len _ _) hd.len, hd.rise.cut, fun p hp => hd.ok p (List.mem_filter.1 hp).1, hd.same.cut⟩
  have hc0 : isK a.key (cutP a.key s) = false := by
    cases hx : isK a.key (cutP a.key s) with
    | false => rfl
    | true =>
      obtain ⟨p, r, e2, e3, _⟩ := isK_split hx
      have := (List.mem_filter.1 (List.mem_of_mem_drop (l := cutP a.key s) (i := posK a.key (cutP a.key s)) (a := p) (by rw [e2]; simp))).2
      simp [e3] at this
  have cu := kvcut_fn b s hd.len hd.rise a.key hi5 _ (cutP_at hd.rise hi5)
  have z := (hd.same.findZ hd.rise hi5).1
  have hge : (0 : Int) ≤ (posK a.key s : Int) := by omega
  have tl := tail_D0 b q a.key (actsC o) (.int .i64 ((actsL o).length : Int)) pre.length (by omega) .dead (.var 49 (.c a.cv)) _ _ hcs hc0
  simp only [pB, z, e1, kvH, kvD] at cu f cc
  clear hc0 hcs z hi5
  generalize posK a.key s = m at *
  generalize pairsC (cutP a.key l) = L2 at *
  generalize (cutP a.key s).map prC = M2 at *
  generalize pairsC l = L at *
  generalize s.map prC = M at *
  generalize bytesAV a.key = KK at *
  generalize a.key.length = kn at *
  generalize pV q = Q at *
  generalize (actsL o).length = N at *
  generalize pre.length = n at *
  rw [loopX_eq]
  simp only [kpS]
  simp (maxSteps := 1000000) [q5_l0, hl, hi, h1, hs, h2, kc, frz82, frz59, hp', v18, cu, f, cc, bne4, hge, tl]
  exact loopX_gc (by simp) (by simp)
end Go.Fm
/-
  KvPlays: the law.
-/
set_option maxRecDepth 100000
set_option linter.unusedVariables false
set_option linter.unusedSimpArgs false
namespace Go.Fm
open Go Go.Proofs
/-- What the loop holds: an empty store and list, or a row and what reads the same. -/
def KvI (C : CV) (H : Heap) (n : Nat) : Prop := (C = .nilsl ∧ H = [.var 82 (.c (.agg [.nilsl]))]) ∨ ∃ s l, C = pairsC l ∧ H = [.var 82 (.agg [.os 1]), .row 59 2 (s.map prC)] ∧ Kvd s l ∧ s.length ≤ n
def KvX (X : Heap) : Prop := X = [] ∨ ∃ x, X = [.var 49 (.c x)]
/-! CF -/
theorem kp_end (b : Bool) (Q A C : CV) (N I : Int) (H : Heap) (n : Nat) (hH : KvI C H n) (h : ¬ I < N) :
    loopX 0 (q5_l0 b (callX (cfg b) An) 0) (kpS Q C A N I) H = some (.exit 0 [.any, .ov 0 [] 0], H) := by
  rw [loopX_eq]
  rcases hH with ⟨rfl, rfl⟩ | ⟨s, l, rfl, rfl, _, _⟩
  · simp [kpS, q5_l0, h]
  · simp [kpS, q5_l0, h]
theorem kp_break (b : Bool) (Q C : CV) (o : Option (List ActL)) (pre rest : List ActL) (a : ActL) (h : actsL o = pre ++ a :: rest) (H : Heap) (n : Nat) (hH : KvI C H n)
    (hsz : (pB a.raw).length + (pB a.val).length ≤ 4000000000000000000) (hc : 80 < pre.length ∨ 1000 < (pB a.raw).length + (pB a.val).length) :
    loopX 0 (q5_l0 b (callX (cfg b) An) 0) (kpS Q C (actsC o) ((actsL o).length : Int) (pre.length : Int)) H = some (.exit 0 [.any, .ov 0 [] 0], H ++ [.var 49 (.c a.cv)]) := by
  have hl : pre.length < (actsL o).length := by rw [h]; simp
  have hi := mIdxS_acts o pre.length hl
  have hg : (actsL o).getD pre.length default = a := by rw [h]; simp [List.getD_eq_getElem?_getD]
  rw [hg] at hi
  have hs := sum64 (m := (pB a.raw).length) (n := (pB a.val).length) hsz
  rw [loopX_eq]
  by_cases h1 : 80 < pre.length
  · have h1I : (80 : Int) < (pre.length : Int) := by omega
    clear hc
    generalize (actsL o).length = N at *
    generalize pre.length = n at *
    rcases hH with ⟨rfl, rfl⟩ | ⟨s, l, rfl, rfl, _, _⟩
    · simp [kpS, q5_l0, hl, hi, h1, h1I, hs]
    · simp [kpS, q5_l0, hl, hi, h1, h1I, hs]
  · have h1I : ¬ (80 : Int) < (pre.length : Int) := by omega
    have h2I : (1000 : Int) < ((pB a.raw).length : Int) + ((pB a.val).length : Int) := by omega
    clear hc
    generalize (actsL o).length = N at *
    generalize pre.length = n at *
    rcases hH with ⟨rfl, rfl⟩ | ⟨s, l, rfl, rfl, _, _⟩
    · simp [kpS, q5_l0, hl, hi, h1, h1I, hs, h2I]
    · simp [kpS, q5_l0, hl, hi, h1, h1I, hs, h2I]
theorem kp_turn (b : Bool) (q : Option (List UInt8)) (o : Option (List ActL)) (pre rest : List ActL) (a : ActL) (h : actsL o = pre ++ a :: rest) (C : CV) (H : Heap) (hH : KvI C H pre.length)
    (h80 : pre.length ≤ 80) (hsum : (pB a.raw).length + (pB a.val).length ≤ 1000) :
    ∃ C' H', KvI C' H' (pre.length + 1) ∧ loopX 0 (q5_l0 b (callX (cfg b) An) 0) (kpS (pV q) C (actsC o) ((actsL o).length : Int) (pre.length : Int)) H =
      loopX 0 (q5_l0 b (callX (cfg b) An) 0) (kpS (pV q) C' (actsC o) ((actsL o).length : Int) ((pre.length : Int) + 1)) H' := by
  rcases hH with ⟨rfl, rfl⟩ | ⟨s, l, rfl, rfl, hd, hsl⟩
  · by_cases hp : a.puts = true
    · by_cases hk : 96 < a.key.length
      · exact ⟨_, _, .inl ⟨rfl, rfl⟩, long_E b q o pre rest a h h80 hsum hp hk⟩
      · by_cases hv : 256 < (pB a.val).length
        · exact ⟨_, _, .inl ⟨rfl, rfl⟩, wide_E b q o pre rest a h h80 hsum hp (by omega) hv⟩
        · refine ⟨_, _, .inr ⟨_, _, rfl, rfl, ?_, ?_⟩, put_E b q o pre rest a h h80 hsum hp (by omega) (by omega)⟩
          · exact ⟨by simp [putP], rise_nil.put, fun p hp => by
              rcases putP_mem hp with rfl | hp
              · exact ⟨a.key_ne, by simp only; omega, by simp only; omega⟩
              · simp at hp, Same.put (by rfl) trivial⟩
          · simp [putP]
    · exact ⟨_, _, .inl ⟨rfl, rfl⟩, cut_E b q o pre rest a h h80 hsum hp⟩
  · by_cases hp : a.puts = true
    · by_cases hk : 96 < a.key.length
      · cases hi : isK a.key s with
        | true => exact ⟨_, _, .inr ⟨s, l, rfl, rfl, hd, by omega⟩, long_H1 b q o pre rest a h h80 hsum hp hk s l hd hi⟩
        | false => exact ⟨_, _, .inr ⟨s, l, rfl, rfl, hd, by omega⟩, long_H0 b q o pre rest a h h80 hsum hp hk s l hd hi⟩
      · by_cases hv : 256 < (pB a.val).length
        · cases hi : isK a.key s with
          | true => exact ⟨_, _, .inr ⟨s, l, rfl, rfl, hd, by omega⟩, wide_H1 b q o pre rest a h h80 hsum hp (by omega) hv s l hd hi⟩
          | false => exact ⟨_, _, .inr ⟨s, l, rfl, rfl, hd, by omega⟩, wide_H0 b q o pre rest a h h80 hsum hp (by omega) hv s l hd hi⟩
        · have hln := putP_len a.key a.val s
          have hd2 : Kvd (putP a.key a.val s) (putP a.key (some (pB a.val)) l) := ⟨by omega, hd.rise.put, fun p hp => by
            rcases putP_mem hp with rfl | hp
            · exact ⟨a.key_ne, by simp only; omega, by simp only; omega⟩
            · exact hd.ok p hp, Same.put (by rfl) hd.same⟩
          cases hi : isK a.key s with
          | true => exact ⟨_, _, .inr ⟨_, _, rfl, rfl, hd2, by omega⟩, put_H1 b q o pre rest a h h80 hsum hp (by omega) (by omega) s l hd (by omega) hi⟩
          | false => exact ⟨_, _, .inr ⟨_, _, rfl, rfl, hd2, by omega⟩, put_H0 b q o pre rest a h h80 hsum hp (by omega) (by omega) s l hd (by omega) hi⟩
    · have hln := cutP_len a.key s
      have hd2 : Kvd (cutP a.key s) (cutP a.key l) := ⟨by omega, hd.rise.cut, fun p hp => hd.ok p (List.mem_filter.1 hp).1, hd.same.cut⟩
      cases hi : isK a.key s with
      | true => exact ⟨_, _, .inr ⟨_, _, rfl, rfl, hd2, by omega⟩, cut_H1 b q o pre rest a h h80 hsum hp s l hd hi⟩
      | false =>
        have hcl : cutP a.key l = l := cutP_not (hd.same.mem (isK_not hd.rise hi))
        have e := cut_H0 b q o pre rest a h h80 hsum hp s l hd hi
        rw [hcl] at e
        exact ⟨_, _, .inr ⟨s, l, rfl, rfl, hd, by omega⟩, e⟩
theorem kp_loop (b : Bool) (q : Option (List UInt8)) (o : Option (List ActL)) (hsz : ∀ a ∈ actsL o, (pB a.raw).length + (pB a.val).length ≤ 4000000000000000000) : ∀ (rest pre : List ActL) (C : CV) (H : Heap), actsL o = pre ++ rest → KvI C H pre.length →
    ∃ C' H' n X, KvI C' H' n ∧ KvX X ∧ loopX 0 (q5_l0 b (callX (cfg b) An) 0) (kpS (pV q) C (actsC o) ((actsL o).length : Int) (pre.length : Int)) H = some (.exit 0 [.any, .ov 0 [] 0], H' ++ X)
  | [], pre, C, H, h, hH => by
    rw [List.append_nil] at h
    refine ⟨C, H, _, [], hH, .inl rfl, ?_⟩
    rw [List.append_nil]
    exact kp_end b _ _ C _ _ H _ hH (by rw [h]; omega)
  | a :: rest, pre, C, H, h, hH => by
    by_cases hc : 80 < pre.length ∨ 1000 < (pB a.raw).length + (pB a.val).length
    · exact ⟨C, H, _, _, hH, .inr ⟨a.cv, rfl⟩, kp_break b _ C o pre rest a h H _ hH (hsz a (by rw [h]; simp)) hc⟩
    · obtain ⟨C', H', hH', e⟩ := kp_turn b q o pre rest a h C H hH (by omega) (by omega)
      have e2 : (((pre ++ [a]).length : Nat) : Int) = (pre.length : Int) + 1 := by simp
      have ih := kp_loop b q o hsz rest (pre ++ [a]) C' H' (by simp [h]) (by rw [List.length_append, List.length_singleton]; exact hH')
      rw [e2] at ih
      rw [e]
      exact ih
set_option maxHeartbeats 4000000 in
theorem kvPlays_fn (b : Bool) (o : Option (List ActL)) (q : Option (List UInt8)) (hsz : ∀ a ∈ actsL o, (pB a.raw).length + (pB a.val).length ≤ 4000000000000000000) :
    fnX (cfg b) An 5 [.c (actsC o), .c (pV q)] [] = some (.c (.bool true), []) := by
  rw [fnX_eq, p5_eq]
  have aw := awake16_call b
  have nw := kvnew_fn b
  obtain ⟨C, H, n, X, hH, hX, e⟩ := kp_loop b q o hsz (actsL o) [] .nilsl [.var 82 (.c (.agg [.nilsl]))] rfl (.inl ⟨rfl, rfl⟩)
  rw [← q5_eq] at e
  simp only [List.length_nil, kpS] at e
  rw [show ((0 : Nat) : Int) = 0 from rfl] at e
  have z0 : ([] : Heap).length = 0 := rfl
  simp only [kvE] at nw
  rcases hH with ⟨rfl, rfl⟩ | ⟨s, l, rfl, rfl, _, _⟩
  · have pu := kvput_key b
    simp only [kvE] at pu
    rcases hX with rfl | ⟨x, rfl⟩
    · simp (maxSteps := 1000000) [p5, aw, v14, nw, e, v17, pu, frz82, frz59]
    · simp (maxSteps := 1000000) [p5, aw, v14, nw, e, v17, pu, frz82, frz59]
  · have pu := kvput_keyH b s
    simp only [kvH] at pu
    generalize s.map prC = M at *
    rcases hX with rfl | ⟨x, rfl⟩
    · simp (maxSteps := 1000000) [p5, aw, v14, nw, e, v17, pu, frz82, frz59]
    · simp (maxSteps := 1000000) [p5, aw, v14, nw, e, v17, pu, frz82, frz59]
end Go.Fm

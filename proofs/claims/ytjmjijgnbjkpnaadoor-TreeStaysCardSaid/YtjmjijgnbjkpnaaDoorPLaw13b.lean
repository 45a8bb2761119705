/-
  A part of the proof: PLaw13b.
-/
import Derived.Test.YtjmjijgnbjkpnaaDoorPLaw13
set_option linter.all false
set_option autoImplicit true
/-
  TreeStays: a turn.
-/
set_option maxRecDepth 100000
set_option linter.unusedVariables false
set_option linter.unusedSimpArgs false
namespace Go.Fm
open Go Go.Proofs
def tsS (T L U M : CV) (N I : Int) : List AV := [.c T, .c L, .ov 0 [] 0, .c U, .c M, .c (.int .i64 N), .c (.int .i64 I)]
theorem bq41 {b lit : Bool} {R : List Int} {H : Heap} : mBin (cfg b) 41 lit .neq (.c (.arr 32 .u8 R)) (.c (.arr 32 .u8 R)) H = some (.c (.bool false), H) := by simp [bne41, arrEq_e]
theorem cf_PLaw13b_5165e565 : clashFree [0, 0, 2, 7, 0, 0, 32, 0, 128, 384, 896, 2016, 4095, 8191, 16383] [(false, [], 2, 3), (false, [1], 3, 3), (false, [], 3, 3), (true, [2], 3, 4), (false, [], 4, 5), (false, [1], 5, 5), (false, [1], 5, 5), (false, [1], 5, 5), (false, [1], 5, 5), (false, [], 5, 5), (false, [], 5, 5), (false, [], 5, 5), (true, [4], 5, 6), (false, [], 6, 6), (false, [], 6, 6)] = true := by decide
attribute [simp] cf_PLaw13b_5165e565
/-! CF -/
set_option maxHeartbeats 8000000 in
theorem ts_put (b : Bool) (T L : CV) (o : Option (List ActL)) (R : CV) (hR : R.size = 32) (pre rest : List ActL) (a : ActL) (h : actsL o = pre ++ a :: rest) (t : Option Tn) (ht : Tn.szo t ≤ 1000) (hf : ∀ u, t = some u → u.fit)
    (hc : ¬ (30 < pre.length ∨ 90 < a.key.length)) (hp : a.puts = true) :
    loopX 0 (p13_l0 b (callX (cfg b) An) 0) (tsS T L (tC t) (actsC o) ((actsL o).length : Int) (pre.length : Int)) [.var 41 (.c R)] =
    loopX 0 (p13_l0 b (callX (cfg b) An) 0) (tsS T L (tC (some (Tn.puto a.key (some (pB (upto 100 a.val))) t))) (actsC o) ((actsL o).length : Int) ((pre.length : Int) + 1)) [.var 41 (.c R)] := by
  have hl : pre.length < (actsL o).length := by rw [h]; simp
  have hi := mIdxS_acts o pre.length hl
  have hg : (actsL o).getD pre.length default = a := by rw [h]; simp [List.getD_eq_getElem?_getD]
  rw [hg] at hi
  have ha := idx_add pre.length (by omega)
  have h1 : ¬ (30 : Int) < (pre.length : Int) := by omega
  have h2 : a.key.length ≤ 90 := by omega
  have h2I : ¬ (90 : Int) < (a.key.length : Int) := by omega
  have kc := key_call b a
  have sl := slice_upto 100 a.val
  have hv : (pB (upto 100 a.val)).length ≤ 100 := by rw [pB_upto, List.length_take]; omega
  have pc := PutO_fn b a.key (pB (upto 100 a.val)) a.key_ne (by omega) (by omega) t (szo_le (n := 100000000000) (by omega))
  have hp' : (a.kind.toNat : Int).tmod 6 < 4 := by simpa [ActL.puts] using hp
  generalize hu : Tn.puto a.key (some (pB (upto 100 a.val))) t = u at *
  have hfu : u.fit := by
    rw [← hu]
    cases t with
    | none => exact ⟨by omega, by simp only [pB] at hv ⊢; omega⟩
    | some t => exact Tn.fit_put (by omega) (by simp only [pB] at hv ⊢; omega) t (hf t rfl)
  have hsu : u.sz ≤ 1001 := by
    rw [← hu]
    cases t with
    | none => simp [Tn.puto, Tn.sz]
    | some t => have := Tn.sz_put a.key (some (pB (upto 100 a.val))) t; simp only [Tn.puto, Tn.szo] at this ht ⊢; omega
  have o1 := ok51 (some u) (fun v hv => by cases hv; exact hfu) (by simp only [Tn.szo]; omega)
  have o2 := ok66 (some u) (fun v hv => by cases hv; exact hfu) (by simp only [Tn.szo]; omega)
  have rc := Root_call b (some u)
  have hw : (dI (Tn.hasho (some u))).length = 32 := by rw [len_dI]; exact u.hash_len
  generalize Tn.hasho (some u) = wr at *
  generalize tC (some u) = U2 at *
  generalize tC t = U1 at *
  have hkl : (bytesAV a.key).length = a.key.length := by simp [bytesAV]
  have hvl : (bytesAV (pB (upto 100 a.val))).length = (pB (upto 100 a.val)).length := by simp [bytesAV]
  obtain ⟨m, hm⟩ : ∃ m : Int, m = ((min 100 (pB a.val).length : Nat) : Int) := ⟨_, rfl⟩
  have mz' : (if (100 : Int) < ((pB a.val).length : Int) then (100 : Int) else ((pB a.val).length : Int)) = m := by rw [hm]; split <;> omega
  rw [← hm] at sl
  have k1 : a.key.length ≤ 140737488355328 := by omega
  have k2 := big_max (n := a.key.length) (by omega)
  have k3 : (pB (upto 100 a.val)).length ≤ 140737488355328 := by omega
  have k4 := big_max (n := (pB (upto 100 a.val)).length) (by omega)
  have hkd : (dI a.key).length = a.key.length := len_dI _
  have hvd : (dI (pB (upto 100 a.val))).length = (pB (upto 100 a.val)).length := len_dI _
  obtain ⟨K2, hk1, hk2⟩ := x2_loop b (callX (cfg b) An) T L U2 (actsC o) ((actsL o).length : Int) (pre.length : Int) R (.arr 32 .u8 (dI wr)) (bytesAV (pB (upto 100 a.val))) a.key.length (dI a.key) 0 (by omega) (by omega)
  obtain ⟨V2, hv1, hv2⟩ := x4_loop b (callX (cfg b) An) T L U2 (actsC o) ((actsL o).length : Int) (pre.length : Int) R (.arr 32 .u8 (dI wr)) (pB (upto 100 a.val)).length (dI (pB (upto 100 a.val))) 0 (by omega) (by omega)
  rw [← u8C_bytes, hkd, show ((0 : Nat) : Int) = 0 from rfl] at hk2
  rw [← u8C_bytes, hvd, show ((0 : Nat) : Int) = 0 from rfl] at hv2
  generalize bytesAV a.key = KK at *
  generalize a.key.length = kn at *
  have e2 : loopX 0 (p13_l2 b (callX (cfg b) An) 0) [.c T, .c L, .ov 0 [] 0, .c U2, .os 3, .os 5, .ov 6 [] 0, .c (actsC o), .c (.int .i64 ((actsL o).length : Int)), .c (.int .i64 (pre.length : Int)), .c (.int .i64 (kn : Int)), .c (.int .i64 0)]
      [.var 41 (.c R), .var 48 (.c a.cv), .dead, .row 5 1 KK, .dead, .row 5 1 (bytesAV (pB (upto 100 a.val))), .var 41 (.c (.arr 32 .u8 (dI wr)))] = some (.exit 2 [.c T, .c L, .ov 0 [] 0, .c U2, .os 2, .ov 3 [] 0, .c (actsC o), .c (.int .i64 ((actsL o).length : Int)), .c (.int .i64 (pre.length : Int))], [.var 41 (.c R), .row 5 1 (u8C K2), .row 5 1 (bytesAV (pB (upto 100 a.val))), .var 41 (.c (.arr 32 .u8 (dI wr)))]) := by
    rw [loopX_gc (s1 := [.c T, .c L, .ov 0 [] 0, .c U2, .os 1, .os 2, .ov 3 [] 0, .c (actsC o), .c (.int .i64 ((actsL o).length : Int)), .c (.int .i64 (pre.length : Int)), .c (.int .i64 (kn : Int)), .c (.int .i64 0)])
      (H1 := [.var 41 (.c R), .row 5 1 KK, .row 5 1 (bytesAV (pB (upto 100 a.val))), .var 41 (.c (.arr 32 .u8 (dI wr)))]) (by simp) (by simp)]
    exact hk2
  have e4 : loopX 0 (p13_l4 b (callX (cfg b) An) 0) [.c T, .c L, .ov 0 [] 0, .c U2, .os 2, .ov 3 [] 0, .c (actsC o), .c (.int .i64 ((actsL o).length : Int)), .c (.int .i64 (pre.length : Int)), .c (.int .i64 ((pB (upto 100 a.val)).length : Int)), .c (.int .i64 0)]
      [.var 41 (.c R), .row 5 1 (u8C K2), .row 5 1 (bytesAV (pB (upto 100 a.val))), .var 41 (.c (.arr 32 .u8 (dI wr)))] = some (.exit 4 [.c T, .c L, .ov 0 [] 0, .c U2, .ov 2 [] 0, .c (actsC o), .c (.int .i64 ((actsL o).length : Int)), .c (.int .i64 (pre.length : Int))], [.var 41 (.c R), .row 5 1 (u8C V2), .var 41 (.c (.arr 32 .u8 (dI wr)))]) := by
    rw [loopX_gc (s1 := [.c T, .c L, .ov 0 [] 0, .c U2, .os 1, .ov 2 [] 0, .c (actsC o), .c (.int .i64 ((actsL o).length : Int)), .c (.int .i64 (pre.length : Int)), .c (.int .i64 ((pB (upto 100 a.val)).length : Int)), .c (.int .i64 0)])
      (H1 := [.var 41 (.c R), .row 5 1 (bytesAV (pB (upto 100 a.val))), .var 41 (.c (.arr 32 .u8 (dI wr)))]) (by simp) (by simp)]
    exact hv2
  rw [loopX_eq]
  simp only [tsS]
  simp (maxSteps := 1000000) [p13_l0, p13_l0_d0, p13_l0_d1, p13_l0_d2, e2, e4, pr25 o1, pr34 o2, bq41, hl, hi, ha, h1, h2I, kc, mz', sl, hp', k1, k2, k3, k4, hkl, hvl, cx36, pc, rc, hw]
  exact loopX_gc (by simp) (by simp)
set_option maxHeartbeats 8000000 in
theorem ts_cut (b : Bool) (T L : CV) (o : Option (List ActL)) (R : CV) (hR : R.size = 32) (pre rest : List ActL) (a : ActL) (h : actsL o = pre ++ a :: rest) (t : Option Tn) (ht : Tn.szo t ≤ 1000) (hf : ∀ u, t = some u → u.fit)
    (hc : ¬ (30 < pre.length ∨ 90 < a.key.length)) (hp : ¬ a.puts = true) :
    loopX 0 (p13_l0 b (callX (cfg b) An) 0) (tsS T L (tC t) (actsC o) ((actsL o).length : Int) (pre.length : Int)) [.var 41 (.c R)] =
    loopX 0 (p13_l0 b (callX (cfg b) An) 0) (tsS T L (tC (Tn.cuto a.key t).1) (actsC o) ((actsL o).length : Int) ((pre.length : Int) + 1)) [.var 41 (.c R)] := by
  have hl : pre.length < (actsL o).length := by rw [h]; simp
  have hi := mIdxS_acts o pre.length hl
  have hg : (actsL o).getD pre.length default = a := by rw [h]; simp [List.getD_eq_getElem?_getD]
  rw [hg] at hi
  have ha := idx_add pre.length (by omega)
  have h1 : ¬ (30 : Int) < (pre.length : Int) := by omega
  have h2 : a.key.length ≤ 90 := by omega
  have h2I : ¬ (90 : Int) < (a.key.length : Int) := by omega
  have kc := key_call b a
  have sl := slice_upto 100 a.val
  have hv : (pB (upto 100 a.val)).length ≤ 100 := by rw [pB_upto, List.length_take]; omega
  have pc := CutO_fn b a.key t (szo_le (n := 100000000000) (by omega))
  have hp' : ¬ (a.kind.toNat : Int).tmod 6 < 4 := by simpa [ActL.puts] using hp
  have hfu : ∀ v, (Tn.cuto a.key t).1 = some v → v.fit ∧ v.sz ≤ 1000 := by
    intro v hv
    cases t with
    | none => simp [Tn.cuto] at hv
    | some t => exact ⟨Tn.fit_cut a.key t v (hf t rfl) hv, by have := Tn.sz_cut a.key t v hv; simp only [Tn.szo] at ht; omega⟩
  have hsu : Tn.szo (Tn.cuto a.key t).1 ≤ 1000 := by
    cases hc : (Tn.cuto a.key t).1 with
    | none => simp [Tn.szo]
    | some v => simp only [Tn.szo]; exact (hfu v hc).2
  generalize Tn.cuto a.key t = uc at *
  obtain ⟨u, cb⟩ := uc
  simp only at hfu hsu pc ⊢
  have o1 := ok51 u (fun v hv => (hfu v hv).1) (by omega)
  have o2 := ok66 u (fun v hv => (hfu v hv).1) (by omega)
  have rc := Root_call b u
  have hw : (dI (Tn.hasho u)).length = 32 := by
    rw [len_dI]
    cases u with
    | none => exact shaW_len _
    | some u => exact u.hash_len
  generalize Tn.hasho u = wr at *
  generalize tC u = U2 at *
  generalize tC t = U1 at *
  have hkl : (bytesAV a.key).length = a.key.length := by simp [bytesAV]
  have hvl : (bytesAV (pB (upto 100 a.val))).length = (pB (upto 100 a.val)).length := by simp [bytesAV]
  obtain ⟨m, hm⟩ : ∃ m : Int, m = ((min 100 (pB a.val).length : Nat) : Int) := ⟨_, rfl⟩
  have mz' : (if (100 : Int) < ((pB a.val).length : Int) then (100 : Int) else ((pB a.val).length : Int)) = m := by rw [hm]; split <;> omega
  rw [← hm] at sl
  have k1 : a.key.length ≤ 140737488355328 := by omega
  have k2 := big_max (n := a.key.length) (by omega)
  have k3 : (pB (upto 100 a.val)).length ≤ 140737488355328 := by omega
  have k4 := big_max (n := (pB (upto 100 a.val)).length) (by omega)
  have hkd : (dI a.key).length = a.key.length := len_dI _
  have hvd : (dI (pB (upto 100 a.val))).length = (pB (upto 100 a.val)).length := len_dI _
  obtain ⟨K2, hk1, hk2⟩ := x2_loop b (callX (cfg b) An) T L U2 (actsC o) ((actsL o).length : Int) (pre.length : Int) R (.arr 32 .u8 (dI wr)) (bytesAV (pB (upto 100 a.val))) a.key.length (dI a.key) 0 (by omega) (by omega)
  obtain ⟨V2, hv1, hv2⟩ := x4_loop b (callX (cfg b) An) T L U2 (actsC o) ((actsL o).length : Int) (pre.length : Int) R (.arr 32 .u8 (dI wr)) (pB (upto 100 a.val)).length (dI (pB (upto 100 a.val))) 0 (by omega) (by omega)
  rw [← u8C_bytes, hkd, show ((0 : Nat) : Int) = 0 from rfl] at hk2
  rw [← u8C_bytes, hvd, show ((0 : Nat) : Int) = 0 from rfl] at hv2
  generalize bytesAV a.key = KK at *
  generalize a.key.length = kn at *
  have e2 : loopX 0 (p13_l2 b (callX (cfg b) An) 0) [.c T, .c L, .ov 0 [] 0, .c U2, .os 3, .os 5, .ov 6 [] 0, .c (actsC o), .c (.int .i64 ((actsL o).length : Int)), .c (.int .i64 (pre.length : Int)), .c (.int .i64 (kn : Int)), .c (.int .i64 0)]
      [.var 41 (.c R), .var 48 (.c a.cv), .dead, .row 5 1 KK, .dead, .row 5 1 (bytesAV (pB (upto 100 a.val))), .var 41 (.c (.arr 32 .u8 (dI wr)))] = some (.exit 2 [.c T, .c L, .ov 0 [] 0, .c U2, .os 2, .ov 3 [] 0, .c (actsC o), .c (.int .i64 ((actsL o).length : Int)), .c (.int .i64 (pre.length : Int))], [.var 41 (.c R), .row 5 1 (u8C K2), .row 5 1 (bytesAV (pB (upto 100 a.val))), .var 41 (.c (.arr 32 .u8 (dI wr)))]) := by
    rw [loopX_gc (s1 := [.c T, .c L, .ov 0 [] 0, .c U2, .os 1, .os 2, .ov 3 [] 0, .c (actsC o), .c (.int .i64 ((actsL o).length : Int)), .c (.int .i64 (pre.length : Int)), .c (.int .i64 (kn : Int)), .c (.int .i64 0)])
      (H1 := [.var 41 (.c R), .row 5 1 KK, .row 5 1 (bytesAV (pB (upto 100 a.val))), .var 41 (.c (.arr 32 .u8 (dI wr)))]) (by simp) (by simp)]
    exact hk2
  have e4 : loopX 0 (p13_l4 b (callX (cfg b) An) 0) [.c T, .c L, .ov 0 [] 0, .c U2, .os 2, .ov 3 [] 0, .c (actsC o), .c (.int .i64 ((actsL o).length : Int)), .c (.int .i64 (pre.length : Int)), .c (.int .i64 ((pB (upto 100 a.val)).length : Int)), .c (.int .i64 0)]
      [.var 41 (.c R), .row 5 1 (u8C K2), .row 5 1 (bytesAV (pB (upto 100 a.val))), .var 41 (.c (.arr 32 .u8 (dI wr)))] = some (.exit 4 [.c T, .c L, .ov 0 [] 0, .c U2, .ov 2 [] 0, .c (actsC o), .c (.int .i64 ((actsL o).length : Int)), .c (.int .i64 (pre.length : Int))], [.var 41 (.c R), .row 5 1 (u8C V2), .var 41 (.c (.arr 32 .u8 (dI wr)))]) := by
    rw [loopX_gc (s1 := [.c T, .c L, .ov 0 [] 0, .c U2, .os 1, .ov 2 [] 0, .c (actsC o), .c (.int .i64 ((actsL o).length : Int)), .c (.int .i64 (pre.length : Int)), .c (.int .i64 ((pB (upto 100 a.val)).length : Int)), .c (.int .i64 0)])
      (H1 := [.var 41 (.c R), .row 5 1 (bytesAV (pB (upto 100 a.val))), .var 41 (.c (.arr 32 .u8 (dI wr)))]) (by simp) (by simp)]
    exact hv2
  rw [loopX_eq]
  simp only [tsS]
  simp (maxSteps := 1000000) [p13_l0, p13_l0_d0, p13_l0_d1, p13_l0_d2, e2, e4, pr25 o1, pr34 o2, bq41, hl, hi, ha, h1, h2I, kc, mz', sl, hp', k1, k2, k3, k4, hkl, hvl, cx61, pc, rc, hw]
  exact loopX_gc (by simp) (by simp)
end Go.Fm

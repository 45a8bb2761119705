/-
  A part of the proof: PRfF.
-/
import Derived.Test.YtjmjijgnbjkpnaaPRfE
set_option linter.all false
set_option autoImplicit true
/-
  ferrymanref05.Decode: its loop (the plain seat).
-/
set_option autoImplicit false
set_option maxRecDepth 100000
set_option linter.unusedVariables false
set_option linter.unusedSimpArgs false
namespace Go.Fm
open Go Go.Proofs
def rS (o : Option (List UInt8)) (M : List CV) (i : Int) : List AV := [.c (pV o), .ov 0 [] 0, .c (.sl 2 M), .ov 1 [] 0, .c (.int .i64 i)]
theorem valL_01 (l : List UInt8) : (valL l).2 = 0 ∨ (valL l).2 = 7 := by unfold valL; split <;> simp
/-! CF -/
set_option maxHeartbeats 8000000 in
theorem rdst_1 (b : Bool) (o : Option (List UInt8)) (M : List CV) (i : Nat) (hi : i < M.length) (hm : M.length ≤ 1000000) (n : Nd) (hl : n.l.length = 32) (hr : n.r.length = 32) (v : List UInt8) (h0 : 0 < v.length) (hv : v.length ≤ 1000000) (hn : nthC M i = itC (1, v)) :
    loopX 0 (p11_l0 b (callX (cfg b) An) 0) (rS o M (i : Int)) (dH n) = loopX 0 (p11_l0 b (callX (cfg b) An) 0) (rS o M ((i : Int) + 1)) (dH { n with k := some v }) := by
  have hI : (i : Int) < (M.length : Int) := by omega
  have ha : iAdd .i64 (i : Int) 1 = (i : Int) + 1 := by unfold iAdd; rw [i64_small (by omega) (by omega)]
  have ic : itC (1, v) = .agg [.int .u8 1, .sl 1 (bytesAV v)] := rfl
  rw [ic] at hn
  obtain ⟨nk, nv, nh, nz, nl, nr⟩ := n
  simp only at hl hr
  have ll : (dI nl).length = 32 := by rw [len_dI, hl]
  have lr : (dI nr).length = 32 := by rw [len_dI, hr]
  have kz := csz_pV nk
  have kg := cag_pV nk
  have vz := csz_pV nv
  have vg := cag_pV nv
  have pv : pV (some v) = .sl 1 (bytesAV v) := rfl
  rw [loopX_eq]
  simp only [rS, dH, Nd.cv, pv, List.reduceReplicate]
  simp (maxSteps := 1000000) [p11_l0, hi, hI, hn, ha, ll, lr, kz, kg, vz, vg, frzA]
  all_goals (exact loopX_gc (by simp [kz, kg, vz, vg]) (by simp [kz, kg, vz, vg]))
set_option maxHeartbeats 8000000 in
theorem rdst_2 (b : Bool) (o : Option (List UInt8)) (M : List CV) (i : Nat) (hi : i < M.length) (hm : M.length ≤ 1000000) (n : Nd) (hl : n.l.length = 32) (hr : n.r.length = 32) (v : List UInt8) (h0 : 0 < v.length) (hv : v.length ≤ 1000000) (hn : nthC M i = itC (2, v)) :
    loopX 0 (p11_l0 b (callX (cfg b) An) 0) (rS o M (i : Int)) (dH n) = loopX 0 (p11_l0 b (callX (cfg b) An) 0) (rS o M ((i : Int) + 1)) (dH { n with v := some v }) := by
  have hI : (i : Int) < (M.length : Int) := by omega
  have ha : iAdd .i64 (i : Int) 1 = (i : Int) + 1 := by unfold iAdd; rw [i64_small (by omega) (by omega)]
  have ic : itC (2, v) = .agg [.int .u8 2, .sl 1 (bytesAV v)] := rfl
  rw [ic] at hn
  obtain ⟨nk, nv, nh, nz, nl, nr⟩ := n
  simp only at hl hr
  have ll : (dI nl).length = 32 := by rw [len_dI, hl]
  have lr : (dI nr).length = 32 := by rw [len_dI, hr]
  have kz := csz_pV nk
  have kg := cag_pV nk
  have vz := csz_pV nv
  have vg := cag_pV nv
  have pv : pV (some v) = .sl 1 (bytesAV v) := rfl
  rw [loopX_eq]
  simp only [rS, dH, Nd.cv, pv, List.reduceReplicate]
  simp (maxSteps := 1000000) [p11_l0, hi, hI, hn, ha, ll, lr, kz, kg, vz, vg, frzA]
  all_goals (exact loopX_gc (by simp [kz, kg, vz, vg]) (by simp [kz, kg, vz, vg]))
set_option maxHeartbeats 8000000 in
theorem rdst_3 (b : Bool) (o : Option (List UInt8)) (M : List CV) (i : Nat) (hi : i < M.length) (hm : M.length ≤ 1000000) (n : Nd) (hl : n.l.length = 32) (hr : n.r.length = 32) (v : List UInt8) (h0 : 0 < v.length) (hv : v.length ≤ 1000000) (hc : (valL v).2 = 0) (hn : nthC M i = itC (3, v)) :
    loopX 0 (p11_l0 b (callX (cfg b) An) 0) (rS o M (i : Int)) (dH n) = loopX 0 (p11_l0 b (callX (cfg b) An) 0) (rS o M ((i : Int) + 1)) (dH { n with h := IntKind.i64.wrap (if 65 < (valL v).1 then 65 else (valL v).1) }) := by
  have hI : (i : Int) < (M.length : Int) := by omega
  have ha : iAdd .i64 (i : Int) 1 = (i : Int) + 1 := by unfold iAdd; rw [i64_small (by omega) (by omega)]
  have ic : itC (3, v) = .agg [.int .u8 3, .sl 1 (bytesAV v)] := rfl
  rw [ic] at hn
  obtain ⟨nk, nv, nh, nz, nl, nr⟩ := n
  simp only at hl hr
  have ll : (dI nl).length = 32 := by rw [len_dI, hl]
  have lr : (dI nr).length = 32 := by rw [len_dI, hr]
  have vc : ∀ H, callX (cfg b) An 33 [.c (.sl 1 (bytesAV v))] H = _ := callX_pure (rvalue_fn b v h0 hv) rfl rfl (prim_none' (by decide))
  have dc : decide ((valL v).2 = 0) = true := by simp [hc]
  rw [dc] at vc
  generalize (valL v).1 = V at *
  have w65 : IntKind.i64.wrap 65 = 65 := by decide
  have kz := csz_pV nk
  have kg := cag_pV nk
  have vz := csz_pV nv
  have vg := cag_pV nv
  have pv : pV (some v) = .sl 1 (bytesAV v) := rfl
  by_cases hV : V < 65
  · have hV2 : ¬ 65 < V := by omega
    rw [loopX_eq]
    simp only [rS, dH, Nd.cv, pv, List.reduceReplicate]
    simp (maxSteps := 1000000) [p11_l0, hi, hI, hn, ha, ll, lr, kz, kg, vz, vg, frzA, vc, hV, hV2, w65]
    all_goals (exact loopX_gc (by simp [kz, kg, vz, vg]) (by simp [kz, kg, vz, vg]))
  · have hV2 : IntKind.i64.wrap (if 65 < V then 65 else V) = 65 := by
      by_cases h5 : 65 < V
      · rw [if_pos h5]; decide
      · obtain rfl : V = 65 := by omega
        rw [if_neg h5]; decide
    rw [loopX_eq]
    simp only [rS, dH, Nd.cv, pv, List.reduceReplicate]
    rw [hV2]
    simp (maxSteps := 1000000) [p11_l0, hi, hI, hn, ha, ll, lr, kz, kg, vz, vg, frzA, vc, hV, w65]
    all_goals (exact loopX_gc (by simp [kz, kg, vz, vg]) (by simp [kz, kg, vz, vg]))
set_option maxHeartbeats 8000000 in
theorem rdst_4 (b : Bool) (o : Option (List UInt8)) (M : List CV) (i : Nat) (hi : i < M.length) (hm : M.length ≤ 1000000) (n : Nd) (hl : n.l.length = 32) (hr : n.r.length = 32) (v : List UInt8) (h0 : 0 < v.length) (hv : v.length ≤ 1000000) (hc : (valL v).2 = 0) (hn : nthC M i = itC (4, v)) :
    loopX 0 (p11_l0 b (callX (cfg b) An) 0) (rS o M (i : Int)) (dH n) = loopX 0 (p11_l0 b (callX (cfg b) An) 0) (rS o M ((i : Int) + 1)) (dH { n with z := (valL v).1 }) := by
  have hI : (i : Int) < (M.length : Int) := by omega
  have ha : iAdd .i64 (i : Int) 1 = (i : Int) + 1 := by unfold iAdd; rw [i64_small (by omega) (by omega)]
  have ic : itC (4, v) = .agg [.int .u8 4, .sl 1 (bytesAV v)] := rfl
  rw [ic] at hn
  obtain ⟨nk, nv, nh, nz, nl, nr⟩ := n
  simp only at hl hr
  have ll : (dI nl).length = 32 := by rw [len_dI, hl]
  have lr : (dI nr).length = 32 := by rw [len_dI, hr]
  have vc : ∀ H, callX (cfg b) An 33 [.c (.sl 1 (bytesAV v))] H = _ := callX_pure (rvalue_fn b v h0 hv) rfl rfl (prim_none' (by decide))
  have dc : decide ((valL v).2 = 0) = true := by simp [hc]
  rw [dc] at vc
  generalize (valL v).1 = V at *
  have kz := csz_pV nk
  have kg := cag_pV nk
  have vz := csz_pV nv
  have vg := cag_pV nv
  have pv : pV (some v) = .sl 1 (bytesAV v) := rfl
  rw [loopX_eq]
  simp only [rS, dH, Nd.cv, pv, List.reduceReplicate]
  simp (maxSteps := 1000000) [p11_l0, hi, hI, hn, ha, ll, lr, kz, kg, vz, vg, frzA, vc]
  all_goals (exact loopX_gc (by simp [kz, kg, vz, vg]) (by simp [kz, kg, vz, vg]))
set_option maxHeartbeats 8000000 in
theorem rdst_5 (b : Bool) (o : Option (List UInt8)) (M : List CV) (i : Nat) (hi : i < M.length) (hm : M.length ≤ 1000000) (n : Nd) (hl : n.l.length = 32) (hr : n.r.length = 32) (v : List UInt8) (h0 : 0 < v.length) (hv : v.length ≤ 1000000) (hc : v.length = 32) (hn : nthC M i = itC (5, v)) :
    loopX 0 (p11_l0 b (callX (cfg b) An) 0) (rS o M (i : Int)) (dH n) = loopX 0 (p11_l0 b (callX (cfg b) An) 0) (rS o M ((i : Int) + 1)) (dH { n with l := v }) := by
  have hI : (i : Int) < (M.length : Int) := by omega
  have ha : iAdd .i64 (i : Int) 1 = (i : Int) + 1 := by unfold iAdd; rw [i64_small (by omega) (by omega)]
  have ic : itC (5, v) = .agg [.int .u8 5, .sl 1 (bytesAV v)] := rfl
  rw [ic] at hn
  obtain ⟨nk, nv, nh, nz, nl, nr⟩ := n
  simp only at hl hr
  have ll : (dI nl).length = 32 := by rw [len_dI, hl]
  have lr : (dI nr).length = 32 := by rw [len_dI, hr]
  have vc : ∀ H, callX (cfg b) An 34 [.c (.sl 1 (bytesAV v))] H = _ := callX_pure (rsum_ok b v hc) rfl rfl (prim_none' (by decide))
  have dl : (dI v).length = 32 := by rw [len_dI, hc]
  have kz := csz_pV nk
  have kg := cag_pV nk
  have vz := csz_pV nv
  have vg := cag_pV nv
  have pv : pV (some v) = .sl 1 (bytesAV v) := rfl
  rw [loopX_eq]
  simp only [rS, dH, Nd.cv, pv, List.reduceReplicate]
  simp (maxSteps := 1000000) [p11_l0, hi, hI, hn, ha, ll, lr, kz, kg, vz, vg, frzA, vc, dl]
  all_goals (exact loopX_gc (by simp [kz, kg, vz, vg]) (by simp [kz, kg, vz, vg]))
set_option maxHeartbeats 8000000 in
theorem rdst_6 (b : Bool) (o : Option (List UInt8)) (M : List CV) (i : Nat) (hi : i < M.length) (hm : M.length ≤ 1000000) (n : Nd) (hl : n.l.length = 32) (hr : n.r.length = 32) (v : List UInt8) (h0 : 0 < v.length) (hv : v.length ≤ 1000000) (hc : v.length = 32) (hn : nthC M i = itC (6, v)) :
    loopX 0 (p11_l0 b (callX (cfg b) An) 0) (rS o M (i : Int)) (dH n) = loopX 0 (p11_l0 b (callX (cfg b) An) 0) (rS o M ((i : Int) + 1)) (dH { n with r := v }) := by
  have hI : (i : Int) < (M.length : Int) := by omega
  have ha : iAdd .i64 (i : Int) 1 = (i : Int) + 1 := by unfold iAdd; rw [i64_small (by omega) (by omega)]
  have ic : itC (6, v) = .agg [.int .u8 6, .sl 1 (bytesAV v)] := rfl
  rw [ic] at hn
  obtain ⟨nk, nv, nh, nz, nl, nr⟩ := n
  simp only at hl hr
  have ll : (dI nl).length = 32 := by rw [len_dI, hl]
  have lr : (dI nr).length = 32 := by rw [len_dI, hr]
  have vc : ∀ H, callX (cfg b) An 34 [.c (.sl 1 (bytesAV v))] H = _ := callX_pure (rsum_ok b v hc) rfl rfl (prim_none' (by decide))
  have dl : (dI v).length = 32 := by rw [len_dI, hc]
  have kz := csz_pV nk
  have kg := cag_pV nk
  have vz := csz_pV nv
  have vg := cag_pV nv
  have pv : pV (some v) = .sl 1 (bytesAV v) := rfl
  rw [loopX_eq]
  simp only [rS, dH, Nd.cv, pv, List.reduceReplicate]
  simp (maxSteps := 1000000) [p11_l0, hi, hI, hn, ha, ll, lr, kz, kg, vz, vg, frzA, vc, dl]
  all_goals (exact loopX_gc (by simp [kz, kg, vz, vg]) (by simp [kz, kg, vz, vg]))
set_option maxHeartbeats 8000000 in
theorem rdbd_3 (b : Bool) (o : Option (List UInt8)) (M : List CV) (i : Nat) (hi : i < M.length) (hm : M.length ≤ 1000000) (n : Nd) (hl : n.l.length = 32) (hr : n.r.length = 32) (v : List UInt8) (h0 : 0 < v.length) (hv : v.length ≤ 1000000) (hc : (valL v).2 ≠ 0) (hn : nthC M i = itC (3, v)) :
    ∃ n' B, n'.l.length = 32 ∧ n'.r.length = 32 ∧ loopX 0 (p11_l0 b (callX (cfg b) An) 0) (rS o M (i : Int)) (dH n) = some (.ret [.c (pV o), .ov 0 [] 0, .c (.int .i64 7), .ov 1 [] 0], dH n' ++ B) := by
  have hI : (i : Int) < (M.length : Int) := by omega
  have ha : iAdd .i64 (i : Int) 1 = (i : Int) + 1 := by unfold iAdd; rw [i64_small (by omega) (by omega)]
  have ic : itC (3, v) = .agg [.int .u8 3, .sl 1 (bytesAV v)] := rfl
  rw [ic] at hn
  obtain ⟨nk, nv, nh, nz, nl, nr⟩ := n
  simp only at hl hr
  have ll : (dI nl).length = 32 := by rw [len_dI, hl]
  have lr : (dI nr).length = 32 := by rw [len_dI, hr]
  have vc : ∀ H, callX (cfg b) An 33 [.c (.sl 1 (bytesAV v))] H = _ := callX_pure (rvalue_fn b v h0 hv) rfl rfl (prim_none' (by decide))
  have dc : decide ((valL v).2 = 0) = false := by simp [hc]
  have hV0 : (valL v).1 = 0 := by
    unfold valL at hc ⊢
    split at hc
    · rename_i h; rw [if_pos h]
    · exact absurd rfl hc
  rw [dc, hV0] at vc
  have w0 : IntKind.i64.wrap 0 = 0 := by decide
  have kz := csz_pV nk
  have kg := cag_pV nk
  have vz := csz_pV nv
  have vg := cag_pV nv
  have pv : pV (some v) = .sl 1 (bytesAV v) := rfl
  refine ⟨⟨nk, nv, 0, nz, nl, nr⟩, [], by exact hl, by exact hr, ?_⟩
  rw [loopX_eq]
  simp only [rS, dH, Nd.cv, pv, List.reduceReplicate]
  simp (maxSteps := 1000000) [p11_l0, hi, hI, hn, ha, ll, lr, kz, kg, vz, vg, frzA, vc, w0]
set_option maxHeartbeats 8000000 in
theorem rdbd_4 (b : Bool) (o : Option (List UInt8)) (M : List CV) (i : Nat) (hi : i < M.length) (hm : M.length ≤ 1000000) (n : Nd) (hl : n.l.length = 32) (hr : n.r.length = 32) (v : List UInt8) (h0 : 0 < v.length) (hv : v.length ≤ 1000000) (hc : (valL v).2 ≠ 0) (hn : nthC M i = itC (4, v)) :
    ∃ n' B, n'.l.length = 32 ∧ n'.r.length = 32 ∧ loopX 0 (p11_l0 b (callX (cfg b) An) 0) (rS o M (i : Int)) (dH n) = some (.ret [.c (pV o), .ov 0 [] 0, .c (.int .i64 7), .ov 1 [] 0], dH n' ++ B) := by
  have hI : (i : Int) < (M.length : Int) := by omega
  have ha : iAdd .i64 (i : Int) 1 = (i : Int) + 1 := by unfold iAdd; rw [i64_small (by omega) (by omega)]
  have ic : itC (4, v) = .agg [.int .u8 4, .sl 1 (bytesAV v)] := rfl
  rw [ic] at hn
  obtain ⟨nk, nv, nh, nz, nl, nr⟩ := n
  simp only at hl hr
  have ll : (dI nl).length = 32 := by rw [len_dI, hl]
  have lr : (dI nr).length = 32 := by rw [len_dI, hr]
  have vc : ∀ H, callX (cfg b) An 33 [.c (.sl 1 (bytesAV v))] H = _ := callX_pure (rvalue_fn b v h0 hv) rfl rfl (prim_none' (by decide))
  have dc : decide ((valL v).2 = 0) = false := by simp [hc]
  have hV0 : (valL v).1 = 0 := by
    unfold valL at hc ⊢
    split at hc
    · rename_i h; rw [if_pos h]
    · exact absurd rfl hc
  rw [dc, hV0] at vc
  have kz := csz_pV nk
  have kg := cag_pV nk
  have vz := csz_pV nv
  have vg := cag_pV nv
  have pv : pV (some v) = .sl 1 (bytesAV v) := rfl
  refine ⟨⟨nk, nv, nh, 0, nl, nr⟩, [], by exact hl, by exact hr, ?_⟩
  rw [loopX_eq]
  simp only [rS, dH, Nd.cv, pv, List.reduceReplicate]
  simp (maxSteps := 1000000) [p11_l0, hi, hI, hn, ha, ll, lr, kz, kg, vz, vg, frzA, vc]
set_option maxHeartbeats 8000000 in
theorem rdbd_5 (b : Bool) (o : Option (List UInt8)) (M : List CV) (i : Nat) (hi : i < M.length) (hm : M.length ≤ 1000000) (n : Nd) (hl : n.l.length = 32) (hr : n.r.length = 32) (v : List UInt8) (h0 : 0 < v.length) (hv : v.length ≤ 1000000) (hc : v.length ≠ 32) (hn : nthC M i = itC (5, v)) :
    ∃ n' B, n'.l.length = 32 ∧ n'.r.length = 32 ∧ loopX 0 (p11_l0 b (callX (cfg b) An) 0) (rS o M (i : Int)) (dH n) = some (.ret [.c (pV o), .ov 0 [] 0, .c (.int .i64 7), .ov 1 [] 0], dH n' ++ B) := by
  have hI : (i : Int) < (M.length : Int) := by omega
  have ha : iAdd .i64 (i : Int) 1 = (i : Int) + 1 := by unfold iAdd; rw [i64_small (by omega) (by omega)]
  have ic : itC (5, v) = .agg [.int .u8 5, .sl 1 (bytesAV v)] := rfl
  rw [ic] at hn
  obtain ⟨nk, nv, nh, nz, nl, nr⟩ := n
  simp only at hl hr
  have ll : (dI nl).length = 32 := by rw [len_dI, hl]
  have lr : (dI nr).length = 32 := by rw [len_dI, hr]
  have vc : ∀ H, callX (cfg b) An 34 [.c (.sl 1 (bytesAV v))] H = _ := callX_pure (rsum_bad b v hc) rfl rfl (prim_none' (by decide))
  have zz : dI zeroL = [0, 0, 0, 0, 0, 0, 0, 0, 0, 0, 0, 0, 0, 0, 0, 0, 0, 0, 0, 0, 0, 0, 0, 0, 0, 0, 0, 0, 0, 0, 0, 0] := by decide
  have kz := csz_pV nk
  have kg := cag_pV nk
  have vz := csz_pV nv
  have vg := cag_pV nv
  have pv : pV (some v) = .sl 1 (bytesAV v) := rfl
  refine ⟨⟨nk, nv, nh, nz, zeroL, nr⟩, [], by rfl, by exact hr, ?_⟩
  rw [loopX_eq]
  simp only [rS, dH, Nd.cv, pv, List.reduceReplicate]
  simp (maxSteps := 1000000) [p11_l0, hi, hI, hn, ha, ll, lr, kz, kg, vz, vg, frzA, vc, zz]
set_option maxHeartbeats 8000000 in
theorem rdbd_6 (b : Bool) (o : Option (List UInt8)) (M : List CV) (i : Nat) (hi : i < M.length) (hm : M.length ≤ 1000000) (n : Nd) (hl : n.l.length = 32) (hr : n.r.length = 32) (v : List UInt8) (h0 : 0 < v.length) (hv : v.length ≤ 1000000) (hc : v.length ≠ 32) (hn : nthC M i = itC (6, v)) :
    ∃ n' B, n'.l.length = 32 ∧ n'.r.length = 32 ∧ loopX 0 (p11_l0 b (callX (cfg b) An) 0) (rS o M (i : Int)) (dH n) = some (.ret [.c (pV o), .ov 0 [] 0, .c (.int .i64 7), .ov 1 [] 0], dH n' ++ B) := by
  have hI : (i : Int) < (M.length : Int) := by omega
  have ha : iAdd .i64 (i : Int) 1 = (i : Int) + 1 := by unfold iAdd; rw [i64_small (by omega) (by omega)]
  have ic : itC (6, v) = .agg [.int .u8 6, .sl 1 (bytesAV v)] := rfl
  rw [ic] at hn
  obtain ⟨nk, nv, nh, nz, nl, nr⟩ := n
  simp only at hl hr
  have ll : (dI nl).length = 32 := by rw [len_dI, hl]
  have lr : (dI nr).length = 32 := by rw [len_dI, hr]
  have vc : ∀ H, callX (cfg b) An 34 [.c (.sl 1 (bytesAV v))] H = _ := callX_pure (rsum_bad b v hc) rfl rfl (prim_none' (by decide))
  have zz : dI zeroL = [0, 0, 0, 0, 0, 0, 0, 0, 0, 0, 0, 0, 0, 0, 0, 0, 0, 0, 0, 0, 0, 0, 0, 0, 0, 0, 0, 0, 0, 0, 0, 0] := by decide
  have kz := csz_pV nk
  have kg := cag_pV nk
  have vz := csz_pV nv
  have vg := cag_pV nv
  have pv : pV (some v) = .sl 1 (bytesAV v) := rfl
  refine ⟨⟨nk, nv, nh, nz, nl, zeroL⟩, [], by exact hl, by rfl, ?_⟩
  rw [loopX_eq]
  simp only [rS, dH, Nd.cv, pv, List.reduceReplicate]
  simp (maxSteps := 1000000) [p11_l0, hi, hI, hn, ha, ll, lr, kz, kg, vz, vg, frzA, vc, zz]
set_option maxHeartbeats 8000000 in
theorem rdbd_x (b : Bool) (o : Option (List UInt8)) (M : List CV) (i : Nat) (hi : i < M.length) (n : Nd) (hl : n.l.length = 32) (hr : n.r.length = 32) (tag : UInt8) (v : List UInt8) (t1 : tag ≠ 1) (t2 : tag ≠ 2) (t3 : tag ≠ 3) (t4 : tag ≠ 4) (t5 : tag ≠ 5) (t6 : tag ≠ 6) (hn : nthC M i = itC (tag, v)) :
    ∃ B, loopX 0 (p11_l0 b (callX (cfg b) An) 0) (rS o M (i : Int)) (dH n) = some (.ret [.c (pV o), .ov 0 [] 0, .c (.int .i64 8), .ov 1 [] 0], dH n ++ B) := by
  have hI : (i : Int) < (M.length : Int) := by omega
  have ic : itC (tag, v) = .agg [.int .u8 (tag.toNat : Int), .sl 1 (bytesAV v)] := rfl
  have ne (k : Nat) (hk : k < 256) (h : tag ≠ UInt8.ofNat k) : ((tag.toNat : Int) == (k : Int)) = false := by
    have : tag.toNat ≠ k := fun e => h (by rw [← UInt8.toNat_inj, e]; simp [UInt8.toNat_ofNat']; omega)
    simp; omega
  have n1 : ((tag.toNat : Int) == 1) = false := ne 1 (by decide) t1
  have n2 : ((tag.toNat : Int) == 2) = false := ne 2 (by decide) t2
  have n3 : ((tag.toNat : Int) == 3) = false := ne 3 (by decide) t3
  have n4 : ((tag.toNat : Int) == 4) = false := ne 4 (by decide) t4
  have n5 : ((tag.toNat : Int) == 5) = false := ne 5 (by decide) t5
  have n6 : ((tag.toNat : Int) == 6) = false := ne 6 (by decide) t6
  rw [ic] at hn
  obtain ⟨nk, nv, nh, nz, nl, nr⟩ := n
  simp only at hl hr
  have ll : (dI nl).length = 32 := by rw [len_dI, hl]
  have lr : (dI nr).length = 32 := by rw [len_dI, hr]
  have kz := csz_pV nk
  have kg := cag_pV nk
  have vz := csz_pV nv
  have vg := cag_pV nv
  generalize (tag.toNat : Int) = T at *
  refine ⟨[], ?_⟩
  rw [loopX_eq]
  simp only [rS, dH, Nd.cv, List.reduceReplicate]
  simp (maxSteps := 1000000) [p11_l0, hi, hI, hn, ll, lr, kz, kg, vz, vg, frzA, n1, n2, n3, n4, n5, n6]
end Go.Fm

/-
  A part of the proof: PDec.
-/
import Derived.Test.YtjmjijgnbjkpnaaPParse2
set_option linter.all false
set_option autoImplicit true
/-
  tlv.Value, nodes.Decode of any bytes (the plain seat).
-/
set_option autoImplicit false
set_option maxRecDepth 100000
set_option linter.unusedVariables false
set_option linter.unusedSimpArgs false
namespace Go.Fm
open Go Go.Proofs
def valF (acc : Int) (l : List UInt8) : Int := l.foldl (fun n c => iOr .u64 (iShl .u64 n 8) (c.toNat : Int)) acc
/-- What Value answers. -/
def valL (l : List UInt8) : Int × Int := if 8 < l.length ∨ l.head? = some 0 then (0, 7) else (valF 0 l, 0)
theorem val_loop (b : Bool) (l : List UInt8) (hm : l.length ≤ 1000) : ∀ (rest pre : List UInt8) (acc : Int), l = pre ++ rest →
    loopX 0 (p31_l0 b (callX (cfg b) An) 0) [.c (.int .u64 acc), .c (.sl 1 (bytesAV l)), .c (.int .i64 (l.length : Int)), .c (.int .i64 (pre.length : Int))] [] = some (.exit 0 [.c (.int .u64 (valF acc rest))], [])
  | [], pre, acc, h => by
    rw [List.append_nil] at h
    rw [← h, loopX_eq]
    simp [p31_l0, valF]
  | x :: rest, pre, acc, h => by
    have hl : pre.length < l.length := by rw [h]; simp
    have hI : (pre.length : Int) < (l.length : Int) := by omega
    have ha : iAdd .i64 (pre.length : Int) 1 = (pre.length : Int) + 1 := by unfold iAdd; rw [i64_small (by omega) (by omega)]
    have hn : nthC (bytesAV l) pre.length = .int .u8 (x.toNat : Int) := by rw [h]; simp [nthC, bytesAV, List.getD_eq_getElem?_getD]
    have w : IntKind.u64.wrap (x.toNat : Int) = (x.toNat : Int) := u64_small (by omega) (by have := x.toNat_lt; omega)
    have ih := val_loop b l hm rest (pre ++ [x]) (iOr .u64 (iShl .u64 acc 8) (x.toNat : Int)) (by rw [h]; simp)
    have e : (((pre ++ [x]).length : Nat) : Int) = (pre.length : Int) + 1 := by simp
    rw [e] at ih
    have ev : valF acc (x :: rest) = valF (iOr .u64 (iShl .u64 acc 8) (x.toNat : Int)) rest := rfl
    rw [ev, ← ih]
    conv => lhs; rw [loopX_eq]
    have hlen : (bytesAV l).length = l.length := by simp
    clear ih h
    generalize bytesAV l = B at *
    simp [p31_l0, hl, hI, hn, ha, w, hlen]
theorem value_fn (b : Bool) (l : List UInt8) (h0 : 0 < l.length) (hm : l.length ≤ 1000000) : fnX (cfg b) An 31 [.c (.sl 1 (bytesAV l))] [] = some (.tup [.c (.int .u64 (valL l).1), .c (.int .i64 (valL l).2)], []) := by
  rw [fnX_eq, p31_eq]
  match l, h0, hm with
  | x :: r, h0, hm =>
    have hb : bytesAV (x :: r) = .int .u8 (x.toNat : Int) :: bytesAV r := rfl
    simp only [List.length_cons] at hm
    by_cases h8 : 8 < (x :: r).length
    · have e : valL (x :: r) = (0, 7) := by unfold valL; rw [if_pos (.inl h8)]
      simp only [List.length_cons] at h8
      have g1 : (8 : Int) < (r.length : Int) + 1 := by omega
      rw [e, hb]
      simp [p31, g1]
    · simp only [List.length_cons] at h8
      have g1 : ¬ (8 : Int) < (r.length : Int) + 1 := by omega
      have g2 : (0 : Int) < (r.length : Int) + 1 := by omega
      by_cases hx : x = 0
      · have e : valL (x :: r) = (0, 7) := by unfold valL; rw [if_pos (.inr (by rw [hx]; rfl))]
        have g3 : ((x.toNat : Int) == 0) = true := by rw [hx]; rfl
        rw [e, hb]
        simp [p31, g1, g2, g3, nthC0]
      · have e : valL (x :: r) = (valF 0 (x :: r), 0) := by
          unfold valL
          rw [if_neg]
          intro h
          rcases h with h | h
          · simp only [List.length_cons] at h; omega
          · simp at h; exact hx h
        have g3 : ((x.toNat : Int) == 0) = false := by
          have : x.toNat ≠ 0 := fun h => hx (by rw [← UInt8.toNat_inj]; exact h)
          simp; omega
        have lp := val_loop b (x :: r) (by simp; omega) (x :: r) [] 0 rfl
        have z0 : ((([] : List UInt8).length : Nat) : Int) = 0 := rfl
        have z1 : (((x :: r).length : Nat) : Int) = (r.length : Int) + 1 := by simp
        rw [z0, z1, hb] at lp
        rw [e, hb]
        generalize valF 0 (x :: r) = V at *
        simp [p31, g1, g2, g3, nthC0, lp]
def apiZ : CV := .agg [.nilsl, .nilsl, .int .i64 0, .int .u64 0, .arr 32 .u8 (List.replicate 32 0), .arr 32 .u8 (List.replicate 32 0)]
def dH (n : Nd) : Heap := [.var 27 (.c (.agg [.nilsl, .nilsl, .int .i64 0, .int .u64 0, .arr 32 .u8 (List.replicate 32 0), .arr 32 .u8 (List.replicate 32 0)])), .var 27 (.c n.cv)]
def dS (o : Option (List UInt8)) (M : List CV) (i : Int) : List AV := [.c (pV o), .ov 0 [] 0, .ov 1 [] 0, .c (.sl 2 M), .c (.int .i64 (M.length : Int)), .c (.int .i64 i)]
set_option maxHeartbeats 8000000 in
theorem dst_1 (b : Bool) (o : Option (List UInt8)) (M : List CV) (i : Nat) (hi : i < M.length) (hm : M.length ≤ 1000000) (n : Nd) (hl : n.l.length = 32) (hr : n.r.length = 32) (v : List UInt8) (h0 : 0 < v.length) (hv : v.length ≤ 1000000) (hn : nthC M i = itC (1, v)) :
    loopX 0 (p10_l0 b (callX (cfg b) An) 0) (dS o M (i : Int)) (dH n) = loopX 0 (p10_l0 b (callX (cfg b) An) 0) (dS o M ((i : Int) + 1)) (dH { n with k := some v }) := by
  have hI : (i : Int) < (M.length : Int) := by omega
  have ha : iAdd .i64 (i : Int) 1 = (i : Int) + 1 := by unfold iAdd; rw [i64_small (by omega) (by omega)]
  have ic : itC (1, v) = .agg [.int .u8 1, .sl 1 (bytesAV v)] := rfl
  rw [ic] at hn
  obtain ⟨nk, nv, nh, nz, nl, nr⟩ := n
  simp only at hl hr
  have ll : (dI nl).length = 32 := by rw [len_dI, hl]
  have lr : (dI nr).length = 32 := by rw [len_dI, hr]
  have kz := csz_pV nk
  have kg := cag_pV nk
  have vz := csz_pV nv
  have vg := cag_pV nv
  have pv : pV (some v) = .sl 1 (bytesAV v) := rfl
  rw [loopX_eq]
  simp only [dS, dH, Nd.cv, pv, List.reduceReplicate]
  simp (maxSteps := 1000000) [p10_l0, hi, hI, hn, ha, ll, lr, kz, kg, vz, vg, frzA]
  exact loopX_gc (by simp [kz, kg, vz, vg]) (by simp [kz, kg, vz, vg])
set_option maxHeartbeats 8000000 in
theorem dst_2 (b : Bool) (o : Option (List UInt8)) (M : List CV) (i : Nat) (hi : i < M.length) (hm : M.length ≤ 1000000) (n : Nd) (hl : n.l.length = 32) (hr : n.r.length = 32) (v : List UInt8) (h0 : 0 < v.length) (hv : v.length ≤ 1000000) (hn : nthC M i = itC (2, v)) :
    loopX 0 (p10_l0 b (callX (cfg b) An) 0) (dS o M (i : Int)) (dH n) = loopX 0 (p10_l0 b (callX (cfg b) An) 0) (dS o M ((i : Int) + 1)) (dH { n with v := some v }) := by
  have hI : (i : Int) < (M.length : Int) := by omega
  have ha : iAdd .i64 (i : Int) 1 = (i : Int) + 1 := by unfold iAdd; rw [i64_small (by omega) (by omega)]
  have ic : itC (2, v) = .agg [.int .u8 2, .sl 1 (bytesAV v)] := rfl
  rw [ic] at hn
  obtain ⟨nk, nv, nh, nz, nl, nr⟩ := n
  simp only at hl hr
  have ll : (dI nl).length = 32 := by rw [len_dI, hl]
  have lr : (dI nr).length = 32 := by rw [len_dI, hr]
  have kz := csz_pV nk
  have kg := cag_pV nk
  have vz := csz_pV nv
  have vg := cag_pV nv
  have pv : pV (some v) = .sl 1 (bytesAV v) := rfl
  rw [loopX_eq]
  simp only [dS, dH, Nd.cv, pv, List.reduceReplicate]
  simp (maxSteps := 1000000) [p10_l0, hi, hI, hn, ha, ll, lr, kz, kg, vz, vg, frzA]
  exact loopX_gc (by simp [kz, kg, vz, vg]) (by simp [kz, kg, vz, vg])
set_option maxHeartbeats 8000000 in
theorem dst_3 (b : Bool) (o : Option (List UInt8)) (M : List CV) (i : Nat) (hi : i < M.length) (hm : M.length ≤ 1000000) (n : Nd) (hl : n.l.length = 32) (hr : n.r.length = 32) (v : List UInt8) (h0 : 0 < v.length) (hv : v.length ≤ 1000000) (hc : (valL v).2 = 0) (hn : nthC M i = itC (3, v)) :
    loopX 0 (p10_l0 b (callX (cfg b) An) 0) (dS o M (i : Int)) (dH n) = loopX 0 (p10_l0 b (callX (cfg b) An) 0) (dS o M ((i : Int) + 1)) (dH { n with h := IntKind.i64.wrap (if 65 < (valL v).1 then 65 else (valL v).1) }) := by
  have hI : (i : Int) < (M.length : Int) := by omega
  have ha : iAdd .i64 (i : Int) 1 = (i : Int) + 1 := by unfold iAdd; rw [i64_small (by omega) (by omega)]
  have ic : itC (3, v) = .agg [.int .u8 3, .sl 1 (bytesAV v)] := rfl
  rw [ic] at hn
  obtain ⟨nk, nv, nh, nz, nl, nr⟩ := n
  simp only at hl hr
  have ll : (dI nl).length = 32 := by rw [len_dI, hl]
  have lr : (dI nr).length = 32 := by rw [len_dI, hr]
  have vc : ∀ H, callX (cfg b) An 31 [.c (.sl 1 (bytesAV v))] H = _ := callX_pure (value_fn b v h0 hv) rfl rfl (prim_none' (by decide))
  rw [hc] at vc
  generalize (valL v).1 = V at *
  have kz := csz_pV nk
  have kg := cag_pV nk
  have vz := csz_pV nv
  have vg := cag_pV nv
  have pv : pV (some v) = .sl 1 (bytesAV v) := rfl
  rw [loopX_eq]
  simp only [dS, dH, Nd.cv, pv, List.reduceReplicate]
  simp (maxSteps := 1000000) [p10_l0, hi, hI, hn, ha, ll, lr, kz, kg, vz, vg, frzA, vc]
  exact loopX_gc (by simp [kz, kg, vz, vg]) (by simp [kz, kg, vz, vg])
set_option maxHeartbeats 8000000 in
theorem dst_4 (b : Bool) (o : Option (List UInt8)) (M : List CV) (i : Nat) (hi : i < M.length) (hm : M.length ≤ 1000000) (n : Nd) (hl : n.l.length = 32) (hr : n.r.length = 32) (v : List UInt8) (h0 : 0 < v.length) (hv : v.length ≤ 1000000) (hc : (valL v).2 = 0) (hn : nthC M i = itC (4, v)) :
    loopX 0 (p10_l0 b (callX (cfg b) An) 0) (dS o M (i : Int)) (dH n) = loopX 0 (p10_l0 b (callX (cfg b) An) 0) (dS o M ((i : Int) + 1)) (dH { n with z := (valL v).1 }) := by
  have hI : (i : Int) < (M.length : Int) := by omega
  have ha : iAdd .i64 (i : Int) 1 = (i : Int) + 1 := by unfold iAdd; rw [i64_small (by omega) (by omega)]
  have ic : itC (4, v) = .agg [.int .u8 4, .sl 1 (bytesAV v)] := rfl
  rw [ic] at hn
  obtain ⟨nk, nv, nh, nz, nl, nr⟩ := n
  simp only at hl hr
  have ll : (dI nl).length = 32 := by rw [len_dI, hl]
  have lr : (dI nr).length = 32 := by rw [len_dI, hr]
  have vc : ∀ H, callX (cfg b) An 31 [.c (.sl 1 (bytesAV v))] H = _ := callX_pure (value_fn b v h0 hv) rfl rfl (prim_none' (by decide))
  rw [hc] at vc
  generalize (valL v).1 = V at *
  have kz := csz_pV nk
  have kg := cag_pV nk
  have vz := csz_pV nv
  have vg := cag_pV nv
  have pv : pV (some v) = .sl 1 (bytesAV v) := rfl
  rw [loopX_eq]
  simp only [dS, dH, Nd.cv, pv, List.reduceReplicate]
  simp (maxSteps := 1000000) [p10_l0, hi, hI, hn, ha, ll, lr, kz, kg, vz, vg, frzA, vc]
  exact loopX_gc (by simp [kz, kg, vz, vg]) (by simp [kz, kg, vz, vg])
set_option maxHeartbeats 8000000 in
theorem dst_5 (b : Bool) (o : Option (List UInt8)) (M : List CV) (i : Nat) (hi : i < M.length) (hm : M.length ≤ 1000000) (n : Nd) (hl : n.l.length = 32) (hr : n.r.length = 32) (v : List UInt8) (h0 : 0 < v.length) (hv : v.length ≤ 1000000) (hc : v.length = 32) (hn : nthC M i = itC (5, v)) :
    loopX 0 (p10_l0 b (callX (cfg b) An) 0) (dS o M (i : Int)) (dH n) = loopX 0 (p10_l0 b (callX (cfg b) An) 0) (dS o M ((i : Int) + 1)) (dH { n with l := v }) := by
  have hI : (i : Int) < (M.length : Int) := by omega
  have ha : iAdd .i64 (i : Int) 1 = (i : Int) + 1 := by unfold iAdd; rw [i64_small (by omega) (by omega)]
  have ic : itC (5, v) = .agg [.int .u8 5, .sl 1 (bytesAV v)] := rfl
  rw [ic] at hn
  obtain ⟨nk, nv, nh, nz, nl, nr⟩ := n
  simp only at hl hr
  have ll : (dI nl).length = 32 := by rw [len_dI, hl]
  have lr : (dI nr).length = 32 := by rw [len_dI, hr]
  have dl := take_av v 32 hc
  have i1 : intsC .u8 (bytesAV v) = some (dI v) := by rw [← dI_map v]; exact intsC_map _ _
  have dv : (dI v).length = 32 := by rw [len_dI, hc]
  have kz := csz_pV nk
  have kg := cag_pV nk
  have vz := csz_pV nv
  have vg := cag_pV nv
  have pv : pV (some v) = .sl 1 (bytesAV v) := rfl
  rw [loopX_eq]
  simp only [dS, dH, Nd.cv, pv, List.reduceReplicate]
  simp (maxSteps := 1000000) [p10_l0, hi, hI, hn, ha, ll, lr, kz, kg, vz, vg, frzA, hc, dl, i1, dv]
  exact loopX_gc (by simp [kz, kg, vz, vg]) (by simp [kz, kg, vz, vg])
set_option maxHeartbeats 8000000 in
theorem dst_6 (b : Bool) (o : Option (List UInt8)) (M : List CV) (i : Nat) (hi : i < M.length) (hm : M.length ≤ 1000000) (n : Nd) (hl : n.l.length = 32) (hr : n.r.length = 32) (v : List UInt8) (h0 : 0 < v.length) (hv : v.length ≤ 1000000) (hc : v.length = 32) (hn : nthC M i = itC (6, v)) :
    loopX 0 (p10_l0 b (callX (cfg b) An) 0) (dS o M (i : Int)) (dH n) = loopX 0 (p10_l0 b (callX (cfg b) An) 0) (dS o M ((i : Int) + 1)) (dH { n with r := v }) := by
  have hI : (i : Int) < (M.length : Int) := by omega
  have ha : iAdd .i64 (i : Int) 1 = (i : Int) + 1 := by unfold iAdd; rw [i64_small (by omega) (by omega)]
  have ic : itC (6, v) = .agg [.int .u8 6, .sl 1 (bytesAV v)] := rfl
  rw [ic] at hn
  obtain ⟨nk, nv, nh, nz, nl, nr⟩ := n
  simp only at hl hr
  have ll : (dI nl).length = 32 := by rw [len_dI, hl]
  have lr : (dI nr).length = 32 := by rw [len_dI, hr]
  have dl := take_av v 32 hc
  have i1 : intsC .u8 (bytesAV v) = some (dI v) := by rw [← dI_map v]; exact intsC_map _ _
  have dv : (dI v).length = 32 := by rw [len_dI, hc]
  have kz := csz_pV nk
  have kg := cag_pV nk
  have vz := csz_pV nv
  have vg := cag_pV nv
  have pv : pV (some v) = .sl 1 (bytesAV v) := rfl
  rw [loopX_eq]
  simp only [dS, dH, Nd.cv, pv, List.reduceReplicate]
  simp (maxSteps := 1000000) [p10_l0, hi, hI, hn, ha, ll, lr, kz, kg, vz, vg, frzA, hc, dl, i1, dv]
  exact loopX_gc (by simp [kz, kg, vz, vg]) (by simp [kz, kg, vz, vg])
set_option maxHeartbeats 8000000 in
theorem dbd_3 (b : Bool) (o : Option (List UInt8)) (M : List CV) (i : Nat) (hi : i < M.length) (n : Nd) (hl : n.l.length = 32) (hr : n.r.length = 32) (v : List UInt8) (h0 : 0 < v.length) (hv : v.length ≤ 1000000) (hc : (valL v).2 ≠ 0) (hn : nthC M i = itC (3, v)) :
    ∃ B, loopX 0 (p10_l0 b (callX (cfg b) An) 0) (dS o M (i : Int)) (dH n) = some (.ret [.c (pV o), .ov 0 [] 0, .c (.int .i64 ((valL v).2)), .ov 1 [] 0], dH n ++ B) := by
  have hI : (i : Int) < (M.length : Int) := by omega
  have ic : itC (3, v) = .agg [.int .u8 3, .sl 1 (bytesAV v)] := rfl
  rw [ic] at hn
  obtain ⟨nk, nv, nh, nz, nl, nr⟩ := n
  simp only at hl hr
  have ll : (dI nl).length = 32 := by rw [len_dI, hl]
  have lr : (dI nr).length = 32 := by rw [len_dI, hr]
  have vc : ∀ H, callX (cfg b) An 31 [.c (.sl 1 (bytesAV v))] H = _ := callX_pure (value_fn b v h0 hv) rfl rfl (prim_none' (by decide))
  generalize (valL v).1 = V at *
  generalize (valL v).2 = E at *
  have hcb : (E != 0) = true := by simpa using hc
  have kz := csz_pV nk
  have kg := cag_pV nk
  have vz := csz_pV nv
  have vg := cag_pV nv
  refine ⟨[.var 72 (.c (.agg [.int .u8 3, .sl 1 (bytesAV v)]))], ?_⟩
  rw [loopX_eq]
  simp only [dS, dH, Nd.cv, List.reduceReplicate]
  simp (maxSteps := 1000000) [p10_l0, hi, hI, hn, ll, lr, kz, kg, vz, vg, frzA, vc, hcb]
set_option maxHeartbeats 8000000 in
theorem dbd_4 (b : Bool) (o : Option (List UInt8)) (M : List CV) (i : Nat) (hi : i < M.length) (n : Nd) (hl : n.l.length = 32) (hr : n.r.length = 32) (v : List UInt8) (h0 : 0 < v.length) (hv : v.length ≤ 1000000) (hc : (valL v).2 ≠ 0) (hn : nthC M i = itC (4, v)) :
    ∃ B, loopX 0 (p10_l0 b (callX (cfg b) An) 0) (dS o M (i : Int)) (dH n) = some (.ret [.c (pV o), .ov 0 [] 0, .c (.int .i64 ((valL v).2)), .ov 1 [] 0], dH n ++ B) := by
  have hI : (i : Int) < (M.length : Int) := by omega
  have ic : itC (4, v) = .agg [.int .u8 4, .sl 1 (bytesAV v)] := rfl
  rw [ic] at hn
  obtain ⟨nk, nv, nh, nz, nl, nr⟩ := n
  simp only at hl hr
  have ll : (dI nl).length = 32 := by rw [len_dI, hl]
  have lr : (dI nr).length = 32 := by rw [len_dI, hr]
  have vc : ∀ H, callX (cfg b) An 31 [.c (.sl 1 (bytesAV v))] H = _ := callX_pure (value_fn b v h0 hv) rfl rfl (prim_none' (by decide))
  generalize (valL v).1 = V at *
  generalize (valL v).2 = E at *
  have hcb : (E != 0) = true := by simpa using hc
  have kz := csz_pV nk
  have kg := cag_pV nk
  have vz := csz_pV nv
  have vg := cag_pV nv
  refine ⟨[.var 72 (.c (.agg [.int .u8 4, .sl 1 (bytesAV v)]))], ?_⟩
  rw [loopX_eq]
  simp only [dS, dH, Nd.cv, List.reduceReplicate]
  simp (maxSteps := 1000000) [p10_l0, hi, hI, hn, ll, lr, kz, kg, vz, vg, frzA, vc, hcb]
set_option maxHeartbeats 8000000 in
theorem dbd_5 (b : Bool) (o : Option (List UInt8)) (M : List CV) (i : Nat) (hi : i < M.length) (n : Nd) (hl : n.l.length = 32) (hr : n.r.length = 32) (v : List UInt8) (h0 : 0 < v.length) (hv : v.length ≤ 1000000) (hc : v.length ≠ 32) (hn : nthC M i = itC (5, v)) :
    ∃ B, loopX 0 (p10_l0 b (callX (cfg b) An) 0) (dS o M (i : Int)) (dH n) = some (.ret [.c (pV o), .ov 0 [] 0, .c (.int .i64 (7)), .ov 1 [] 0], dH n ++ B) := by
  have hI : (i : Int) < (M.length : Int) := by omega
  have ic : itC (5, v) = .agg [.int .u8 5, .sl 1 (bytesAV v)] := rfl
  rw [ic] at hn
  obtain ⟨nk, nv, nh, nz, nl, nr⟩ := n
  simp only at hl hr
  have ll : (dI nl).length = 32 := by rw [len_dI, hl]
  have lr : (dI nr).length = 32 := by rw [len_dI, hr]
  have hcI : ((v.length : Int) != 32) = true := by simp; omega
  have kz := csz_pV nk
  have kg := cag_pV nk
  have vz := csz_pV nv
  have vg := cag_pV nv
  refine ⟨[.var 72 (.c (.agg [.int .u8 5, .sl 1 (bytesAV v)]))], ?_⟩
  rw [loopX_eq]
  simp only [dS, dH, Nd.cv, List.reduceReplicate]
  simp (maxSteps := 1000000) [p10_l0, hi, hI, hn, ll, lr, kz, kg, vz, vg, frzA, hcI]
set_option maxHeartbeats 8000000 in
theorem dbd_6 (b : Bool) (o : Option (List UInt8)) (M : List CV) (i : Nat) (hi : i < M.length) (n : Nd) (hl : n.l.length = 32) (hr : n.r.length = 32) (v : List UInt8) (h0 : 0 < v.length) (hv : v.length ≤ 1000000) (hc : v.length ≠ 32) (hn : nthC M i = itC (6, v)) :
    ∃ B, loopX 0 (p10_l0 b (callX (cfg b) An) 0) (dS o M (i : Int)) (dH n) = some (.ret [.c (pV o), .ov 0 [] 0, .c (.int .i64 (7)), .ov 1 [] 0], dH n ++ B) := by
  have hI : (i : Int) < (M.length : Int) := by omega
  have ic : itC (6, v) = .agg [.int .u8 6, .sl 1 (bytesAV v)] := rfl
  rw [ic] at hn
  obtain ⟨nk, nv, nh, nz, nl, nr⟩ := n
  simp only at hl hr
  have ll : (dI nl).length = 32 := by rw [len_dI, hl]
  have lr : (dI nr).length = 32 := by rw [len_dI, hr]
  have hcI : ((v.length : Int) != 32) = true := by simp; omega
  have kz := csz_pV nk
  have kg := cag_pV nk
  have vz := csz_pV nv
  have vg := cag_pV nv
  refine ⟨[.var 72 (.c (.agg [.int .u8 6, .sl 1 (bytesAV v)]))], ?_⟩
  rw [loopX_eq]
  simp only [dS, dH, Nd.cv, List.reduceReplicate]
  simp (maxSteps := 1000000) [p10_l0, hi, hI, hn, ll, lr, kz, kg, vz, vg, frzA, hcI]
set_option maxHeartbeats 8000000 in
theorem dbd_x (b : Bool) (o : Option (List UInt8)) (M : List CV) (i : Nat) (hi : i < M.length) (n : Nd) (hl : n.l.length = 32) (hr : n.r.length = 32) (tag : UInt8) (v : List UInt8) (t1 : tag ≠ 1) (t2 : tag ≠ 2) (t3 : tag ≠ 3) (t4 : tag ≠ 4) (t5 : tag ≠ 5) (t6 : tag ≠ 6) (hn : nthC M i = itC (tag, v)) :
    ∃ B, loopX 0 (p10_l0 b (callX (cfg b) An) 0) (dS o M (i : Int)) (dH n) = some (.ret [.c (pV o), .ov 0 [] 0, .c (.int .i64 8), .ov 1 [] 0], dH n ++ B) := by
  have hI : (i : Int) < (M.length : Int) := by omega
  have ic : itC (tag, v) = .agg [.int .u8 (tag.toNat : Int), .sl 1 (bytesAV v)] := rfl
  have ne (k : Nat) (hk : k < 256) (h : tag ≠ UInt8.ofNat k) : ((tag.toNat : Int) == (k : Int)) = false := by
    have : tag.toNat ≠ k := fun e => h (by rw [← UInt8.toNat_inj, e]; simp [UInt8.toNat_ofNat']; omega)
    simp; omega
  have n1 : ((tag.toNat : Int) == 1) = false := ne 1 (by decide) t1
  have n2 : ((tag.toNat : Int) == 2) = false := ne 2 (by decide) t2
  have n3 : ((tag.toNat : Int) == 3) = false := ne 3 (by decide) t3
  have n4 : ((tag.toNat : Int) == 4) = false := ne 4 (by decide) t4
  have n5 : ((tag.toNat : Int) == 5) = false := ne 5 (by decide) t5
  have n6 : ((tag.toNat : Int) == 6) = false := ne 6 (by decide) t6
  rw [ic] at hn
  obtain ⟨nk, nv, nh, nz, nl, nr⟩ := n
  simp only at hl hr
  have ll : (dI nl).length = 32 := by rw [len_dI, hl]
  have lr : (dI nr).length = 32 := by rw [len_dI, hr]
  have kz := csz_pV nk
  have kg := cag_pV nk
  have vz := csz_pV nv
  have vg := cag_pV nv
  generalize (tag.toNat : Int) = T at *
  refine ⟨[.var 72 (.c (.agg [.int .u8 T, .sl 1 (bytesAV v)]))], ?_⟩
  rw [loopX_eq]
  simp only [dS, dH, Nd.cv, List.reduceReplicate]
  simp (maxSteps := 1000000) [p10_l0, hi, hI, hn, ll, lr, kz, kg, vz, vg, frzA, n1, n2, n3, n4, n5, n6]
/-- What Decode makes of fields. -/
def decF : Nd → List It → Nd × Int
  | n, [] => (n, 0)
  | n, (t, v) :: r =>
    if t = 1 then decF { n with k := some v } r
    else if t = 2 then decF { n with v := some v } r
    else if t = 3 then (if (valL v).2 = 0 then decF { n with h := IntKind.i64.wrap (if 65 < (valL v).1 then 65 else (valL v).1) } r else (n, (valL v).2))
    else if t = 4 then (if (valL v).2 = 0 then decF { n with z := (valL v).1 } r else (n, (valL v).2))
    else if t = 5 then (if v.length = 32 then decF { n with l := v } r else (n, 7))
    else if t = 6 then (if v.length = 32 then decF { n with r := v } r else (n, 7))
    else (n, 8)
theorem dec_loop (b : Bool) (o : Option (List UInt8)) (its : List It) (hm : its.length ≤ 1000000) (hi : ∀ p ∈ its, 0 < p.2.length ∧ p.2.length ≤ 1000000) : ∀ (rest pre : List It) (n : Nd), its = pre ++ rest → n.l.length = 32 → n.r.length = 32 →
    ((decF n rest).2 = 0 ∧ (decF n rest).1.l.length = 32 ∧ (decF n rest).1.r.length = 32 ∧ loopX 0 (p10_l0 b (callX (cfg b) An) 0) (dS o (its.map itC) (pre.length : Int)) (dH n) = some (.exit 0 [.c (pV o), .ov 0 [] 0, .any, .ov 1 [] 0], dH (decF n rest).1)) ∨
    ((decF n rest).2 ≠ 0 ∧ ∃ n' B, n'.l.length = 32 ∧ n'.r.length = 32 ∧ loopX 0 (p10_l0 b (callX (cfg b) An) 0) (dS o (its.map itC) (pre.length : Int)) (dH n) = some (.ret [.c (pV o), .ov 0 [] 0, .c (.int .i64 (decF n rest).2), .ov 1 [] 0], dH n' ++ B))
  | [], pre, n, h, hl, hr => by
    refine .inl ⟨rfl, hl, hr, ?_⟩
    have e : (decF n []).1 = n := rfl
    rw [List.append_nil] at h
    rw [e, ← h, loopX_eq]
    have ll : (dI n.l).length = 32 := by rw [len_dI, hl]
    have lr : (dI n.r).length = 32 := by rw [len_dI, hr]
    simp only [dS, dH, Nd.cv, List.reduceReplicate]
    simp [p10_l0]
  | (t, v) :: rest, pre, n, h, hl, hr => by
    have hlt : pre.length < (its.map itC).length := by rw [h]; simp
    have hml : (its.map itC).length ≤ 1000000 := by simpa using hm
    have hn : nthC (its.map itC) pre.length = itC (t, v) := by rw [h]; simp [nthC, List.getD_eq_getElem?_getD]
    obtain ⟨h0, hv⟩ := hi (t, v) (by rw [h]; simp)
    simp only at h0 hv
    have ih := fun m => dec_loop b o its hm hi rest (pre ++ [(t, v)]) m (by rw [h]; simp)
    have e : (((pre ++ [(t, v)]).length : Nat) : Int) = (pre.length : Int) + 1 := by simp
    rw [e] at ih
    by_cases t1 : t = 1
    · subst t1
      have ed : decF n ((1, v) :: rest) = decF { n with k := some v } rest := by simp only [decF, if_true]
      rw [ed, dst_1 b o _ pre.length hlt hml n hl hr v h0 hv hn]
      exact ih _ hl hr
    by_cases t2 : t = 2
    · subst t2
      have ed : decF n ((2, v) :: rest) = decF { n with v := some v } rest := rfl
      rw [ed, dst_2 b o _ pre.length hlt hml n hl hr v h0 hv hn]
      exact ih _ hl hr
    by_cases t3 : t = 3
    · subst t3
      by_cases hc : (valL v).2 = 0
      · have ed : decF n ((3, v) :: rest) = decF { n with h := IntKind.i64.wrap (if 65 < (valL v).1 then 65 else (valL v).1) } rest := if_pos hc
        rw [ed, dst_3 b o _ pre.length hlt hml n hl hr v h0 hv hc hn]
        exact ih _ hl hr
      · have ed : decF n ((3, v) :: rest) = (n, (valL v).2) := if_neg hc
        rw [ed]
        obtain ⟨B, hB⟩ := dbd_3 b o _ pre.length hlt n hl hr v h0 hv hc hn
        exact .inr ⟨hc, n, B, hl, hr, hB⟩
    by_cases t4 : t = 4
    · subst t4
      by_cases hc : (valL v).2 = 0
      · have ed : decF n ((4, v) :: rest) = decF { n with z := (valL v).1 } rest := if_pos hc
        rw [ed, dst_4 b o _ pre.length hlt hml n hl hr v h0 hv hc hn]
        exact ih _ hl hr
      · have ed : decF n ((4, v) :: rest) = (n, (valL v).2) := if_neg hc
        rw [ed]
        obtain ⟨B, hB⟩ := dbd_4 b o _ pre.length hlt n hl hr v h0 hv hc hn
        exact .inr ⟨hc, n, B, hl, hr, hB⟩
    by_cases t5 : t = 5
    · subst t5
      by_cases hc : v.length = 32
      · have ed : decF n ((5, v) :: rest) = decF { n with l := v } rest := if_pos hc
        rw [ed, dst_5 b o _ pre.length hlt hml n hl hr v h0 hv hc hn]
        exact ih _ hc hr
      · have ed : decF n ((5, v) :: rest) = (n, 7) := if_neg hc
        rw [ed]
        obtain ⟨B, hB⟩ := dbd_5 b o _ pre.length hlt n hl hr v h0 hv hc hn
        exact .inr ⟨by simp, n, B, hl, hr, hB⟩
    by_cases t6 : t = 6
    · subst t6
      by_cases hc : v.length = 32
      · have ed : decF n ((6, v) :: rest) = decF { n with r := v } rest := if_pos hc
        rw [ed, dst_6 b o _ pre.length hlt hml n hl hr v h0 hv hc hn]
        exact ih _ hl hc
      · have ed : decF n ((6, v) :: rest) = (n, 7) := if_neg hc
        rw [ed]
        obtain ⟨B, hB⟩ := dbd_6 b o _ pre.length hlt n hl hr v h0 hv hc hn
        exact .inr ⟨by simp, n, B, hl, hr, hB⟩
    have ed : decF n ((t, v) :: rest) = (n, 8) := by simp only [decF, if_neg t1, if_neg t2, if_neg t3, if_neg t4, if_neg t5, if_neg t6]
    rw [ed]
    obtain ⟨B, hB⟩ := dbd_x b o _ pre.length hlt n hl hr t v t1 t2 t3 t4 t5 t6 hn
    exact .inr ⟨by simp, n, B, hl, hr, hB⟩
end Go.Fm

/-
  A part of the proof: PRfE.
-/
import Derived.Test.YtjmjijgnbjkpnaaPRfD
set_option linter.all false
set_option autoImplicit true
/-
  ferrymanref05.Encode (the plain seat).
-/
set_option autoImplicit false
set_option maxRecDepth 100000
set_option linter.unusedVariables false
set_option linter.unusedSimpArgs false
namespace Go.Fm
open Go Go.Proofs
theorem cf_PRfE_eb3d9216 : clashFree [0, 0, 2, 7, 0, 16, 63, 127, 255] [(false, [], 2, 2), (false, [0], 2, 2), (true, [0], 2, 2), (false, [], 2, 2), (false, [0], 2, 2), (false, [0], 2, 2), (false, [], 2, 2), (false, [], 2, 2), (false, [], 2, 2)] = false := by decide
attribute [simp] cf_PRfE_eb3d9216
/-! CF -/
set_option maxHeartbeats 8000000 in
theorem renc_key (b : Bool) (n : Nd) (hl : n.l.length = 32) (hr : n.r.length = 32) (hk : (pB n.k).length = 0 ∨ 96 < (pB n.k).length) : fnX (cfg b) An 8 [.c n.cv] [] = some (.tup [.c .nilsl, .c (.int .i64 10)], []) := by
  rw [fnX_eq, p8_eq]
  have ll : (dI n.l).length = 32 := by rw [len_dI, hl]
  have lr : (dI n.r).length = 32 := by rw [len_dI, hr]
  have lk := fun H => lenOf_pV H n.k
  have kz := csz_pV n.k
  have kg := cag_pV n.k
  have vz := csz_pV n.v
  have vg := cag_pV n.v
  simp only [Nd.cv]
  rcases hk with hk | hk
  · have h1 : ((pB n.k).length : Int) = 0 := by omega
    have h2 : pB n.k = [] := List.length_eq_zero_iff.1 hk
    simp [p8, lk, hk, h1, h2, kz, kg, vz, vg, ll, lr, frzA]
  · have h1 : (96 : Int) < ((pB n.k).length : Int) := by omega
    have h2 : ¬ (pB n.k).length = 0 := by omega
    have h3 : ¬ pB n.k = [] := by intro e; rw [e] at h2; simp at h2
    have h4 : ¬ ((pB n.k).length : Int) < 1 := by omega
    simp [p8, lk, hk, h1, h2, h3, h4, kz, kg, vz, vg, ll, lr, frzA]
set_option maxHeartbeats 16000000 in
theorem renc_bad (b : Bool) (n : Nd) (hl : n.l.length = 32) (hr : n.r.length = 32) (hk : 0 < (pB n.k).length) (hk2 : (pB n.k).length ≤ 96) (hb : n.badB) : fnX (cfg b) An 8 [.c n.cv] [] = some (.tup [.c .nilsl, .c (.int .i64 12)], []) := by
  rw [fnX_eq, p8_eq]
  have ll : (dI n.l).length = 32 := by rw [len_dI, hl]
  have lr : (dI n.r).length = 32 := by rw [len_dI, hr]
  have lk := fun H => lenOf_pV H n.k
  have lv := fun H => lenOf_pV H n.v
  have kz := csz_pV n.k
  have kg := cag_pV n.k
  have vz := csz_pV n.v
  have vg := cag_pV n.v
  have h1 : ¬ (96 : Int) < ((pB n.k).length : Int) := by omega
  have h2 : ¬ (pB n.k).length = 0 := by omega
  have h3 : ¬ pB n.k = [] := by intro e; rw [e] at h2; simp at h2
  have h4 : ¬ ((pB n.k).length : Int) < 1 := by omega
  have dl := dI_bne n.l
  have dr := dI_bne n.r
  obtain ⟨k, v, h, z, l, r⟩ := n
  simp only [Nd.cv, Nd.badB] at *
  by_cases a1 : h < 0
  · simp [p8, lk, lv, h1, h2, h3, h4, kz, kg, vz, vg, ll, lr, frzA, a1]
  · by_cases a2 : 64 < h
    · simp [p8, lk, lv, h1, h2, h3, h4, kz, kg, vz, vg, ll, lr, frzA, a1, a2]
    · by_cases a3 : 0 < h
      · by_cases a4 : 0 < (pB v).length
        · have a4I : (0 : Int) < ((pB v).length : Int) := by omega
          have a5 : ¬ pB v = [] := by intro e; rw [e] at a4; simp at a4
          by_cases a9 : (256 : Int) < ((pB v).length : Int)
          · simp [p8, lk, lv, h1, h2, h3, h4, kz, kg, vz, vg, ll, lr, frzA, a1, a2, a3, a4, a4I, a5, a9]
          · simp [p8, lk, lv, h1, h2, h3, h4, kz, kg, vz, vg, ll, lr, frzA, a1, a2, a3, a4, a4I, a5, a9]
        · exfalso
          rcases hb with hb | hb | hb | hb | hb <;> omega
      · have a6 : h = 0 := by omega
        subst a6
        by_cases a7 : 256 < (pB v).length
        · have a7I : (256 : Int) < ((pB v).length : Int) := by omega
          simp [p8, lk, lv, h1, h2, h3, h4, kz, kg, vz, vg, ll, lr, frzA, a7, a7I]
        · have a7I : ¬ (256 : Int) < ((pB v).length : Int) := by omega
          have hb' : z ≠ 1 ∨ l ≠ zeroL ∨ r ≠ zeroL := by
            rcases hb with hb | hb | hb | hb | hb
            · omega
            · omega
            · omega
            · omega
            · exact hb.2
          have zz : dI zeroL = [0, 0, 0, 0, 0, 0, 0, 0, 0, 0, 0, 0, 0, 0, 0, 0, 0, 0, 0, 0, 0, 0, 0, 0, 0, 0, 0, 0, 0, 0, 0, 0] := by decide
          have ne (x : List UInt8) (hx : ¬ x = zeroL) : ¬ dI x = [0, 0, 0, 0, 0, 0, 0, 0, 0, 0, 0, 0, 0, 0, 0, 0, 0, 0, 0, 0, 0, 0, 0, 0, 0, 0, 0, 0, 0, 0, 0, 0] := by
            rw [← zz]; exact fun e => hx (dI_inj3 e)
          by_cases b1 : z = 1
          · subst b1
            by_cases b2 : l = zeroL
            · by_cases b3 : r = zeroL
              · simp [b2, b3] at hb'
              · have e3 := ne r b3
                have e4 := beq_eq_false_iff_ne.2 e3
                rw [b2] at ll
                simp [p8, lk, lv, h1, h2, h3, h4, kz, kg, vz, vg, ll, lr, frzA, a7, a7I, bne25, b2, zz, e3, e4]
            · have e3 := ne l b2
              have e4 := beq_eq_false_iff_ne.2 e3
              simp [p8, lk, lv, h1, h2, h3, h4, kz, kg, vz, vg, ll, lr, frzA, a7, a7I, bne25, e3, e4]
          · have e5 : (z != 1) = true := by simp [b1]
            simp [p8, lk, lv, h1, h2, h3, h4, kz, kg, vz, vg, ll, lr, frzA, a7, a7I, bne25, e5]
theorem put_any (b : Bool) (o : Option (List UInt8)) (tag : UInt8) (v : Option (List UInt8)) (ho : (pB o).length ≤ 1000000) (hv : (pB v).length ≤ 65535) :
    ∀ H, callX (cfg b) An 28 [.c (pV o), .c (.int .u8 (tag.toNat : Int)), .c (pV v)] H = some (.c (pV (rputO o tag (pB v))), H) := by
  cases v with
  | some l => exact fun H => r01put_call b o tag l ho hv H
  | none =>
    have e : rputO o tag (pB none) = o := if_pos rfl
    rw [e]
    refine callX_pure ?_ rfl rfl (prim_none' (by decide))
    rw [fnX_eq, p28_eq]
    have e1 : pV none = .nilsl := rfl
    rw [e1]
    simp [p28]
/-- A node's bytes, as the document writes them. -/
def Nd.r2 (n : Nd) : Option (List UInt8) := rputO (rputO none 1 (pB n.k)) 2 (pB n.v)
def Nd.r3 (n : Nd) : Option (List UInt8) := rputO n.r2 3 (numR n.h)
def Nd.r4 (n : Nd) : Option (List UInt8) := rputO n.r3 4 (numR n.z)
def Nd.r5 (n : Nd) : Option (List UInt8) := rputO n.r4 5 n.l
def Nd.r6 (n : Nd) : Option (List UInt8) := rputO n.r5 6 n.r
def Nd.renc (n : Nd) : Option (List UInt8) := if n.h = 0 then n.r2 else n.r6
theorem Nd.r2_B (n : Nd) : pB n.r2 = tput (some (tput none 1 n.k)) 2 n.v := by
  unfold Nd.r2
  rw [rputO_B]
  refine tput_congr ?_ rfl
  rw [rputO_B]
  exact tput_congr rfl rfl
theorem Nd.r3_B (n : Nd) : pB n.r3 = tput (some (tput (some (tput none 1 n.k)) 2 n.v)) 3 (numO n.h) := by
  unfold Nd.r3
  rw [rputO_B]
  exact tput_congr n.r2_B (numO_R n.h).symm
theorem Nd.r4_B (n : Nd) : pB n.r4 = tput (some (tput (some (tput (some (tput none 1 n.k)) 2 n.v)) 3 (numO n.h))) 4 (numO n.z) := by
  unfold Nd.r4
  rw [rputO_B]
  exact tput_congr n.r3_B (numO_R n.z).symm
theorem Nd.r5_B (n : Nd) : pB n.r5 = tput (some (tput (some (tput (some (tput (some (tput none 1 n.k)) 2 n.v)) 3 (numO n.h))) 4 (numO n.z))) 5 (some n.l) := by
  unfold Nd.r5
  rw [rputO_B]
  exact tput_congr n.r4_B rfl
theorem Nd.r6_B (n : Nd) : pB n.r6 = tput (some (tput (some (tput (some (tput (some (tput (some (tput none 1 n.k)) 2 n.v)) 3 (numO n.h))) 4 (numO n.z))) 5 (some n.l))) 6 (some n.r) := by
  unfold Nd.r6
  rw [rputO_B]
  exact tput_congr n.r5_B rfl
theorem numO_zero : pB (numO 0) = [] := by decide
theorem Nd.renc_B (n : Nd) (h0 : 0 ≤ n.h) : pB n.renc = n.enc := by
  unfold Nd.renc Nd.enc
  by_cases h : n.h = 0
  · rw [if_pos h, n.r2_B]
    simp only
    rw [if_neg (by omega), h]
    conv => rhs; unfold tput
    rw [if_pos (by rw [numO_zero]; rfl)]
    rfl
  · rw [if_neg h, n.r6_B]
    simp only
    rw [if_pos (by omega)]
set_option maxHeartbeats 16000000 in
theorem renc_good0 (b : Bool) (n : Nd) (hl : n.l.length = 32) (hr : n.r.length = 32) (hk : 0 < (pB n.k).length) (hk2 : (pB n.k).length ≤ 96) (hh : n.h = 0) (hz : n.z = 1) (h1 : n.l = zeroL) (h2 : n.r = zeroL) (hv : (pB n.v).length ≤ 256) :
    fnX (cfg b) An 8 [.c n.cv] [] = some (.tup [.c (pV n.r2), .c (.int .i64 0)], []) := by
  rw [fnX_eq, p8_eq]
  obtain ⟨k, v, h, z, l, r⟩ := n
  simp only at hl hr hk hk2 hh hz h1 h2 hv
  subst hh; subst hz; subst h1; subst h2
  have l1 := tput_len none 1 k
  simp only [pB_s, pB_n, List.length_nil] at l1
  have b1 : pB (rputO none 1 (pB k)) = tput none 1 k := by rw [rputO_B]; exact tput_congr rfl rfl
  have p1 := put_any b none 1 k (by simp [pB_n]) (by omega)
  have p2 := put_any b (rputO none 1 (pB k)) 2 v (by rw [b1]; omega) (by omega)
  have t1 : ((1 : UInt8).toNat : Int) = 1 := rfl
  have t2 : ((2 : UInt8).toNat : Int) = 2 := rfl
  have e1 : pV none = .nilsl := rfl
  have lk := fun H => lenOf_pV H k
  have lv := fun H => lenOf_pV H v
  have kz := csz_pV k
  have kg := cag_pV k
  have vz := csz_pV v
  have vg := cag_pV v
  have k1 : ¬ (96 : Int) < ((pB k).length : Int) := by omega
  have k2 : ¬ (pB k).length = 0 := by omega
  have k3 : ¬ pB k = [] := by intro e; rw [e] at k2; simp at k2
  have k4 : ¬ ((pB k).length : Int) < 1 := by omega
  have hv1 : ¬ (256 : Int) < ((pB v).length : Int) := by omega
  have zz : dI zeroL = [0, 0, 0, 0, 0, 0, 0, 0, 0, 0, 0, 0, 0, 0, 0, 0, 0, 0, 0, 0, 0, 0, 0, 0, 0, 0, 0, 0, 0, 0, 0, 0] := by decide
  have r2e : (Nd.mk k v 0 1 zeroL zeroL).r2 = rputO (rputO none 1 (pB k)) 2 (pB v) := rfl
  rw [r2e]
  simp only [Nd.cv]
  rw [zz]
  generalize rputO (rputO none 1 (pB k)) 2 (pB v) = B2 at *
  generalize rputO none 1 (pB k) = B1 at *
  simp only [t1, t2, e1] at p1 p2
  simp (maxSteps := 1000000) [p8, p8_d0, k1, k2, k3, k4, hv1, lk, lv, kz, kg, vz, vg, p1, p2, bne25, frzA]
set_option maxHeartbeats 16000000 in
theorem renc_good1 (b : Bool) (n : Nd) (hl : n.l.length = 32) (hr : n.r.length = 32) (hk : 0 < (pB n.k).length) (hk2 : (pB n.k).length ≤ 96) (hh : 0 < n.h) (hh2 : n.h ≤ 64) (hv : (pB n.v).length = 0) :
    fnX (cfg b) An 8 [.c n.cv] [] = some (.tup [.c (pV n.r6), .c (.int .i64 0)], []) := by
  rw [fnX_eq, p8_eq]
  have l1 := tput_len none 1 n.k
  have l2 := tput_len (some (tput none 1 n.k)) 2 n.v
  have l3 := tput_len (some (tput (some (tput none 1 n.k)) 2 n.v)) 3 (numO n.h)
  have l4 := tput_len (some (tput (some (tput (some (tput none 1 n.k)) 2 n.v)) 3 (numO n.h))) 4 (numO n.z)
  have l5 := tput_len (some (tput (some (tput (some (tput (some (tput none 1 n.k)) 2 n.v)) 3 (numO n.h))) 4 (numO n.z))) 5 (some n.l)
  simp only [pB_s, pB_n, List.length_nil] at l1 l2 l3 l4 l5
  have n3 := numO_len n.h
  have n4 := numO_len n.z
  have b1 : pB (rputO none 1 (pB n.k)) = tput none 1 n.k := by rw [rputO_B]; exact tput_congr rfl rfl
  have q3 := numR_len n.h
  have q4 := numR_len n.z
  have p1 := put_any b none 1 n.k (by simp [pB_n]) (by omega)
  have p2 := put_any b (rputO none 1 (pB n.k)) 2 n.v (by rw [b1]; omega) (by omega)
  have p3 := r01put_call b n.r2 3 (numR n.h) (by rw [n.r2_B]; omega) (by omega)
  have p4 := r01put_call b n.r3 4 (numR n.z) (by rw [n.r3_B]; omega) (by omega)
  have p5 := r01put_call b n.r4 5 n.l (by rw [n.r4_B]; omega) (by omega)
  have p6 := r01put_call b n.r5 6 n.r (by rw [n.r5_B]; omega) (by omega)
  rw [← Nd.r2] at p2
  rw [← Nd.r3] at p3
  rw [← Nd.r4] at p4
  rw [← Nd.r5] at p5
  rw [← Nd.r6] at p6
  have th := rnum_call b n.h
  have tz := rnum_call b n.z
  have t1 : ((1 : UInt8).toNat : Int) = 1 := rfl
  have t2 : ((2 : UInt8).toNat : Int) = 2 := rfl
  have t3 : ((3 : UInt8).toNat : Int) = 3 := rfl
  have t4 : ((4 : UInt8).toNat : Int) = 4 := rfl
  have t5 : ((5 : UInt8).toNat : Int) = 5 := rfl
  have t6 : ((6 : UInt8).toNat : Int) = 6 := rfl
  have e1 : pV none = .nilsl := rfl
  have lk := fun H => lenOf_pV H n.k
  have lv := fun H => lenOf_pV H n.v
  have kz := csz_pV n.k
  have kg := cag_pV n.k
  have vz := csz_pV n.v
  have vg := cag_pV n.v
  have k1 : ¬ (96 : Int) < ((pB n.k).length : Int) := by omega
  have k2 : ¬ (pB n.k).length = 0 := by omega
  have k3 : ¬ pB n.k = [] := by intro e; rw [e] at k2; simp at k2
  have k4 : ¬ ((pB n.k).length : Int) < 1 := by omega
  have hv0 : pB n.v = [] := List.length_eq_zero_iff.1 hv
  have hv1 : ((pB n.v).length : Int) = 0 := by omega
  have h1 : ¬ n.h < 0 := by omega
  have h2 : ¬ (64 : Int) < n.h := by omega
  have h3 : ¬ n.h = 0 := by omega
  have h3b : (n.h == 0) = false := by simpa using h3
  have w0 : IntKind.u64.wrap n.h = n.h := u64_small (by omega) (by omega)
  have d1 : (dI n.l).length = 32 := by rw [len_dI, hl]
  have d2 : (dI n.r).length = 32 := by rw [len_dI, hr]
  have a1 := dI_map n.l
  have a2 := dI_map n.r
  have g1 := take_av n.l 32 hl
  have g2 := take_av n.r 32 hr
  have h32 : 32 ≤ maxLen := big_max (by decide)
  simp only [Nd.cv]
  generalize n.r6 = B6 at *
  generalize n.r5 = B5 at *
  generalize n.r4 = B4 at *
  generalize n.r3 = B3 at *
  generalize n.r2 = B2 at *
  generalize rputO none 1 (pB n.k) = B1 at *
  generalize numR n.h = N0 at *
  generalize numR n.z = N1 at *
  simp only [t1, t2, t3, t4, t5, t6, e1] at p1 p2 p3 p4 p5 p6
  simp (maxSteps := 1000000) [p8, p8_d0, p8_d1, k1, k2, k3, k4, hv0, hv1, hv, h1, h2, h3, h3b, hh, lk, lv, kz, kg, vz, vg, p1, p2, p3, p4, p5, p6, th, tz, w0, d1, d2, a1, a2, g1, g2, h32, bne25, frzA]
/-- What Encode answers. -/
noncomputable def Nd.rencO (n : Nd) : Option (List UInt8) := if n.encE = 0 then n.renc else none
theorem renc_any (b : Bool) (n : Nd) (hl : n.l.length = 32) (hr : n.r.length = 32) : fnX (cfg b) An 8 [.c n.cv] [] = some (.tup [.c (pV n.rencO), .c (.int .i64 n.encE)], []) ∧ pB n.rencO = pB n.encO := by
  classical
  by_cases h1 : (pB n.k).length = 0 ∨ 96 < (pB n.k).length
  · have e : n.encE = 10 := by unfold Nd.encE; rw [if_pos h1]
    have e2 : n.rencO = none := by unfold Nd.rencO; rw [e]; rfl
    have e3 : n.encO = none := by unfold Nd.encO; rw [e]; rfl
    rw [e, e2, e3]
    exact ⟨renc_key b n hl hr h1, rfl⟩
  · by_cases h2 : n.badB
    · have e : n.encE = 12 := by unfold Nd.encE; rw [if_neg h1, if_pos h2]
      have e2 : n.rencO = none := by unfold Nd.rencO; rw [e]; rfl
      have e3 : n.encO = none := by unfold Nd.encO; rw [e]; rfl
      rw [e, e2, e3]
      exact ⟨renc_bad b n hl hr (by omega) (by omega) h2, rfl⟩
    · have e : n.encE = 0 := by unfold Nd.encE; rw [if_neg h1, if_neg h2]
      have e2 : n.rencO = n.renc := by unfold Nd.rencO; rw [e]; rfl
      have e3 : n.encO = some n.enc := by unfold Nd.encO; rw [e]; rfl
      have hb := h2
      unfold Nd.badB at hb
      have hB := n.renc_B (by omega)
      rw [e, e2, e3]
      refine ⟨?_, hB⟩
      by_cases h0 : n.h = 0
      · have hx : n.z = 1 ∧ n.l = zeroL ∧ n.r = zeroL := by
          refine ⟨?_, ?_, ?_⟩ <;> (apply Decidable.byContradiction; intro hc; apply hb; simp [h0, hc])
        have : n.renc = n.r2 := by unfold Nd.renc; rw [if_pos h0]
        rw [this]
        exact renc_good0 b n hl hr (by omega) (by omega) h0 hx.1 hx.2.1 hx.2.2 (by omega)
      · have : n.renc = n.r6 := by unfold Nd.renc; rw [if_neg h0]
        rw [this]
        exact renc_good1 b n hl hr (by omega) (by omega) (by omega) (by omega) (by omega)
end Go.Fm

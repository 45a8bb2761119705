/-
  A part of the proof: PEnc2.
-/
import Derived.Test.YtjmjijgnbjkpnaaPEnc
set_option linter.all false
set_option autoImplicit true
/-
  nodes.Encode of any node (the plain seat).
-/
set_option autoImplicit false
set_option maxRecDepth 100000
set_option linter.unusedVariables false
set_option linter.unusedSimpArgs false
namespace Go.Fm
open Go Go.Proofs
attribute [simp] lenOf_pV csz_pV cag_pV
theorem frzA {b : Bool} {t : TypeId} : (cfg b).frz t = false := rfl
theorem eqg25 {b : Bool} : (cfg b).P.eqGuardType (cfg b).P.depth 25 = false := by kernel_rfl
theorem aeq25 {b : Bool} {x y : AV} : aeq (cfg b).P 12 25 x y = arrEq 32 .u8 x y := aeq_arr (e := 5) (by kernel_rfl) (by kernel_rfl) (by kernel_rfl) (by kernel_rfl) (by decide)
theorem bne25 {b lit : Bool} {x y : AV} {H : Heap} (h : isIS x y = false) : mBin (cfg b) 25 lit .neq x y H = eqH H true (arrEq 32 .u8 x y) := by rw [mBin_neg eqg25 h, aeq25]
set_option maxHeartbeats 4000000 in
theorem tput_fn (b : Bool) (o : Option (List UInt8)) (tag : UInt8) (v : Option (List UInt8)) (ho : (pB o).length ≤ 1000000) (hv : (pB v).length ≤ 65535) :
    fnX (cfg b) An 26 [.c (pV o), .c (.int .u8 (tag.toNat : Int)), .c (pV v)] [] = some (.tup [.c (.sl 1 (bytesAV (tput o tag v))), .c (.int .i64 0)], []) := by
  rw [fnX_eq, p26_eq]
  have l1 : ¬ (65535 : Int) < ((pB v).length : Int) := by omega
  have m0 : (pB o).length ≤ maxLen := big_max (by omega)
  have m1 : (pB o).length ≤ 140737488355328 := by omega
  by_cases h0 : (pB v).length = 0
  · have e : tput o tag v = pB o := if_pos h0
    have l2 : (((pB v).length : Int) == 0) = true := by simp [h0]
    rw [e]
    simp [p26, elemsOf_pV, l1, l2, h0, m0, m1]
  · have e : tput o tag v = pB o ++ [tag, byteOf (iShr .i64 ((pB v).length : Int) 8), byteOf ((pB v).length : Int)] ++ pB v := if_neg h0
    have l2 : (((pB v).length : Int) == 0) = false := by simp only [beq_eq_false_iff_ne, ne_eq]; omega
    have hz1 := wrap_byte (iShr .i64 ((pB v).length : Int) 8)
    have hz2 := wrap_byte ((pB v).length : Int)
    rw [e]
    generalize byteOf (iShr .i64 ((pB v).length : Int) 8) = x at *
    generalize byteOf ((pB v).length : Int) = y at *
    have m2 : (pB o).length + 3 ≤ maxLen := big_max (by omega)
    have m3 : (pB o).length + 3 ≤ 140737488355328 := by omega
    have m4 : (pB o).length + 3 + (pB v).length ≤ maxLen := big_max (by omega)
    have m5 : (pB o).length + 3 + (pB v).length ≤ 140737488355328 := by omega
    have m6 : 3 ≤ maxLen := big_max (by omega)
    have hb : bytesAV (pB o ++ [tag, x, y] ++ pB v) = bytesAV (pB o) ++ [.int .u8 (tag.toNat : Int), .int .u8 (x.toNat : Int), .int .u8 (y.toNat : Int)] ++ bytesAV (pB v) := by simp [bytesAV]
    rw [hb]
    simp [p26, elemsOf_pV, l1, l2, h0, hz1, hz2, m0, m1, m2, m3, m4, m5, m6]
theorem tput_call (b : Bool) (o : Option (List UInt8)) (tag : UInt8) (v : Option (List UInt8)) (ho : (pB o).length ≤ 1000000) (hv : (pB v).length ≤ 65535) (H : Heap) :
    callX (cfg b) An 26 [.c (pV o), .c (.int .u8 (tag.toNat : Int)), .c (pV v)] H = some (.tup [.c (.sl 1 (bytesAV (tput o tag v))), .c (.int .i64 0)], H) := callX_pure (tput_fn b o tag v ho hv) rfl rfl (prim_none' (by decide)) H
theorem tnum_call (b : Bool) (z : Int) (H : Heap) : callX (cfg b) An 27 [.c (.int .u64 z)] H = some (.c (pV (numO z)), H) := callX_pure (tnum_fn b z) rfl rfl (prim_none' (by decide)) H
theorem put_cl (b : Bool) (o : Option (List UInt8)) (tag : UInt8) (v : Option (List UInt8)) (ho : (pB o).length ≤ 1000000) (hv : (pB v).length ≤ 65535) :
    fnX (cfg b) An 25 [.c (.int .u8 (tag.toNat : Int)), .c (pV v), .ov 0 [] 0] [.var 22 (.c (pV o))] = some (.tup [], [.var 22 (.c (.sl 1 (bytesAV (tput o tag v))))]) := by
  rw [fnX_eq, p25_eq]
  have tc := tput_call b o tag v ho hv
  simp [p25, tc, csz_pV, cag_pV]
theorem v25 {b : Bool} {H : Heap} {vs : List AV} : callX (cfg b) An 25 vs H = cvw (fnX (cfg b) An 25) (handCs (cfg b) false H vs) := callX_v (prim_none' (by decide))
/-! CF -/
/-- A node. -/
structure Nd where
  k : Option (List UInt8)
  v : Option (List UInt8)
  h : Int
  z : Int
  l : List UInt8
  r : List UInt8
def Nd.cv (n : Nd) : CV := .agg [pV n.k, pV n.v, .int .i64 n.h, .int .u64 n.z, .arr 32 .u8 (dI n.l), .arr 32 .u8 (dI n.r)]
def zeroL : List UInt8 := List.replicate 32 0
def Nd.badB (n : Nd) : Prop := n.h < 0 ∨ 64 < n.h ∨ (0 < n.h ∧ 0 < (pB n.v).length) ∨ 256 < (pB n.v).length ∨ (n.h = 0 ∧ (n.z ≠ 1 ∨ n.l ≠ zeroL ∨ n.r ≠ zeroL))
/-- A node's bytes. -/
def Nd.enc (n : Nd) : List UInt8 :=
  let b3 := tput (some (tput (some (tput none 1 n.k)) 2 n.v)) 3 (numO n.h)
  if 0 < n.h then tput (some (tput (some (tput (some b3) 4 (numO n.z))) 5 (some n.l))) 6 (some n.r) else b3
theorem dI_inj3 : ∀ {a c : List UInt8}, dI a = dI c → a = c
  | [], [], _ => rfl
  | [], _ :: _, h => by simp [dI] at h
  | _ :: _, [], h => by simp [dI] at h
  | x :: a, y :: c, h => by
    simp only [dI, List.map_cons, List.cons.injEq] at h
    have hx : x.toNat = y.toNat := by have := h.1; omega
    rw [UInt8.toNat_inj.1 hx, dI_inj3 (a := a) (c := c) h.2]
theorem dI_zeroL : dI zeroL = List.replicate 32 0 := by decide
theorem dI_bne (l : List UInt8) : (dI l != List.replicate 32 0) = decide (l ≠ zeroL) := by
  rw [← dI_zeroL]
  by_cases h : l = zeroL
  · subst h; simp
  · have : dI l ≠ dI zeroL := fun e => h (dI_inj3 e)
    simp [h, this]
set_option maxHeartbeats 8000000 in
theorem enc_key (b : Bool) (n : Nd) (hl : n.l.length = 32) (hr : n.r.length = 32) (hk : (pB n.k).length = 0 ∨ 96 < (pB n.k).length) : fnX (cfg b) An 7 [.c n.cv] [] = some (.tup [.c .nilsl, .c (.int .i64 10)], []) := by
  rw [fnX_eq, p7_eq]
  have ll : (dI n.l).length = 32 := by rw [len_dI, hl]
  have lr : (dI n.r).length = 32 := by rw [len_dI, hr]
  have lk := fun H => lenOf_pV H n.k
  have kz := csz_pV n.k
  have kg := cag_pV n.k
  have vz := csz_pV n.v
  have vg := cag_pV n.v
  simp only [Nd.cv]
  rcases hk with hk | hk
  · have h1 : ((pB n.k).length : Int) = 0 := by omega
    have h2 : pB n.k = [] := List.length_eq_zero_iff.1 hk
    simp [p7, lk, hk, h1, h2, kz, kg, vz, vg, ll, lr, frzA]
  · have h1 : (96 : Int) < ((pB n.k).length : Int) := by omega
    have h2 : ¬ (pB n.k).length = 0 := by omega
    have h3 : ¬ pB n.k = [] := by intro e; rw [e] at h2; simp at h2
    simp [p7, lk, hk, h1, h2, h3, kz, kg, vz, vg, ll, lr, frzA]
set_option maxHeartbeats 16000000 in
theorem enc_bad (b : Bool) (n : Nd) (hl : n.l.length = 32) (hr : n.r.length = 32) (hk : 0 < (pB n.k).length) (hk2 : (pB n.k).length ≤ 96) (hb : n.badB) : fnX (cfg b) An 7 [.c n.cv] [] = some (.tup [.c .nilsl, .c (.int .i64 12)], []) := by
  rw [fnX_eq, p7_eq]
  have ll : (dI n.l).length = 32 := by rw [len_dI, hl]
  have lr : (dI n.r).length = 32 := by rw [len_dI, hr]
  have lk := fun H => lenOf_pV H n.k
  have lv := fun H => lenOf_pV H n.v
  have kz := csz_pV n.k
  have kg := cag_pV n.k
  have vz := csz_pV n.v
  have vg := cag_pV n.v
  have h1 : ¬ (96 : Int) < ((pB n.k).length : Int) := by omega
  have h2 : ¬ (pB n.k).length = 0 := by omega
  have h3 : ¬ pB n.k = [] := by intro e; rw [e] at h2; simp at h2
  have dl := dI_bne n.l
  have dr := dI_bne n.r
  obtain ⟨k, v, h, z, l, r⟩ := n
  simp only [Nd.cv, Nd.badB] at *
  by_cases a1 : h < 0
  · simp [p7, lk, lv, h1, h2, h3, kz, kg, vz, vg, ll, lr, frzA, a1]
  · by_cases a2 : 64 < h
    · simp [p7, lk, lv, h1, h2, h3, kz, kg, vz, vg, ll, lr, frzA, a1, a2]
    · by_cases a3 : 0 < h
      · by_cases a4 : 0 < (pB v).length
        · have a4I : (0 : Int) < ((pB v).length : Int) := by omega
          have a5 : ¬ pB v = [] := by intro e; rw [e] at a4; simp at a4
          simp [p7, lk, lv, h1, h2, h3, kz, kg, vz, vg, ll, lr, frzA, a1, a2, a3, a4, a4I, a5]
        · exfalso
          rcases hb with hb | hb | hb | hb | hb <;> omega
      · have a6 : h = 0 := by omega
        subst a6
        by_cases a7 : 256 < (pB v).length
        · have a7I : (256 : Int) < ((pB v).length : Int) := by omega
          simp [p7, lk, lv, h1, h2, h3, kz, kg, vz, vg, ll, lr, frzA, a7, a7I]
        · have a7I : ¬ (256 : Int) < ((pB v).length : Int) := by omega
          have hb' : z ≠ 1 ∨ l ≠ zeroL ∨ r ≠ zeroL := by
            rcases hb with hb | hb | hb | hb | hb
            · omega
            · omega
            · omega
            · omega
            · exact hb.2
          have zz : dI zeroL = [0, 0, 0, 0, 0, 0, 0, 0, 0, 0, 0, 0, 0, 0, 0, 0, 0, 0, 0, 0, 0, 0, 0, 0, 0, 0, 0, 0, 0, 0, 0, 0] := by decide
          have ne (x : List UInt8) (hx : ¬ x = zeroL) : ¬ dI x = [0, 0, 0, 0, 0, 0, 0, 0, 0, 0, 0, 0, 0, 0, 0, 0, 0, 0, 0, 0, 0, 0, 0, 0, 0, 0, 0, 0, 0, 0, 0, 0] := by
            rw [← zz]; exact fun e => hx (dI_inj3 e)
          by_cases b1 : z = 1
          · subst b1
            by_cases b2 : l = zeroL
            · by_cases b3 : r = zeroL
              · simp [b2, b3] at hb'
              · have e3 := ne r b3
                have e4 := beq_eq_false_iff_ne.2 e3
                rw [b2] at ll
                simp [p7, lk, lv, h1, h2, h3, kz, kg, vz, vg, ll, lr, frzA, a7, a7I, bne25, b2, zz, e3, e4]
            · have e3 := ne l b2
              have e4 := beq_eq_false_iff_ne.2 e3
              simp [p7, lk, lv, h1, h2, h3, kz, kg, vz, vg, ll, lr, frzA, a7, a7I, bne25, e3, e4]
          · have e5 : (z != 1) = true := by simp [b1]
            simp [p7, lk, lv, h1, h2, h3, kz, kg, vz, vg, ll, lr, frzA, a7, a7I, bne25, e5]
theorem pB_s (l : List UInt8) : pB (some l) = l := rfl
theorem pB_n : pB none = [] := rfl
set_option maxHeartbeats 16000000 in
theorem enc_good0 (b : Bool) (n : Nd) (hl : n.l.length = 32) (hr : n.r.length = 32) (hk : 0 < (pB n.k).length) (hk2 : (pB n.k).length ≤ 96) (hh : n.h = 0) (hz : n.z = 1) (h1 : n.l = zeroL) (h2 : n.r = zeroL) (hv : (pB n.v).length ≤ 256) :
    fnX (cfg b) An 7 [.c n.cv] [] = some (.tup [.c (.sl 1 (bytesAV n.enc)), .c (.int .i64 0)], []) := by
  rw [fnX_eq, p7_eq]
  obtain ⟨k, v, h, z, l, r⟩ := n
  simp only at hl hr hk hk2 hh hz h1 h2 hv
  subst hh; subst hz; subst h1; subst h2
  have l1 := tput_len none 1 k
  have l2 := tput_len (some (tput none 1 k)) 2 v
  simp only [pB_s, pB_n, List.length_nil] at l1 l2
  have p1 := put_cl b none 1 k (by simp [pB_n]) (by omega)
  have p2 := put_cl b (some (tput none 1 k)) 2 v (by rw [pB_s]; omega) (by omega)
  have p3 := put_cl b (some (tput (some (tput none 1 k)) 2 v)) 3 (numO 0) (by rw [pB_s]; omega) (by have := numO_len 0; omega)
  have tn := tnum_call b 0
  have t1 : ((1 : UInt8).toNat : Int) = 1 := rfl
  have t2 : ((2 : UInt8).toNat : Int) = 2 := rfl
  have t3 : ((3 : UInt8).toNat : Int) = 3 := rfl
  have he : (Nd.mk k v 0 1 zeroL zeroL).enc = tput (some (tput (some (tput none 1 k)) 2 v)) 3 (numO 0) := rfl
  have e1 : pV none = .nilsl := rfl
  have pVs (x : List UInt8) : pV (some x) = .sl 1 (bytesAV x) := rfl
  have lk := fun H => lenOf_pV H k
  have lv := fun H => lenOf_pV H v
  have kz := csz_pV k
  have kg := cag_pV k
  have vz := csz_pV v
  have vg := cag_pV v
  have nz := csz_pV (numO 0)
  have ng := cag_pV (numO 0)
  have k1 : ¬ (96 : Int) < ((pB k).length : Int) := by omega
  have k2 : ¬ (pB k).length = 0 := by omega
  have k3 : ¬ pB k = [] := by intro e; rw [e] at k2; simp at k2
  have hv1 : ¬ (256 : Int) < ((pB v).length : Int) := by omega
  have w0 : IntKind.u64.wrap 0 = 0 := by decide
  have zz : dI zeroL = [0, 0, 0, 0, 0, 0, 0, 0, 0, 0, 0, 0, 0, 0, 0, 0, 0, 0, 0, 0, 0, 0, 0, 0, 0, 0, 0, 0, 0, 0, 0, 0] := by decide
  rw [he]
  simp only [Nd.cv]
  rw [zz]
  generalize tput (some (tput (some (tput none 1 k)) 2 v)) 3 (numO 0) = B3 at *
  generalize tput (some (tput none 1 k)) 2 v = B2 at *
  generalize tput none 1 k = B1 at *
  generalize numO 0 = N0 at *
  simp only [t1, t2, t3, pVs, e1] at p1 p2 p3
  simp (maxSteps := 1000000) [p7, k1, k2, k3, hv1, lk, lv, kz, kg, vz, vg, nz, ng, v25, p1, p2, p3, tn, w0, bne25, frzA]
set_option maxHeartbeats 16000000 in
theorem enc_good1 (b : Bool) (n : Nd) (hl : n.l.length = 32) (hr : n.r.length = 32) (hk : 0 < (pB n.k).length) (hk2 : (pB n.k).length ≤ 96) (hh : 0 < n.h) (hh2 : n.h ≤ 64) (hv : (pB n.v).length = 0) :
    fnX (cfg b) An 7 [.c n.cv] [] = some (.tup [.c (.sl 1 (bytesAV n.enc)), .c (.int .i64 0)], []) := by
  rw [fnX_eq, p7_eq]
  obtain ⟨k, v, h, z, l, r⟩ := n
  simp only at hl hr hk hk2 hh hh2 hv
  have l1 := tput_len none 1 k
  have l2 := tput_len (some (tput none 1 k)) 2 v
  have l3 := tput_len (some (tput (some (tput none 1 k)) 2 v)) 3 (numO h)
  have l4 := tput_len (some (tput (some (tput (some (tput none 1 k)) 2 v)) 3 (numO h))) 4 (numO z)
  have l5 := tput_len (some (tput (some (tput (some (tput (some (tput none 1 k)) 2 v)) 3 (numO h))) 4 (numO z))) 5 (some l)
  simp only [pB_s, pB_n, List.length_nil] at l1 l2 l3 l4 l5
  have n3 := numO_len h
  have n4 := numO_len z
  have p1 := put_cl b none 1 k (by simp [pB_n]) (by omega)
  have p2 := put_cl b (some (tput none 1 k)) 2 v (by rw [pB_s]; omega) (by omega)
  have p3 := put_cl b (some (tput (some (tput none 1 k)) 2 v)) 3 (numO h) (by rw [pB_s]; omega) (by omega)
  have p4 := put_cl b (some (tput (some (tput (some (tput none 1 k)) 2 v)) 3 (numO h))) 4 (numO z) (by rw [pB_s]; omega) (by omega)
  have p5 := put_cl b (some (tput (some (tput (some (tput (some (tput none 1 k)) 2 v)) 3 (numO h))) 4 (numO z))) 5 (some l) (by rw [pB_s]; omega) (by rw [pB_s]; omega)
  have p6 := put_cl b (some (tput (some (tput (some (tput (some (tput (some (tput none 1 k)) 2 v)) 3 (numO h))) 4 (numO z))) 5 (some l))) 6 (some r) (by rw [pB_s]; omega) (by rw [pB_s]; omega)
  have th := tnum_call b h
  have tz := tnum_call b z
  have t1 : ((1 : UInt8).toNat : Int) = 1 := rfl
  have t2 : ((2 : UInt8).toNat : Int) = 2 := rfl
  have t3 : ((3 : UInt8).toNat : Int) = 3 := rfl
  have t4 : ((4 : UInt8).toNat : Int) = 4 := rfl
  have t5 : ((5 : UInt8).toNat : Int) = 5 := rfl
  have t6 : ((6 : UInt8).toNat : Int) = 6 := rfl
  have he : (Nd.mk k v h z l r).enc = tput (some (tput (some (tput (some (tput (some (tput (some (tput none 1 k)) 2 v)) 3 (numO h))) 4 (numO z))) 5 (some l))) 6 (some r) := by simp only [Nd.enc, if_pos hh]
  have e1 : pV none = .nilsl := rfl
  have pVs (x : List UInt8) : pV (some x) = .sl 1 (bytesAV x) := rfl
  have lk := fun H => lenOf_pV H k
  have lv := fun H => lenOf_pV H v
  have kz := csz_pV k
  have kg := cag_pV k
  have vz := csz_pV v
  have vg := cag_pV v
  have nz := csz_pV (numO h)
  have ng := cag_pV (numO h)
  have mz := csz_pV (numO z)
  have mg := cag_pV (numO z)
  have k1 : ¬ (96 : Int) < ((pB k).length : Int) := by omega
  have k2 : ¬ (pB k).length = 0 := by omega
  have k3 : ¬ pB k = [] := by intro e; rw [e] at k2; simp at k2
  have hv0 : pB v = [] := List.length_eq_zero_iff.1 hv
  have hv1 : ((pB v).length : Int) = 0 := by omega
  have h1 : ¬ h < 0 := by omega
  have h2 : ¬ (64 : Int) < h := by omega
  have h3 : ¬ h = 0 := by omega
  have h3b : (h == 0) = false := by simpa using h3
  have w0 : IntKind.u64.wrap h = h := u64_small (by omega) (by omega)
  have d1 : (dI l).length = 32 := by rw [len_dI, hl]
  have d2 : (dI r).length = 32 := by rw [len_dI, hr]
  have a1 := dI_map l
  have a2 := dI_map r
  have g1 := take_av l 32 hl
  have g2 := take_av r 32 hr
  have h32 : 32 ≤ maxLen := big_max (by decide)
  rw [he]
  simp only [Nd.cv]
  generalize tput (some (tput (some (tput (some (tput (some (tput (some (tput none 1 k)) 2 v)) 3 (numO h))) 4 (numO z))) 5 (some l))) 6 (some r) = B6 at *
  generalize tput (some (tput (some (tput (some (tput (some (tput none 1 k)) 2 v)) 3 (numO h))) 4 (numO z))) 5 (some l) = B5 at *
  generalize tput (some (tput (some (tput (some (tput none 1 k)) 2 v)) 3 (numO h))) 4 (numO z) = B4 at *
  generalize tput (some (tput (some (tput none 1 k)) 2 v)) 3 (numO h) = B3 at *
  generalize tput (some (tput none 1 k)) 2 v = B2 at *
  generalize tput none 1 k = B1 at *
  generalize numO h = N0 at *
  generalize numO z = N1 at *
  simp only [t1, t2, t3, t4, t5, t6, pVs, e1] at p1 p2 p3 p4 p5 p6
  simp (maxSteps := 1000000) [p7, k1, k2, k3, hv0, hv1, hv, h1, h2, h3, h3b, hh, lk, lv, kz, kg, vz, vg, nz, ng, mz, mg, v25, p1, p2, p3, p4, p5, p6, th, tz, w0, d1, d2, a1, a2, g1, g2, h32, bne25, frzA]
/-- What Encode answers. -/
noncomputable def Nd.encE (n : Nd) : Int := by
  classical
  exact if (pB n.k).length = 0 ∨ 96 < (pB n.k).length then 10 else if n.badB then 12 else 0
noncomputable def Nd.encO (n : Nd) : Option (List UInt8) := if n.encE = 0 then some n.enc else none
theorem enc_any (b : Bool) (n : Nd) (hl : n.l.length = 32) (hr : n.r.length = 32) : fnX (cfg b) An 7 [.c n.cv] [] = some (.tup [.c (pV n.encO), .c (.int .i64 n.encE)], []) := by
  classical
  by_cases h1 : (pB n.k).length = 0 ∨ 96 < (pB n.k).length
  · have e : n.encE = 10 := by unfold Nd.encE; rw [if_pos h1]
    have e2 : n.encO = none := by unfold Nd.encO; rw [e]; rfl
    rw [e, e2]
    exact enc_key b n hl hr h1
  · by_cases h2 : n.badB
    · have e : n.encE = 12 := by unfold Nd.encE; rw [if_neg h1, if_pos h2]
      have e2 : n.encO = none := by unfold Nd.encO; rw [e]; rfl
      rw [e, e2]
      exact enc_bad b n hl hr (by omega) (by omega) h2
    · have e : n.encE = 0 := by unfold Nd.encE; rw [if_neg h1, if_neg h2]
      have e2 : n.encO = some n.enc := by unfold Nd.encO; rw [e]; rfl
      rw [e, e2]
      unfold Nd.badB at h2
      by_cases h3 : 0 < n.h
      · exact enc_good1 b n hl hr (by omega) (by omega) h3 (by omega) (by omega)
      · have h0 : n.h = 0 := by omega
        have hz : n.z = 1 := Decidable.byContradiction fun h => h2 (.inr (.inr (.inr (.inr ⟨h0, .inl h⟩))))
        have hl0 : n.l = zeroL := Decidable.byContradiction fun h => h2 (.inr (.inr (.inr (.inr ⟨h0, .inr (.inl h)⟩))))
        have hr0 : n.r = zeroL := Decidable.byContradiction fun h => h2 (.inr (.inr (.inr (.inr ⟨h0, .inr (.inr h)⟩))))
        exact enc_good0 b n hl hr (by omega) (by omega) h0 hz hl0 hr0 (by omega)
end Go.Fm

/-
  A part of the proof: PLaw3.
-/
import Derived.Test.YtjmjijgnbjkpnaaPRfG
import Derived.Test.YtjmjijgnbjkpnaaPLaw4c
import Derived.Test.YtjmjijgnbjkpnaaDLaw3
set_option linter.all false
set_option autoImplicit true
/-
  Law NodesCodes (the plain seat).
-/
set_option autoImplicit false
set_option maxRecDepth 100000
set_option linter.unusedVariables false
set_option linter.unusedSimpArgs false
namespace Go.Fm
open Go Go.Proofs
theorem be25 {b lit : Bool} {x y : AV} {H : Heap} (h : isIS x y = false) : mBin (cfg b) 25 lit .eql x y H = eqH H false (arrEq 32 .u8 x y) := by rw [mBin_eqg eqg25 h, aeq25]
/-! CF -/
set_option maxHeartbeats 8000000 in
theorem same_n (b : Bool) (n : Nd) (hl : n.l.length = 32) (hr : n.r.length = 32) : fnX (cfg b) An 12 [.c n.cv, .c n.cv] [] = some (.c (.bool true), []) := by
  rw [fnX_eq, p12_eq]
  have ll : (dI n.l).length = 32 := by rw [len_dI, hl]
  have lr : (dI n.r).length = 32 := by rw [len_dI, hr]
  have kz := csz_pV n.k
  have kg := cag_pV n.k
  have vz := csz_pV n.v
  have vg := cag_pV n.v
  have ea := fun H => elemsOf_pV H n.k
  have eb := fun H => elemsOf_pV H n.v
  simp only [Nd.cv]
  simp (maxSteps := 1000000) [p12, be25, frzA, ll, lr, kz, kg, vz, vg, ea, eb, BA_toList]
theorem same_z (b : Bool) : fnX (cfg b) An 12 [.c apiZ, .c apiZ] [] = some (.c (.bool true), []) := by
  have e : apiZ = Nd.cv ⟨none, none, 0, 0, zeroL, zeroL⟩ := by
    simp only [Nd.cv, apiZ, dI_zeroL]
    rfl
  rw [e]
  exact same_n b _ rfl rfl
theorem same_call (b : Bool) (v : CV) (h : DecN v) : ∀ H, callX (cfg b) An 12 [.c v, .c v] H = some (.c (.bool true), H) := by
  cases h with
  | z => exact callX_pure (same_z b) rfl rfl (prim_none' (by decide))
  | n n hl hr => exact callX_pure (same_n b n hl hr) rfl rfl (prim_none' (by decide))
theorem decN_sz {v : CV} (h : DecN v) : v.size = 68 ∧ v.isAgg = true := by
  cases h with
  | z => exact ⟨rfl, rfl⟩
  | n n hl hr =>
    have ll : (dI n.l).length = 32 := by rw [len_dI, hl]
    have lr : (dI n.r).length = 32 := by rw [len_dI, hr]
    exact ⟨by simp [Nd.cv], rfl⟩
set_option maxHeartbeats 8000000 in
theorem codes_step (b : Bool) (o : Option (List UInt8)) (hL : (pB o).length ≤ 9223372036854775807) (M : List CV) (i : Nat) (hi : i < M.length) (hm : M.length ≤ 1000) (hn : nthC M i = pV o) :
    loopX 0 (p3_l0 b (callX (cfg b) An) 0) [.os 0, .c (.int .i64 (M.length : Int)), .c (.int .i64 (i : Int))] [.row 22 1 M] = loopX 0 (p3_l0 b (callX (cfg b) An) 0) [.os 0, .c (.int .i64 (M.length : Int)), .c (.int .i64 ((i : Int) + 1))] [.row 22 1 M] := by
  have hI : (i : Int) < (M.length : Int) := by omega
  have ha : iAdd .i64 (i : Int) 1 = (i : Int) + 1 := by unfold iAdd; rw [i64_small (by omega) (by omega)]
  obtain ⟨d1, d2, dn⟩ := dec_both b o hL
  have c1 : ∀ H, callX (cfg b) An 10 [.c (pV o)] H = _ := callX_pure d1 rfl rfl (prim_none' (by decide))
  have c2 : ∀ H, callX (cfg b) An 11 [.c (pV o)] H = _ := callX_pure d2 rfl rfl (prim_none' (by decide))
  have sc := same_call b _ dn
  obtain ⟨sz, ag⟩ := decN_sz dn
  clear d1 d2 dn
  generalize (decV o).1 = v at *
  generalize (decV o).2 = e at *
  have kz := csz_pV o
  have kg := cag_pV o
  have eb := fun H => elemsOf_pV H o
  rw [loopX_eq]
  simp (maxSteps := 1000000) [p3_l0, hi, hI, hn, ha, c1, c2, sc, sz, ag, kz, kg, frzA]
  exact loopX_gc (by simp) (by simp)
theorem codes_loop (b : Bool) (o1 o2 o3 : Option (List UInt8)) (h1 : (pB o1).length ≤ 9223372036854775807) (h2 : (pB o2).length ≤ 9223372036854775807) (h3 : (pB o3).length ≤ 9223372036854775807) :
    loopX 0 (p3_l0 b (callX (cfg b) An) 0) [.os 0, .c (.int .i64 3), .c (.int .i64 0)] [.row 22 1 [pV o1, pV o2, pV o3]] = some (.exit 0 [.any], [.row 22 1 [pV o1, pV o2, pV o3]]) := by
  have s1 := codes_step b o1 h1 [pV o1, pV o2, pV o3] 0 (by simp) (by simp) rfl
  have s2 := codes_step b o2 h2 [pV o1, pV o2, pV o3] 1 (by simp) (by simp) rfl
  have s3 := codes_step b o3 h3 [pV o1, pV o2, pV o3] 2 (by simp) (by simp) rfl
  have z : ((([pV o1, pV o2, pV o3] : List CV).length : Nat) : Int) = 3 := rfl
  have z0 : ((0 : Nat) : Int) = 0 := rfl
  have z1 : ((1 : Nat) : Int) = 1 := rfl
  have z4 : ((2 : Nat) : Int) = 2 := rfl
  have z2 : (0 : Int) + 1 = 1 := by decide
  have z3 : (1 : Int) + 1 = 2 := by decide
  have z5 : (2 : Int) + 1 = 3 := by decide
  rw [z, z0, z2] at s1
  rw [z, z1, z3] at s2
  rw [z, z4, z5] at s3
  rw [s1, s2, s3, loopX_eq]
  simp [p3_l0]
theorem turnStep_len (out : List UInt8) (a : Int) (t : UInt8) : (turnStep out a t).length ≤ out.length := by
  unfold turnStep
  simp only
  split
  · simp; omega
  · simp
theorem turnF_len : ∀ (n : Nat) (out : List UInt8) (a : List Int) (t : List UInt8), (turnF n out a t).length ≤ out.length
  | 0, out, a, t => by simp [turnF]
  | n + 1, out, [], t => by simp [turnF]
  | n + 1, out, a :: r, [] => by simp [turnF]
  | n + 1, out, a :: r, t :: s => by
    simp only [turnF]
    split
    · exact Nat.le_refl _
    · exact Nat.le_trans (turnF_len n _ r s) (turnStep_len out a t)
set_option maxHeartbeats 8000000 in
theorem nodesCodes_fn (b : Bool) (o : Option (List UInt8)) (hL : (pB o).length ≤ 9223372036854775807) (n : Nd) (hl : n.l.length = 32) (hr : n.r.length = 32) (A T : CV) (a : List Int) (t : List UInt8) (hA : its64 A = some a) (hT : btx T = some t) :
    fnX (cfg b) An 3 [.c n.cv, .c (pV o), .c A, .c T] [] = some (.c (.bool true), []) := by
  rw [fnX_eq, p3_eq]
  have c0 := awake_call b
  have ec := enc_call b n hl hr
  have rc := renc_call b n hl hr
  have eB := (renc_any b n hl hr).2
  have xl := encO_len n hl hr
  have tc := turned_call b n.encO A T a t hA hT xl
  have tl := turnF_len 4 (pB n.encO) a t
  have lp := codes_loop b o n.encO (some (turnF 4 (pB n.encO) a t)) hL (by omega) (by rw [pB_s]; omega)
  have pv : pV (some (turnF 4 (pB n.encO) a t)) = .sl 1 (bytesAV (turnF 4 (pB n.encO) a t)) := rfl
  rw [pv] at lp
  have ll : (dI n.l).length = 32 := by rw [len_dI, hl]
  have lr : (dI n.r).length = 32 := by rw [len_dI, hr]
  have kz := csz_pV n.k
  have kg := cag_pV n.k
  have vz := csz_pV n.v
  have vg := cag_pV n.v
  have oz := csz_pV o
  have og := cag_pV o
  have xz := csz_pV n.encO
  have xg := cag_pV n.encO
  have lk := fun H => lenOf_pV H n.k
  have lv := fun H => lenOf_pV H n.v
  have lo := fun H => lenOf_pV H o
  have ea := fun H => elemsOf_pV H n.encO
  have eb := fun H => elemsOf_pV H n.rencO
  simp only [Nd.cv] at ec rc ⊢
  generalize bytesAV (turnF 4 (pB n.encO) a t) = B at *
  by_cases hg : iAdd .i64 (iAdd .i64 ((pB n.k).length : Int) ((pB n.v).length : Int)) ((pB o).length : Int) > 2000
  · simp (maxSteps := 1000000) [p3, c0, lk, lv, lo, hg, kz, kg, vz, vg, ll, lr, frzA]
  · simp (maxSteps := 1000000) [p3, c0, lk, lv, lo, hg, kz, kg, vz, vg, oz, og, xz, xg, ll, lr, ec, rc, ea, eb, eB, tc, frzA, BA_toList]
    rw [loopX_gc (s1 := [.os 0, .c (.int .i64 3), .c (.int .i64 0)]) (H1 := [.row 22 1 [pV o, pV n.encO, .sl 1 B]]) (by simp) (by simp), lp]
    simp
end Go.Fm

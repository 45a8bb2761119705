/-
  A part of the proof: PCd.
-/
import Derived.Test.YtjmjijgnbjkpnabDoorPCb
import Derived.Test.YtjmjijgnbjkpnabDoorPCc
set_option linter.all false
set_option autoImplicit true
/-
  cache.Get: two turns on an empty cache.
-/
set_option maxRecDepth 100000
set_option linter.unusedVariables false
set_option linter.unusedSimpArgs false
namespace Go.Fm
open Go Go.Proofs
/-! CF -/
set_option maxHeartbeats 8000000 in
theorem cget_a (b : Bool) (room : Int) (m : Mp) (R X : List UInt8) (hR : R.length = 32) (hX : X.length = 32) (key nk vv lk : List UInt8) (E1 E2 : CV) (L2 L3 : List UInt8) (hL2 : L2.length = 32) (hL3 : L3.length = 32) (z s z2 s2 : Int) (x2 y2 : List UInt8) (hx2 : x2.length = 32) (hy2 : y2.length = 32)
    (emp : ∀ H, callX (cfg b) An 29 [] H = some (.c (.arr 32 .u8 (dI L2)), H)) (hne : (R == L2) = false) (hz : (z == 0) = false) (hz0 : ¬ z = 0) (hs2 : z2 = 0)
    (cm : ∀ H, callX (cfg b) An 31 [.c (.sl 1 (bytesAV key)), .c (.sl 1 (bytesAV nk))] H = some (.c (.int .i64 (-1)), H))
    (eqk : ∀ H, callX (cfg b) An 30 [.c (.sl 1 (bytesAV lk)), .c (.sl 1 (bytesAV key))] H = some (.c (.bool true), H))
    (n1 : fnX (cfg b) An 8 [.ov 0 [] 0, .c (.arr 32 .u8 (dI R))] (cHn room m) = some (.tup [.c (.agg [.sl 1 (bytesAV nk), .nilsl, .int .i64 z, .int .u64 s, .arr 32 .u8 (dI X), .arr 32 .u8 (dI L3)]), .c (.int .i64 0)], [.var 68 (.agg [.ov 1 [] 0, .c (.int .i64 room), .os 3]), .var 81 (.agg [.mp 2]), .mp (mC m), .row 70 100 [E1]]))
    (n2 : fnX (cfg b) An 8 [.ov 0 [] 0, .c (.arr 32 .u8 (dI X))] (cHr room [E1] m) = some (.tup [.c (.agg [.sl 1 (bytesAV lk), .sl 1 (bytesAV vv), .int .i64 0, .int .u64 s2, .arr 32 .u8 (dI x2), .arr 32 .u8 (dI y2)]), .c (.int .i64 0)], cHo room .dead [E2] m)) :
    fnX (cfg b) An 16 [.ov 0 [] 0, .c (.arr 32 .u8 (dI R)), .c (.sl 1 (bytesAV key))] (cHn room m) = some (.tup [.c (.sl 1 (bytesAV vv)), .c (.bool true), .c (.int .i64 0)], [.var 68 (.agg [.ov 1 [] 0, .c (.int .i64 room), .os 3]), .var 81 (.agg [.mp 2]), .mp (mC m), .row 70 100 [E2]]) := by
  rw [fnX_eq, p16_eq]
  have hd1 : (dI R).length = 32 := by rw [len_dI]; exact hR
  have hd2 : (dI X).length = 32 := by rw [len_dI]; exact hX
  have hd3 : (dI L2).length = 32 := by rw [len_dI]; exact hL2
  have hd6 : (dI L3).length = 32 := by rw [len_dI]; exact hL3
  have hd4 : (dI x2).length = 32 := by rw [len_dI]; exact hx2
  have hd5 : (dI y2).length = 32 := by rw [len_dI]; exact hy2
  have he := fun lit H => hEq b lit R L2 H
  rw [hne] at he
  simp only [cHn, cHr, cHo] at n1 n2 ⊢
  generalize mC m = M at *
  have v8' := @v8 b
  simp (maxSteps := 500000) [p16, p16_d0, be27, frz68, frz81, frz41n, frz38, emp, he, hd1]
  rw [loopX_eq]
  simp (maxSteps := 500000) [p16_l0, v8', n1, hd1, hd2, hd3, hd6, frz68, frz81, frz41n, frz38, hz, hz0, cm]
  rw [loopX_eq]
  simp (maxSteps := 500000) [p16_l0, v8', n2, hd1, hd2, hd3, hd4, hd5, frz68, frz81, frz41n, frz38, eqk]
set_option maxHeartbeats 8000000 in
theorem cget_b (b : Bool) (room : Int) (m : Mp) (R X : List UInt8) (hR : R.length = 32) (hX : X.length = 32) (key nk vv lk : List UInt8) (E0 E1 E2 : CV) (L2 L3 : List UInt8) (hL2 : L2.length = 32) (hL3 : L3.length = 32) (z s z2 s2 c : Int) (hc : ¬ c < 0) (x2 y2 : List UInt8) (hx2 : x2.length = 32) (hy2 : y2.length = 32)
    (emp : ∀ H, callX (cfg b) An 29 [] H = some (.c (.arr 32 .u8 (dI L2)), H)) (hne : (R == L2) = false) (hz : (z == 0) = false) (hz0 : ¬ z = 0) (hs2 : z2 = 0)
    (cm : ∀ H, callX (cfg b) An 31 [.c (.sl 1 (bytesAV key)), .c (.sl 1 (bytesAV nk))] H = some (.c (.int .i64 c), H))
    (eqk : ∀ H, callX (cfg b) An 30 [.c (.sl 1 (bytesAV lk)), .c (.sl 1 (bytesAV key))] H = some (.c (.bool true), H))
    (n1 : fnX (cfg b) An 8 [.ov 0 [] 0, .c (.arr 32 .u8 (dI R))] (cHr room [E0] m) = some (.tup [.c (.agg [.sl 1 (bytesAV nk), .nilsl, .int .i64 z, .int .u64 s, .arr 32 .u8 (dI L3), .arr 32 .u8 (dI X)]), .c (.int .i64 0)], cHo room .dead [E1] m))
    (n2 : fnX (cfg b) An 8 [.ov 0 [] 0, .c (.arr 32 .u8 (dI X))] (cHr room [E1] m) = some (.tup [.c (.agg [.sl 1 (bytesAV lk), .sl 1 (bytesAV vv), .int .i64 0, .int .u64 s2, .arr 32 .u8 (dI x2), .arr 32 .u8 (dI y2)]), .c (.int .i64 0)], cHo room .dead [E2] m)) :
    fnX (cfg b) An 16 [.ov 0 [] 0, .c (.arr 32 .u8 (dI R)), .c (.sl 1 (bytesAV key))] (cHr room [E0] m) = some (.tup [.c (.sl 1 (bytesAV vv)), .c (.bool true), .c (.int .i64 0)], cHo room .dead [E2] m) := by
  rw [fnX_eq, p16_eq]
  have hd1 : (dI R).length = 32 := by rw [len_dI]; exact hR
  have hd2 : (dI X).length = 32 := by rw [len_dI]; exact hX
  have hd3 : (dI L2).length = 32 := by rw [len_dI]; exact hL2
  have hd6 : (dI L3).length = 32 := by rw [len_dI]; exact hL3
  have hd4 : (dI x2).length = 32 := by rw [len_dI]; exact hx2
  have hd5 : (dI y2).length = 32 := by rw [len_dI]; exact hy2
  have he := fun lit H => hEq b lit R L2 H
  rw [hne] at he
  simp only [cHn, cHr, cHo] at n1 n2 ⊢
  generalize mC m = M at *
  have v8' := @v8 b
  simp (maxSteps := 500000) [p16, p16_d0, be27, frz68, frz81, frz41n, frz38, emp, he, hd1]
  rw [loopX_eq]
  simp (maxSteps := 500000) [p16_l0, v8', n1, hd1, hd2, hd3, frz68, frz81, frz41n, frz38, hz, hz0, hc, hd6, cm]
  rw [loopX_eq]
  simp (maxSteps := 500000) [p16_l0, v8', n2, hd1, hd2, hd3, hd4, hd5, hd6, hc, frz68, frz81, frz41n, frz38, eqk]
end Go.Fm
/-
  Awake's tree: its sums are unlike; its nodes are in the base.
-/
set_option maxRecDepth 100000
set_option linter.unusedVariables false
set_option linter.unusedSimpArgs false
namespace Go.Fm
open Go Go.Proofs
def tA : Tn := .leaf [97] (some [49])
def tB : Tn := .leaf [98] (some [50])
def tR : Tn := .node tA tB
theorem hashA : tA.hash = shaW ([0, 1, 97] ++ shaW [49]) := rfl
theorem hashB : tB.hash = shaW ([0, 1, 98] ++ shaW [50]) := rfl
theorem hashR : tR.hash = shaW ([1, 1] ++ lenBytes ((2 : Nat) : Int) ++ tA.hash ++ tB.hash) := rfl
theorem lenB2 : lenBytes ((2 : Nat) : Int) = [0, 0, 0, 0, 0, 0, 0, 2] := by decide
theorem numA : tA.hash = [79, 242, 220, 67, 86, 35, 243, 56, 84, 92, 140, 214, 251, 60, 157, 237, 98, 163, 233, 91, 235, 210, 196, 165, 126, 12, 145, 59, 224, 250, 81, 104] := by rw [hashA, sum_v1]; exact sum_ka
theorem numB : tB.hash = [122, 87, 192, 2, 101, 155, 110, 41, 12, 23, 208, 244, 214, 208, 229, 199, 204, 254, 183, 199, 16, 242, 128, 71, 172, 172, 225, 160, 215, 254, 40, 249] := by rw [hashB, sum_v2]; exact sum_kb
theorem numR : tR.hash = [2, 71, 123, 189, 226, 109, 66, 150, 71, 86, 12, 251, 75, 239, 20, 164, 69, 181, 107, 208, 190, 134, 229, 130, 102, 246, 91, 148, 176, 87, 7, 140] := by rw [hashR, lenB2, numA, numB]; exact sum_rt
theorem neRA : (tR.hash == tA.hash) = false := by rw [numR, numA]; decide
theorem neRB : (tR.hash == tB.hash) = false := by rw [numR, numB]; decide
theorem neAB : (tA.hash == tB.hash) = false := by rw [numA, numB]; decide
theorem neRE : (tR.hash == shaW []) = false := by rw [numR, sum_em]; decide
theorem nodesR : tR.nodesL = [tR, tA, tB] := rfl
theorem lkR : lkM tR.hash (saveM tR.nodesL []) = some tR.enc ∧ lkM tA.hash (saveM tR.nodesL []) = some tA.enc ∧ lkM tB.hash (saveM tR.nodesL []) = some tB.enc := by
  have e1 : ¬ tR.hash = tA.hash := fun e => by have := neRA; rw [e] at this; simp at this
  have e2 : ¬ tR.hash = tB.hash := fun e => by have := neRB; rw [e] at this; simp at this
  have e3 : ¬ tA.hash = tB.hash := fun e => by have := neAB; rw [e] at this; simp at this
  have f1 : ¬ tA.hash = tR.hash := fun e => e1 e.symm
  have f2 : ¬ tB.hash = tR.hash := fun e => e2 e.symm
  have f3 : ¬ tB.hash = tA.hash := fun e => e3 e.symm
  rw [nodesR]
  simp [saveM, sv1, lkM, e1, e2, e3, f1, f2, f3]
end Go.Fm
/-
  CacheYoung's Awake.
-/
set_option maxRecDepth 100000
set_option linter.unusedVariables false
set_option linter.unusedSimpArgs false
namespace Go.Fm
open Go Go.Proofs
theorem v16 {b : Bool} {H : Heap} {vs : List AV} : callX (cfg b) An 16 vs H = cvw (fnX (cfg b) An 16) (handCs (cfg b) false H vs) := callX_v (prim_none (by decide))
/-! CF -/
set_option maxHeartbeats 8000000 in
theorem awake_core (b : Bool) (m : Mp) (T0 T1 T2 : CV) (R : List Int) (hR : R.length = 32) (Ea Eb : CV) (hs : List CV) (hhs : hs.length = 1)
    (nt : ∀ H, callX (cfg b) An 11 [] H = some (.c T0, H))
    (pa : fnX (cfg b) An 12 [.c T0, .c (.sl 1 [.int .u8 97]), .c (.sl 1 [.int .u8 49])] [] = some (.tup [.c T1, .c (.int .i64 0)], []))
    (pb : fnX (cfg b) An 12 [.c T1, .c (.sl 1 [.int .u8 98]), .c (.sl 1 [.int .u8 50])] [] = some (.tup [.c T2, .c (.int .i64 0)], []))
    (sv : fnX (cfg b) An 14 [.ov 0 [] 0, .c T2] (baH []) = some (.tup [.c (.arr 32 .u8 R), .c (.int .i64 0)], baH m))
    (rc : ∀ H, callX (cfg b) An 17 [.c T2] H = some (.c (.arr 32 .u8 R), H))
    (ga : fnX (cfg b) An 16 [.ov 0 [] 0, .c (.arr 32 .u8 R), .c (.sl 1 [.int .u8 97])] (cHn 1 m) = some (.tup [.c (.sl 1 [.int .u8 49]), .c (.bool true), .c (.int .i64 0)], [.var 68 (.agg [.ov 1 [] 0, .c (.int .i64 1), .os 3]), .var 81 (.agg [.mp 2]), .mp (mC m), .row 70 100 [Ea]]))
    (gb : fnX (cfg b) An 16 [.ov 0 [] 0, .c (.arr 32 .u8 R), .c (.sl 1 [.int .u8 98])] (cHr 1 [Ea] m) = some (.tup [.c (.sl 1 [.int .u8 50]), .c (.bool true), .c (.int .i64 0)], cHo 1 .dead [Eb] m))
    (lc : fnX (cfg b) An 9 [.ov 0 [] 0] (cHr 1 [Eb] m) = some (.c (.sl 32 hs), cHr 1 [Eb] m)) :
    fnX (cfg b) An 4 [] [] = some (.c (.bool true), []) := by
  rw [fnX_eq, p4_eq]
  have nw := bnew_fn b
  have cn := cnew_fn b m 1 (by omega) (by omega)
  simp only [baH, cHn, cHr, cHo] at nw sv cn ga gb lc
  generalize mC m = M at *
  have b49 : bytesC [CV.int .u8 49] = some [49] := rfl
  have b50 : bytesC [CV.int .u8 50] = some [50] := rfl
  simp (maxSteps := 1000000) [b49, b50, p4, nt, v12, pa, pb, rc, v13, v14, v15, v16, v9, nw, sv, cn, ga, gb, lc, frz81, frz68, frz41n, hR, hhs]
theorem enc_len (n : Tn) (hS : Small n) : n.enc.length ≤ 100000 := by
  rw [enc_flat n hS]
  have h1 := flat_len n.its fun p hp => ((its_ok n hS).2 p hp).2
  have h2 : n.its.length ≤ 5 := by cases n with | leaf k v => simp only [Tn.its]; split <;> simp | node l r => simp [Tn.its]
  omega
theorem awake_fn (b : Bool) : fnX (cfg b) An 4 [] [] = some (.c (.bool true), []) := by
  have hR : tR.hash.length = 32 := tR.hash_len
  have hA : tA.hash.length = 32 := tA.hash_len
  have hB : tB.hash.length = 32 := tB.hash_len
  obtain ⟨k1, k2, k3⟩ := lkR
  have pa := Put_fn b [97] (some [49]) (by decide) (by decide) (by decide) none (fun u hu => by cases hu)
  have pb := Put_fn b [98] (some [50]) (by decide) (by decide) (by decide) (some tA) (fun u hu => by cases hu; decide)
  have ea : Tn.puto [97] (some [49]) none = tA := rfl
  have eb : Tn.puto [98] (some [50]) (some tA) = tR := rfl
  rw [ea] at pa
  rw [eb] at pb
  have fA : tA.fit := ⟨by decide, by decide⟩
  have fB : tB.fit := ⟨by decide, by decide⟩
  have fR : tR.fit := ⟨fA, fB⟩
  have sA : Small tA := ⟨by decide, by decide, by decide⟩
  have sB : Small tB := ⟨by decide, by decide, by decide⟩
  have sR : Small tR := ⟨by decide, by decide, by decide⟩
  have T : TrOk b (some tR) := ⟨fun u hu => by cases hu; exact fR, by decide, fun p hp => by
    have : p = ([97], some [49]) ∨ p = ([98], some [50]) := by simpa [Tn.leaveso, tR, tA, tB, Tn.leaves] using hp
    rcases this with rfl | rfl
    · exact ⟨by decide, by decide, by decide⟩
    · exact ⟨by decide, by decide, by decide⟩⟩
  have s1 := save_fn b (some tR) T []
  have rc := Root_call b (some tR)
  have dR := dec_nrm b tR sR
  have dA := dec_nrm b tA sA
  have dB := dec_nrm b tB sB
  have nR : tR.nrm = tR := rfl
  have nA : tA.nrm = tA := rfl
  have nB : tB.nrm = tB := rfl
  rw [nR] at dR
  rw [nA] at dA
  rw [nB] at dB
  have lR : tR.enc.length ≤ 100000 := enc_len tR sR
  have lA : tA.enc.length ≤ 100000 := enc_len tA sA
  have lB : tB.enc.length ≤ 100000 := enc_len tB sB
  have hno : Tn.nodesO (some tR) = tR.nodesL := rfl
  rw [hno] at s1
  generalize saveM tR.nodesL [] = m at *
  have n1 := cnode_new b 1 (by omega) m tR.hash hR tR.enc lR k1 tR fR dR
  have oR : EntOk (tR.hash, tR) := ⟨hR, fR⟩
  have oA : EntOk (tA.hash, tA) := ⟨hA, fA⟩
  have oB : EntOk (tB.hash, tB) := ⟨hB, fB⟩
  have n2 := cnode_full b 1 (tR.hash, tR) [] (by decide) m tA.hash hA (fun e he => by rw [List.mem_singleton.1 he]; exact oR) (fun e he => by rw [List.mem_singleton.1 he]; exact neRA) rfl tA.enc lA k2 tA fA dA
  have n3 := cnode_full b 1 (tA.hash, tA) [] (by decide) m tR.hash hR (fun e he => by rw [List.mem_singleton.1 he]; exact oA) (fun e he => by rw [List.mem_singleton.1 he]; show (tA.hash == tR.hash) = false; have := neRA; rw [Bool.eq_false_iff] at this ⊢; intro e1; exact this (by rw [beq_iff_eq] at e1 ⊢; exact e1.symm)) rfl tR.enc lR k1 tR fR dR
  have n4 := cnode_full b 1 (tR.hash, tR) [] (by decide) m tB.hash hB (fun e he => by rw [List.mem_singleton.1 he]; exact oR) (fun e he => by rw [List.mem_singleton.1 he]; exact neRB) rfl tB.enc lB k3 tB fB dB
  have dlA : (dI tA.hash).length = 32 := by rw [len_dI]; exact hA
  have em := empty_call b
  have c1 := compare_call b [97] [98]
  have c2 := compare_call b [98] [98]
  have e1 := equal_call b [97] [97]
  have e2 := equal_call b [98] [98]
  have aR : tR.api = .agg [.sl 1 (bytesAV [98]), .nilsl, .int .i64 1, .int .u64 2, .arr 32 .u8 (dI tA.hash), .arr 32 .u8 (dI tB.hash)] := rfl
  have aA : tA.api = .agg [.sl 1 (bytesAV [97]), .sl 1 (bytesAV [49]), .int .i64 0, .int .u64 1, .arr 32 .u8 (dI zero32), .arr 32 .u8 (dI zero32)] := rfl
  have aB : tB.api = .agg [.sl 1 (bytesAV [98]), .sl 1 (bytesAV [50]), .int .i64 0, .int .u64 1, .arr 32 .u8 (dI zero32), .arr 32 .u8 (dI zero32)] := rfl
  have z32 : zero32.length = 32 := by decide
  have nR' := neRE
  rw [aR] at n1 n3
  rw [aA] at n2
  rw [aB] at n4
  have ga := cget_a b 1 m tR.hash tA.hash hR hA [97] [98] [49] [97] (entC (tR.hash, tR)) (entC (tA.hash, tA)) (shaW []) tB.hash (shaW_len _) hB 1 2 0 1 zero32 zero32 z32 z32 em nR' (by decide) (by decide) rfl c1 e1 n1 n2
  have gb := cget_b b 1 m tR.hash tB.hash hR hB [98] [98] [50] [98] (entC (tA.hash, tA)) (entC (tR.hash, tR)) (entC (tB.hash, tB)) (shaW []) tA.hash (shaW_len _) hA 1 2 0 1 0 (by decide) zero32 zero32 z32 z32 em nR' (by decide) (by decide) rfl c2 e2 n3 n4
  have lc := clist_fn b 1 (tB.hash, tB) [] (by decide) m (fun x hx => by rw [List.mem_singleton.1 hx]; exact oB)
  exact awake_core b m _ _ _ (dI tR.hash) (by rw [len_dI]; exact hR) _ _ _ (by simp) (new_call b) pa pb s1 rc ga gb lc
theorem awake_call (b : Bool) (H : Heap) : callX (cfg b) An 4 [] H = some (.c (.bool true), H) := callX_pure (awake_fn b) rfl rfl (prim_none (by decide)) H
end Go.Fm

/-
  A part of the proof: PNod.
-/
import Derived.Test.YtjmjijgnbjkpnabDoorPSeal
import Derived.Test.YtjmjijgnbjkpnabDoorPRefs
import Derived.Test.YtjmjijgnbjkpnabDoorPLaw14
import Derived.Test.YtjmjijgnbjkpnabDoorDMisc2
import Derived.Test.YtjmjijgnbjkpnabDoorPGrow
import Derived.Test.YtjmjijgnbjkpnabDoorPLawT1
import Derived.Test.YtjmjijgnbjkpnabDoorPCli
import Derived.Test.YtjmjijgnbjkpnabDoorPTree
set_option linter.all false
set_option autoImplicit true
/-
  nodes.Encode of a tree's nodes.
-/
set_option maxRecDepth 100000
set_option linter.unusedVariables false
set_option linter.unusedSimpArgs false
namespace Go.Fm
open Go Go.Proofs
theorem frz23 {b : Bool} : (cfg b).frz 23 = false := rfl
theorem frz38 {b : Bool} : (cfg b).frz 38 = false := rfl
theorem put_cl (b : Bool) (o : Option (List UInt8)) (tag : UInt8) (v : Option (List UInt8)) (ho : (pB o).length ≤ 1000000) (hv : (pB v).length ≤ 65535) :
    fnX (cfg b) An 46 [.c (.int .u8 (tag.toNat : Int)), .c (pV v), .ov 0 [] 0] [.var 23 (.c (pV o))] = some (.tup [], [.var 23 (.c (.sl 1 (bytesAV (tput o tag v))))]) := by
  rw [fnX_eq, p46_eq]
  have tc := tput_call b o tag v ho hv
  simp [p46, tc, csz_pV, cag_pV]
theorem v46 {b : Bool} {H : Heap} {vs : List AV} : callX (cfg b) An 46 vs H = cvw (fnX (cfg b) An 46) (handCs (cfg b) false H vs) := callX_v (prim_none (by decide))
theorem pB_s (l : List UInt8) : pB (some l) = l := rfl
theorem pB_n : pB none = [] := rfl
namespace Tn
/-- A node's bytes. -/
def enc (t : Tn) : List UInt8 :=
  let b3 := tput (some (tput (some (tput none 1 (some t.key))) 2 t.val)) 3 (numO (t.ht : Int))
  match t with
  | leaf _ _ => b3
  | node _ _ => tput (some (tput (some (tput (some b3) 4 (numO (t.sz : Int)))) 5 (some t.lh))) 6 (some t.rh)
end Tn
theorem zero32_dI : dI zero32 = List.replicate 32 0 := by decide
/-! CF -/
set_option maxHeartbeats 8000000 in
theorem enc_leaf (b : Bool) (k : List UInt8) (v : Option (List UInt8)) (h0 : 0 < k.length) (h1 : k.length ≤ 96) (h2 : (pB v).length ≤ 256) :
    fnX (cfg b) An 28 [.c (Tn.leaf k v).api] [] = some (.tup [.c (.sl 1 (bytesAV (Tn.leaf k v).enc)), .c (.int .i64 0)], []) := by
  rw [fnX_eq, p28_eq]
  have l1 := tput_len none 1 (some k)
  have l2 := tput_len (some (tput none 1 (some k))) 2 v
  simp only [pB_s, pB_n, List.length_nil] at l1 l2
  have p1 := put_cl b none 1 (some k) (by simp [pB_n]) (by rw [pB_s]; omega)
  have p2 := put_cl b (some (tput none 1 (some k))) 2 v (by rw [pB_s]; omega) (by omega)
  have p3 := put_cl b (some (tput (some (tput none 1 (some k))) 2 v)) 3 (numO 0) (by rw [pB_s]; omega) (by have := numO_len 0; omega)
  have tn := tnum_call b 0
  have t1 : ((1 : UInt8).toNat : Int) = 1 := rfl
  have t2 : ((2 : UInt8).toNat : Int) = 2 := rfl
  have t3 : ((3 : UInt8).toNat : Int) = 3 := rfl
  have ha : (Tn.leaf k v).api = .agg [.sl 1 (bytesAV k), pV v, .int .i64 0, .int .u64 1, .arr 32 .u8 (List.replicate 32 0), .arr 32 .u8 (List.replicate 32 0)] := by rw [api_leaf, zero32_dI]
  have he : (Tn.leaf k v).enc = tput (some (tput (some (tput none 1 (some k))) 2 v)) 3 (numO 0) := rfl
  have e1 : pV none = .nilsl := rfl
  have hk0 : ¬ k.length = 0 := by omega
  have hk0' : ¬ k = [] := by intro h; subst h; simp at h0
  have hk1 : ¬ (96 : Int) < (k.length : Int) := by omega
  have hv1 : ¬ (256 : Int) < ((pB v).length : Int) := by omega
  have w0 : IntKind.u64.wrap 0 = 0 := by decide
  have vz := csz_pV v
  have vg := cag_pV v
  have nz := csz_pV (numO 0)
  have ng := cag_pV (numO 0)
  have lv := fun H => lenOf_pV H v
  rw [ha, he]
  generalize tput (some (tput (some (tput none 1 (some k))) 2 v)) 3 (numO 0) = B3 at *
  generalize tput (some (tput none 1 (some k))) 2 v = B2 at *
  generalize tput none 1 (some k) = B1 at *
  generalize numO 0 = N0 at *
  simp only [t1, t2, t3, pVs, e1] at p1 p2 p3
  simp (maxSteps := 1000000) [p28, hk0, hk0', hk1, hv1, lv, vz, vg, nz, ng, v46, p1, p2, p3, tn, w0, be34, bne34, frz23, frz38]
set_option maxHeartbeats 16000000 in
theorem enc_core (b : Bool) (k : List UInt8) (h z : Int) (L R : List UInt8) (h0 : 0 < k.length) (h1 : k.length ≤ 96) (hh : 0 < h) (hh2 : h ≤ 64) (hl : L.length = 32) (hr : R.length = 32) (B1 B2 B3 B4 B5 B6 : List UInt8)
    (p1 : fnX (cfg b) An 46 [.c (.int .u8 1), .c (.sl 1 (bytesAV k)), .ov 0 [] 0] [.var 23 (.c .nilsl)] = some (.tup [], [.var 23 (.c (.sl 1 (bytesAV B1)))]))
    (p2 : fnX (cfg b) An 46 [.c (.int .u8 2), .c .nilsl, .ov 0 [] 0] [.var 23 (.c (.sl 1 (bytesAV B1)))] = some (.tup [], [.var 23 (.c (.sl 1 (bytesAV B2)))]))
    (N3 N4 : CV) (n3 : N3.size = 1 ∧ N3.isAgg = false) (n4 : N4.size = 1 ∧ N4.isAgg = false)
    (p3 : fnX (cfg b) An 46 [.c (.int .u8 3), .c N3, .ov 0 [] 0] [.var 23 (.c (.sl 1 (bytesAV B2)))] = some (.tup [], [.var 23 (.c (.sl 1 (bytesAV B3)))]))
    (p4 : fnX (cfg b) An 46 [.c (.int .u8 4), .c N4, .ov 0 [] 0] [.var 23 (.c (.sl 1 (bytesAV B3)))] = some (.tup [], [.var 23 (.c (.sl 1 (bytesAV B4)))]))
    (p5 : fnX (cfg b) An 46 [.c (.int .u8 5), .c (.sl 1 (bytesAV L)), .ov 0 [] 0] [.var 23 (.c (.sl 1 (bytesAV B4)))] = some (.tup [], [.var 23 (.c (.sl 1 (bytesAV B5)))]))
    (p6 : fnX (cfg b) An 46 [.c (.int .u8 6), .c (.sl 1 (bytesAV R)), .ov 0 [] 0] [.var 23 (.c (.sl 1 (bytesAV B5)))] = some (.tup [], [.var 23 (.c (.sl 1 (bytesAV B6)))]))
    (t3 : ∀ H, callX (cfg b) An 48 [.c (.int .u64 h)] H = some (.c N3, H)) (t4 : ∀ H, callX (cfg b) An 48 [.c (.int .u64 z)] H = some (.c N4, H)) :
    fnX (cfg b) An 28 [.c (.agg [.sl 1 (bytesAV k), .nilsl, .int .i64 h, .int .u64 z, .arr 32 .u8 (dI L), .arr 32 .u8 (dI R)])] [] = some (.tup [.c (.sl 1 (bytesAV B6)), .c (.int .i64 0)], []) := by
  rw [fnX_eq, p28_eq]
  have hk0 : ¬ k.length = 0 := by omega
  have hk0' : ¬ k = [] := by intro h; subst h; simp at h0
  have hk1 : ¬ (96 : Int) < (k.length : Int) := by omega
  have e1 : ¬ h < 0 := by omega
  have e2 : ¬ (64 : Int) < h := by omega
  have e3 : ¬ h = 0 := by omega
  have e3b : (h == 0) = false := by simpa using e3
  have w0 : IntKind.u64.wrap h = h := u64_small (by omega) (by omega)
  have d1 : (dI L).length = 32 := by rw [len_dI, hl]
  have d2 : (dI R).length = 32 := by rw [len_dI, hr]
  have a1 := dI_map L
  have a2 := dI_map R
  have k1 := take_av L 32 hl
  have k2 := take_av R 32 hr
  have h32 : 32 ≤ maxLen := big_max (by decide)
  simp (maxSteps := 1000000) [p28, hk0, hk0', hk1, e1, e2, e3b, hh, w0, v46, p1, p2, p3, p4, p5, p6, t3, t4, n3, n4, d1, d2, a1, a2, k1, k2, h32, be34, bne34, frz23, frz38]
theorem enc_node (b : Bool) (l r : Tn) (h0 : 0 < r.least.length) (h1 : r.least.length ≤ 96) (hh : (Tn.node l r).ht ≤ 64) :
    fnX (cfg b) An 28 [.c (Tn.node l r).api] [] = some (.tup [.c (.sl 1 (bytesAV (Tn.node l r).enc)), .c (.int .i64 0)], []) := by
  have hp : 0 < (Tn.node l r).ht := ht_node_posN l r
  have ha : (Tn.node l r).api = .agg [.sl 1 (bytesAV r.least), .nilsl, .int .i64 ((Tn.node l r).ht : Int), .int .u64 ((Tn.node l r).sz : Int), .arr 32 .u8 (dI l.hash), .arr 32 .u8 (dI r.hash)] := rfl
  have he : (Tn.node l r).enc = tput (some (tput (some (tput (some (tput (some (tput (some (tput none 1 (some r.least))) 2 none)) 3 (numO ((Tn.node l r).ht : Int)))) 4 (numO ((Tn.node l r).sz : Int)))) 5 (some l.hash))) 6 (some r.hash) := rfl
  have hl := l.hash_len
  have hr := r.hash_len
  rw [ha, he]
  generalize (Tn.node l r).ht = h at *
  generalize (Tn.node l r).sz = z at *
  have l1 := tput_len none 1 (some r.least)
  have l2 := tput_len (some (tput none 1 (some r.least))) 2 none
  have l3 := tput_len (some (tput (some (tput none 1 (some r.least))) 2 none)) 3 (numO (h : Int))
  have l4 := tput_len (some (tput (some (tput (some (tput none 1 (some r.least))) 2 none)) 3 (numO (h : Int)))) 4 (numO (z : Int))
  have l5 := tput_len (some (tput (some (tput (some (tput (some (tput none 1 (some r.least))) 2 none)) 3 (numO (h : Int)))) 4 (numO (z : Int)))) 5 (some l.hash)
  simp only [pB_s, pB_n, List.length_nil] at l1 l2 l3 l4 l5
  have n3 := numO_len (h : Int)
  have n4 := numO_len (z : Int)
  have p1 := put_cl b none 1 (some r.least) (by simp [pB_n]) (by rw [pB_s]; omega)
  have p2 := put_cl b (some (tput none 1 (some r.least))) 2 none (by rw [pB_s]; omega) (by simp [pB_n])
  have p3 := put_cl b (some (tput (some (tput none 1 (some r.least))) 2 none)) 3 (numO (h : Int)) (by rw [pB_s]; omega) (by omega)
  have p4 := put_cl b (some (tput (some (tput (some (tput none 1 (some r.least))) 2 none)) 3 (numO (h : Int)))) 4 (numO (z : Int)) (by rw [pB_s]; omega) (by omega)
  have p5 := put_cl b (some (tput (some (tput (some (tput (some (tput none 1 (some r.least))) 2 none)) 3 (numO (h : Int)))) 4 (numO (z : Int)))) 5 (some l.hash) (by rw [pB_s]; omega) (by rw [pB_s]; omega)
  have p6 := put_cl b (some (tput (some (tput (some (tput (some (tput (some (tput none 1 (some r.least))) 2 none)) 3 (numO (h : Int)))) 4 (numO (z : Int)))) 5 (some l.hash))) 6 (some r.hash) (by rw [pB_s]; omega) (by rw [pB_s]; omega)
  exact enc_core b r.least (h : Int) (z : Int) l.hash r.hash h0 h1 (by omega) (by omega) hl hr _ _ _ _ _ _ p1 p2 (pV (numO (h : Int))) (pV (numO (z : Int))) ⟨csz_pV _, cag_pV _⟩ ⟨csz_pV _, cag_pV _⟩ p3 p4 p5 p6 (tnum_call b (h : Int)) (tnum_call b (z : Int))
end Go.Fm
/-
  tlv.Parse of fields in their order.
-/
set_option maxRecDepth 100000
set_option linter.unusedVariables false
set_option linter.unusedSimpArgs false
namespace Go.Fm
open Go Go.Proofs
abbrev It := UInt8 × List UInt8
def itB (p : It) : List UInt8 := p.1 :: 0 :: UInt8.ofNat p.2.length :: p.2
def flat (l : List It) : List UInt8 := l.flatMap itB
def itC (p : It) : CV := .agg [.int .u8 (p.1.toNat : Int), .sl 1 (bytesAV p.2)]
def itsC : List It → CV
  | [] => .nilsl
  | l => .sl 2 (l.map itC)
def itA : List It → AV
  | [] => .c .nilsl
  | _ => .os 0
def itH : List It → Heap
  | [] => []
  | l => [.row 105 2 (l.map itC)]
theorem lo_toNat {n : Nat} (h : n < 256) : ((UInt8.ofNat n).toNat : Int) = (n : Int) := by
  have : (UInt8.ofNat n).toNat = n := by simp [UInt8.toNat_ofNat']; omega
  rw [this]
theorem or_lo (n : Nat) (h : n < 256) : iOr .i64 (iShl .i64 0 8) (n : Int) = (n : Int) := by
  have : iShl .i64 0 8 = 0 := by decide
  rw [this]
  have h2 : BitVec.ofInt 64 (n : Int) = BitVec.ofNat 64 n := by simp
  have h3 : (BitVec.ofInt 64 0 ||| BitVec.ofInt 64 (n : Int)).toNat = n := by
    rw [h2]
    simp
    omega
  unfold iOr
  show IntKind.i64.wrap ((BitVec.ofInt 64 0 ||| BitVec.ofInt 64 (n : Int)).toNat : Int) = _
  rw [h3]
  exact i64_small (by omega) (by omega)
theorem nthC0 (a : CV) (l : List CV) : nthC (a :: l) 0 = a := rfl
theorem nthC1 (a c : CV) (l : List CV) : nthC (a :: c :: l) 1 = c := rfl
/-! CF -/
set_option maxHeartbeats 4000000 in
theorem piece_fn (b : Bool) (v more : List UInt8) (h : v.length < 256) : fnX (cfg b) An 52 [.c (.sl 1 (bytesAV (0 :: UInt8.ofNat v.length :: (v ++ more))))] [] = some (.tup [.c (.sl 1 (bytesAV v)), .c (.sl 1 (bytesAV more)), .c (.int .i64 0)], []) := by
  rw [fnX_eq, p52_eq]
  have lo := lo_toNat h
  have o := or_lo v.length h
  have hb : bytesAV (0 :: UInt8.ofNat v.length :: (v ++ more)) = .int .u8 0 :: .int .u8 (v.length : Int) :: (bytesAV v ++ bytesAV more) := by
    rw [bytesAV_app]; simp only [bytesAV, List.map_cons, lo]; rfl
  rw [hb]
  have t1 : (bytesAV v ++ bytesAV more).take v.length = bytesAV v := by rw [← bytesAV_length v, List.take_left]
  have t2 : (bytesAV v ++ bytesAV more).drop v.length = bytesAV more := by rw [← bytesAV_length v, List.drop_left]
  have g1 : ¬ ((v.length : Int) + (more.length : Int) + 1 + 1 < 2) := by omega
  have g2 : ¬ ((v.length : Int) + (more.length : Int) < (v.length : Int)) := by omega
  have g3 : (0 : Int) < (v.length : Int) + (more.length : Int) + 1 + 1 := by omega
  have g4 : (1 : Int) < (v.length : Int) + (more.length : Int) + 1 + 1 := by omega
  have g5 : 0 < v.length + more.length + 1 + 1 := by omega
  have g6 : 1 < v.length + more.length + 1 + 1 := by omega
  have g7 : (2 : Int) ≤ (v.length : Int) + (more.length : Int) + 1 + 1 := by omega
  have g8 : 2 ≤ v.length + more.length + 1 + 1 := by omega
  have w0 : IntKind.i64.wrap 0 = 0 := by decide
  have w1 : IntKind.i64.wrap (v.length : Int) = (v.length : Int) := i64_small (by omega) (by omega)
  have g9 : (v.length : Int) ≤ (v.length : Int) + (more.length : Int) := by omega
  have g10 : v.length ≤ v.length + more.length := by omega
  have t3 : List.take (v.length + more.length) (bytesAV v ++ bytesAV more) = bytesAV v ++ bytesAV more := List.take_of_length_le (by simp)
  have t4 : List.take more.length (bytesAV more) = bytesAV more := List.take_of_length_le (by simp)
  simp (maxSteps := 1000000) [p52, p52_d0, p52_d1, g1, g2, g3, g4, g5, g6, g7, g8, g9, g10, t3, t4, w0, w1, nthC0, nthC1, o, t1, t2]
theorem piece_call (b : Bool) (v more : List UInt8) (h : v.length < 256) : ∀ H, callX (cfg b) An 52 [.c (.sl 1 (bytesAV (0 :: UInt8.ofNat v.length :: (v ++ more))))] H = some (.tup [.c (.sl 1 (bytesAV v)), .c (.sl 1 (bytesAV more)), .c (.int .i64 0)], H) := callX_pure (piece_fn b v more h) rfl rfl (prim_none (by decide))
set_option maxHeartbeats 4000000 in
theorem parse_0 (b : Bool) (p : It) (h0 : 0 < p.2.length) (h : p.2.length < 256) (more : List UInt8) :
    loopX 0 (p39_l0 b (callX (cfg b) An) 0) [.c (.sl 1 (bytesAV (itB p ++ more))), .c .nilsl] [] = loopX 0 (p39_l0 b (callX (cfg b) An) 0) [.c (.sl 1 (bytesAV more)), .os 0] [.row 105 2 [itC p]] := by
  obtain ⟨tag, v⟩ := p
  simp only at h0 h
  have pc := piece_call b v more h
  have hb : bytesAV (itB (tag, v) ++ more) = .int .u8 (tag.toNat : Int) :: bytesAV (0 :: UInt8.ofNat v.length :: (v ++ more)) := rfl
  rw [hb]
  have g : (0 :: UInt8.ofNat v.length :: (v ++ more)).length = v.length + more.length + 2 := by simp
  have g0 : (bytesAV (0 :: UInt8.ofNat v.length :: (v ++ more))).length = v.length + more.length + 2 := by simp
  generalize bytesAV (0 :: UInt8.ofNat v.length :: (v ++ more)) = B at *
  have g1 : (0 : Int) < (v.length : Int) + (more.length : Int) + 2 + 1 := by omega
  have g2 : (1 : Int) ≤ (v.length : Int) + (more.length : Int) + 2 + 1 := by omega
  have g3 : 1 ≤ v.length + more.length + 2 + 1 := by omega
  have g4 : 0 < v.length + more.length + 2 + 1 := by omega
  have t1 : List.take (v.length + more.length + 2) B = B := List.take_of_length_le (by omega)
  have v0 : ¬ v.length = 0 := by omega
  have v4 : ((v.length : Int) == 0) = false := beq_eq_false_iff_ne.2 (by omega)
  have v5 : 1 ≤ maxLen := big_max (by decide)
  have v1 : ¬ v = [] := by intro e; subst e; simp at h0
  have v2 : v.length ≤ 140737488355328 := by omega
  have v3 : v.length ≤ maxLen := big_max (by omega)
  rw [loopX_eq]
  simp (maxSteps := 1000000) [p39_l0, g0, g1, g2, g3, g4, t1, v0, v1, v2, v3, v4, v5, nthC0, pc, itC]
  rw [loopX_gc (s1 := [.c (.sl 1 (bytesAV more)), .os 0]) (H1 := [.row 105 2 [.agg [.int .u8 (tag.toNat : Int), .sl 1 (bytesAV v)]]]) (by simp) (by simp)]
set_option maxHeartbeats 4000000 in
theorem parse_s (b : Bool) (M : List CV) (n : Nat) (hM : M.length = n + 1) (hn : n ≤ 1000) (last : It) (hl : nthC M n = itC last) (p : It) (hlt : last.1.toNat < p.1.toNat) (h0 : 0 < p.2.length) (h : p.2.length < 256) (more : List UInt8) :
    loopX 0 (p39_l0 b (callX (cfg b) An) 0) [.c (.sl 1 (bytesAV (itB p ++ more))), .os 0] [.row 105 2 M] = loopX 0 (p39_l0 b (callX (cfg b) An) 0) [.c (.sl 1 (bytesAV more)), .os 0] [.row 105 2 (M ++ [itC p])] := by
  obtain ⟨tag, v⟩ := p
  obtain ⟨ltag, lv⟩ := last
  simp only at h0 h hlt
  have pc := piece_call b v more h
  have hb : bytesAV (itB (tag, v) ++ more) = .int .u8 (tag.toNat : Int) :: bytesAV (0 :: UInt8.ofNat v.length :: (v ++ more)) := rfl
  rw [hb]
  have g0 : (bytesAV (0 :: UInt8.ofNat v.length :: (v ++ more))).length = v.length + more.length + 2 := by simp
  generalize bytesAV (0 :: UInt8.ofNat v.length :: (v ++ more)) = B at *
  have g1 : (0 : Int) < (v.length : Int) + (more.length : Int) + 2 + 1 := by omega
  have g2 : (1 : Int) ≤ (v.length : Int) + (more.length : Int) + 2 + 1 := by omega
  have g3 : 1 ≤ v.length + more.length + 2 + 1 := by omega
  have g4 : 0 < v.length + more.length + 2 + 1 := by omega
  have t1 : List.take (v.length + more.length + 2) B = B := List.take_of_length_le (by omega)
  have v0 : ¬ v.length = 0 := by omega
  have v4 : ((v.length : Int) == 0) = false := beq_eq_false_iff_ne.2 (by omega)
  have v5 : 1 ≤ maxLen := big_max (by decide)
  have v1 : ¬ v = [] := by intro e; subst e; simp at h0
  have v2 : v.length ≤ 140737488355328 := by omega
  have v3 : v.length ≤ maxLen := big_max (by omega)
  have m1 : (0 : Int) < (n : Int) + 1 := by omega
  have m2 : iSub .i64 ((n : Int) + 1) 1 = (n : Int) := by unfold iSub; rw [i64_small (by omega) (by omega)]; omega
  have m3 : (n : Int) < (n : Int) + 1 := by omega
  have m4 : n + 1 + 1 ≤ maxLen := big_max (by omega)
  have m5 : (n + 1 + 1) * 32 ≤ 140737488355328 := by omega
  have m6 : ¬ (tag.toNat : Int) ≤ (ltag.toNat : Int) := by omega
  have m7 : 1 ≤ maxLen := big_max (by decide)
  rw [loopX_eq]
  simp (maxSteps := 1000000) [p39_l0, hM, hl, m1, m2, m3, m4, m5, m6, m7, g0, g1, g2, g3, g4, t1, v0, v1, v2, v3, v4, v5, nthC0, pc, itC]
  rw [loopX_gc (s1 := [.c (.sl 1 (bytesAV more)), .os 0]) (H1 := [.row 105 2 (M ++ [.agg [.int .u8 (tag.toNat : Int), .sl 1 (bytesAV v)]])]) (by simp) (by simp)]
/-- Fields in their order. -/
def ItsOk (l : List It) : Prop := l.Pairwise (fun p q => p.1.toNat < q.1.toNat) ∧ ∀ p ∈ l, 0 < p.2.length ∧ p.2.length < 256
theorem parse_loop (b : Bool) : ∀ (rest pre : List It), ItsOk (pre ++ rest) → (pre ++ rest).length ≤ 900 →
    loopX 0 (p39_l0 b (callX (cfg b) An) 0) [.c (.sl 1 (bytesAV (flat rest))), itA pre] (itH pre) = some (.exit 0 [.any, .any, itA (pre ++ rest)], itH (pre ++ rest))
  | [], pre, ho, hn => by
    rw [List.append_nil, loopX_eq]
    have : bytesAV (flat []) = [] := rfl
    rw [this]
    cases pre with
    | nil => simp [p39_l0, itA, itH]
    | cons a r => simp [p39_l0, itA, itH]
  | p :: rest, pre, ho, hn => by
    have ho' : ItsOk ((pre ++ [p]) ++ rest) := by simpa using ho
    have ih := parse_loop b rest (pre ++ [p]) ho' (by simpa using hn)
    have ee : (pre ++ [p]) ++ rest = pre ++ p :: rest := by simp
    rw [ee] at ih
    rw [← ih]
    have hf : flat (p :: rest) = itB p ++ flat rest := rfl
    obtain ⟨hp0, hp1⟩ := ho.2 p (by simp)
    rw [hf]
    rcases List.eq_nil_or_concat pre with rfl | ⟨pre, q, rfl⟩
    · exact parse_0 b p hp0 hp1 (flat rest)
    · have hlen : ((pre ++ [q]).map itC).length = pre.length + 1 := by simp
      have hnth : nthC ((pre ++ [q]).map itC) pre.length = itC q := by simp [nthC, List.getD_eq_getElem?_getD]
      have hlt : q.1.toNat < p.1.toNat := by
        have := (List.pairwise_append.1 ho.1).2.2 q (by simp) p (by simp)
        exact this
      have := parse_s b ((pre ++ [q]).map itC) pre.length hlen (by simp at hn; omega) q hnth p hlt hp0 hp1 (flat rest)
      have e1 : itA (pre ++ [q]) = .os 0 := by cases pre <;> rfl
      have e2 : itH (pre ++ [q]) = [.row 105 2 ((pre ++ [q]).map itC)] := by cases pre <;> rfl
      have e3 : itA (pre ++ [q] ++ [p]) = .os 0 := by cases pre <;> rfl
      have e4 : itH (pre ++ [q] ++ [p]) = [.row 105 2 ((pre ++ [q]).map itC ++ [itC p])] := by cases pre <;> simp [itH]
      rw [List.concat_eq_append, e1, e2, e3, e4]
      exact this
theorem parse_fn (b : Bool) (l : List It) (ho : ItsOk l) (hn : l.length ≤ 900) : fnX (cfg b) An 39 [.c (.sl 1 (bytesAV (flat l)))] [] = some (.tup [.c (itsC l), .c (.int .i64 0)], []) := by
  rw [fnX_eq, p39_eq]
  have e := parse_loop b l [] ho hn
  simp only [List.nil_append, itA, itH] at e
  cases l with
  | nil =>
    simp only [itA, itH] at e
    simp [p39, e, itsC]
  | cons p r =>
    simp only [itA, itH] at e
    simp [p39, e, itsC]
theorem parse_call (b : Bool) (l : List It) (ho : ItsOk l) (hn : l.length ≤ 900) : ∀ H, callX (cfg b) An 39 [.c (.sl 1 (bytesAV (flat l)))] H = some (.tup [.c (itsC l), .c (.int .i64 0)], H) := by
  apply callX_pure (parse_fn b l ho hn) rfl ?_ (prim_none (by decide))
  cases l <;> rfl
theorem value_fn (b : Bool) (x : UInt8) (h0 : x ≠ 0) : fnX (cfg b) An 40 [.c (.sl 1 (bytesAV [x]))] [] = some (.tup [.c (.int .u64 (x.toNat : Int)), .c (.int .i64 0)], []) := by
  rw [fnX_eq, p40_eq]
  have hb : bytesAV [x] = [.int .u8 (x.toNat : Int)] := rfl
  have hx : ((x.toNat : Int) == 0) = false := by
    have : x.toNat ≠ 0 := fun e => h0 (by rw [← UInt8.toNat_inj]; exact e)
    simp; omega
  have hx2 := x.toNat_lt
  have w : IntKind.u64.wrap (x.toNat : Int) = (x.toNat : Int) := u64_small (by omega) (by omega)
  have o : iOr .u64 (iShl .u64 0 8) (x.toNat : Int) = (x.toNat : Int) := by
    have : iShl .u64 0 8 = 0 := by decide
    rw [this]
    have h2 : BitVec.ofInt 64 (x.toNat : Int) = BitVec.ofNat 64 x.toNat := by simp
    have h3 : (BitVec.ofInt 64 0 ||| BitVec.ofInt 64 (x.toNat : Int)).toNat = x.toNat := by
      rw [h2]
      simp
    unfold iOr
    show IntKind.u64.wrap ((BitVec.ofInt 64 0 ||| BitVec.ofInt 64 (x.toNat : Int)).toNat : Int) = _
    rw [h3]
    exact w
  have lp : loopX 0 (p40_l0 b (callX (cfg b) An) 0) [.c (.int .u64 0), .c (.sl 1 [.int .u8 (x.toNat : Int)]), .c (.int .i64 1), .c (.int .i64 0)] [] = some (.exit 0 [.c (.int .u64 (x.toNat : Int))], []) := by
    rw [loopX_eq]
    have a1 : iAdd .i64 0 1 = 1 := by decide
    simp [p40_l0, nthC0, w, o, a1]
    rw [loopX_eq]
    simp [p40_l0]
  rw [hb]
  simp [p40, nthC0, hx, lp]
theorem value_call (b : Bool) (x : UInt8) (h0 : x ≠ 0) : ∀ H, callX (cfg b) An 40 [.c (.sl 1 (bytesAV [x]))] H = some (.tup [.c (.int .u64 (x.toNat : Int)), .c (.int .i64 0)], H) := callX_pure (value_fn b x h0) rfl rfl (prim_none (by decide))
end Go.Fm
/-
  nodes.Decode of a node's bytes.
-/
set_option maxRecDepth 100000
set_option linter.unusedVariables false
set_option linter.unusedSimpArgs false
namespace Go.Fm
open Go Go.Proofs
theorem frz105 {b : Bool} : (cfg b).frz 105 = false := rfl
theorem intsC_map (k : IntKind) : ∀ ns : List Int, intsC k (ns.map (CV.int k)) = some ns
  | [] => rfl
  | n :: r => by simp [intsC, intsC_map k r]
/-! CF -/
set_option maxHeartbeats 16000000 in
theorem dec_leaf1 (b : Bool) (B k : List UInt8) (A : CV)
    (pc : ∀ H, callX (cfg b) An 39 [.c (.sl 1 (bytesAV B))] H = some (.tup [.c (.sl 2 [itC (1, k)]), .c (.int .i64 0)], H))
    (ec : ∀ H, callX (cfg b) An 28 [.c (.agg [.sl 1 (bytesAV k), .nilsl, .int .i64 0, .int .u64 1, .arr 32 .u8 (List.replicate 32 0), .arr 32 .u8 (List.replicate 32 0)])] H = some (.tup [.c (.sl 1 (bytesAV B)), .c (.int .i64 0)], H)) :
    fnX (cfg b) An 24 [.c (.sl 1 (bytesAV B))] [] = some (.tup [.c (.agg [.sl 1 (bytesAV k), .nilsl, .int .i64 0, .int .u64 1, .arr 32 .u8 (List.replicate 32 0), .arr 32 .u8 (List.replicate 32 0)]), .c (.int .i64 0)], []) := by
  rw [fnX_eq, p24_eq]
  simp only [List.reduceReplicate] at ec
  have a1 : iAdd .i64 0 1 = 1 := by decide
  have ic : itC (1, k) = .agg [.int .u8 1, .sl 1 (bytesAV k)] := rfl
  rw [ic] at pc
  simp (maxSteps := 1000000) [p24, pc, nthC0, frz38]
  rw [loopX_eq]
  simp (maxSteps := 1000000) [p24_l0, nthC0, frz38, frz105, a1]
  rw [loopX_eq]
  simp (maxSteps := 1000000) [p24_l0, nthC0, frz38, frz105, ec]
set_option maxHeartbeats 16000000 in
theorem dec_leaf2 (b : Bool) (B k v : List UInt8)
    (pc : ∀ H, callX (cfg b) An 39 [.c (.sl 1 (bytesAV B))] H = some (.tup [.c (.sl 2 [itC (1, k), itC (2, v)]), .c (.int .i64 0)], H))
    (ec : ∀ H, callX (cfg b) An 28 [.c (.agg [.sl 1 (bytesAV k), .sl 1 (bytesAV v), .int .i64 0, .int .u64 1, .arr 32 .u8 (List.replicate 32 0), .arr 32 .u8 (List.replicate 32 0)])] H = some (.tup [.c (.sl 1 (bytesAV B)), .c (.int .i64 0)], H)) :
    fnX (cfg b) An 24 [.c (.sl 1 (bytesAV B))] [] = some (.tup [.c (.agg [.sl 1 (bytesAV k), .sl 1 (bytesAV v), .int .i64 0, .int .u64 1, .arr 32 .u8 (List.replicate 32 0), .arr 32 .u8 (List.replicate 32 0)]), .c (.int .i64 0)], []) := by
  rw [fnX_eq, p24_eq]
  simp only [List.reduceReplicate] at ec
  have a1 : iAdd .i64 0 1 = 1 := by decide
  have a2 : iAdd .i64 1 1 = 2 := by decide
  have ic : itC (1, k) = .agg [.int .u8 1, .sl 1 (bytesAV k)] := rfl
  have ic2 : itC (2, v) = .agg [.int .u8 2, .sl 1 (bytesAV v)] := rfl
  rw [ic, ic2] at pc
  simp (maxSteps := 1000000) [p24, pc, nthC0, frz38]
  rw [loopX_eq]
  simp (maxSteps := 1000000) [p24_l0, nthC0, frz38, frz105, a1]
  rw [loopX_eq]
  simp (maxSteps := 1000000) [p24_l0, nthC1, frz38, frz105, a2]
  rw [loopX_eq]
  simp (maxSteps := 1000000) [p24_l0, nthC0, frz38, frz105, ec]
theorem nthC2 (a c d : CV) (l : List CV) : nthC (a :: c :: d :: l) 2 = d := rfl
theorem nthC3 (a c d e : CV) (l : List CV) : nthC (a :: c :: d :: e :: l) 3 = e := rfl
theorem nthC4 (a c d e f : CV) (l : List CV) : nthC (a :: c :: d :: e :: f :: l) 4 = f := rfl
set_option maxHeartbeats 16000000 in
theorem dec_node5 (b : Bool) (B k L R : List UInt8) (h z : UInt8) (h0 : h ≠ 0) (h1 : h.toNat ≤ 64) (z0 : z ≠ 0) (hL : L.length = 32) (hR : R.length = 32)
    (pc : ∀ H, callX (cfg b) An 39 [.c (.sl 1 (bytesAV B))] H = some (.tup [.c (.sl 2 [itC (1, k), itC (3, [h]), itC (4, [z]), itC (5, L), itC (6, R)]), .c (.int .i64 0)], H))
    (ec : ∀ H, callX (cfg b) An 28 [.c (.agg [.sl 1 (bytesAV k), .nilsl, .int .i64 (h.toNat : Int), .int .u64 (z.toNat : Int), .arr 32 .u8 (dI L), .arr 32 .u8 (dI R)])] H = some (.tup [.c (.sl 1 (bytesAV B)), .c (.int .i64 0)], H)) :
    fnX (cfg b) An 24 [.c (.sl 1 (bytesAV B))] [] = some (.tup [.c (.agg [.sl 1 (bytesAV k), .nilsl, .int .i64 (h.toNat : Int), .int .u64 (z.toNat : Int), .arr 32 .u8 (dI L), .arr 32 .u8 (dI R)]), .c (.int .i64 0)], []) := by
  rw [fnX_eq, p24_eq]
  have a1 : iAdd .i64 0 1 = 1 := by decide
  have a2 : iAdd .i64 1 1 = 2 := by decide
  have a3 : iAdd .i64 2 1 = 3 := by decide
  have a4 : iAdd .i64 3 1 = 4 := by decide
  have a5 : iAdd .i64 4 1 = 5 := by decide
  have vh := value_call b h h0
  have vz := value_call b z z0
  have ic : itC (1, k) = .agg [.int .u8 1, .sl 1 (bytesAV k)] := rfl
  have ic2 : itC (3, [h]) = .agg [.int .u8 3, .sl 1 (bytesAV [h])] := rfl
  have ic3 : itC (4, [z]) = .agg [.int .u8 4, .sl 1 (bytesAV [z])] := rfl
  have ic4 : itC (5, L) = .agg [.int .u8 5, .sl 1 (bytesAV L)] := rfl
  have ic5 : itC (6, R) = .agg [.int .u8 6, .sl 1 (bytesAV R)] := rfl
  have m1 : ¬ (65 : Int) < (h.toNat : Int) := by omega
  have w1 : IntKind.i64.wrap (h.toNat : Int) = (h.toNat : Int) := i64_small (by omega) (by omega)
  have dl := dI_map L
  have dr := dI_map R
  have k1 := take_av L 32 hL
  have k2 := take_av R 32 hR
  have i1 : intsC .u8 (bytesAV L) = some (dI L) := by rw [← dl]; exact intsC_map _ _
  have i2 : intsC .u8 (bytesAV R) = some (dI R) := by rw [← dr]; exact intsC_map _ _
  have ll : (dI L).length = 32 := by rw [len_dI, hL]
  have lr : (dI R).length = 32 := by rw [len_dI, hR]
  rw [ic, ic2, ic3, ic4, ic5] at pc
  generalize bytesAV [h] = BH at *
  generalize bytesAV [z] = BZ at *
  generalize (h.toNat : Int) = hI at *
  generalize (z.toNat : Int) = zI at *
  simp (maxSteps := 1000000) [p24, pc, nthC0, frz38]
  rw [loopX_eq]
  simp (maxSteps := 1000000) [p24_l0, nthC0, frz38, frz105, a1]
  rw [loopX_eq]
  simp (maxSteps := 1000000) [p24_l0, nthC1, frz38, frz105, a2, vh, m1, w1]
  rw [loopX_eq]
  simp (maxSteps := 1000000) [p24_l0, nthC2, frz38, frz105, a3, vz]
  rw [loopX_eq]
  simp (maxSteps := 1000000) [p24_l0, nthC3, frz38, frz105, a4, hL, k1, i1, ll]
  rw [loopX_eq]
  simp (maxSteps := 1000000) [p24_l0, nthC4, frz38, frz105, a5, hR, k2, i2, lr, ll]
  rw [loopX_eq]
  simp (maxSteps := 1000000) [p24_l0, nthC0, frz38, frz105, ec, ll, lr]
theorem numO_byte : ∀ n : Fin 100, 0 < n.val → numO (n.val : Int) = some [UInt8.ofNat n.val] := by decide
theorem numO_b {n : Nat} (h : n < 100) (h0 : 0 < n) : numO (n : Int) = some [UInt8.ofNat n] := numO_byte ⟨n, h⟩ h0
theorem shr8 {n : Nat} (h : n < 256) : byteOf (iShr .i64 (n : Int) 8) = 0 := by
  have : iShr .i64 (n : Int) 8 = 0 := by
    unfold iShr
    show (n : Int).fdiv (2 ^ 8) = 0
    rw [Int.fdiv_eq_ediv_of_nonneg _ (by decide)]
    omega
  rw [this]
  rfl
theorem byteOf_nat (n : Nat) (h : n < 256) : byteOf (n : Int) = UInt8.ofNat n := by
  unfold byteOf
  have : IntKind.u8.wrap (n : Int) = (n : Int) := by
    unfold IntKind.wrap
    simp [IntKind.bits, IntKind.signed]
    omega
  rw [this]
  rfl
theorem tput_it (o : Option (List UInt8)) (tag : UInt8) (v : List UInt8) (h0 : 0 < v.length) (h : v.length < 256) : tput o tag (some v) = pB o ++ itB (tag, v) := by
  unfold tput
  have : ¬ (pB (some v)).length = 0 := by simp only [pB]; omega
  rw [if_neg this]
  simp only [pB_s, shr8 h, byteOf_nat _ h, itB]
  simp
theorem tput_no (o : Option (List UInt8)) (tag : UInt8) (v : Option (List UInt8)) (h0 : (pB v).length = 0) : tput o tag v = pB o := by
  unfold tput
  rw [if_pos h0]
namespace Tn
def its : Tn → List It
  | leaf k v => (1, k) :: (match pB v with | [] => [] | x :: r => [(2, x :: r)])
  | node l r => [(1, r.least), (3, [UInt8.ofNat (node l r).ht]), (4, [UInt8.ofNat (node l r).sz]), (5, l.hash), (6, r.hash)]
end Tn
def Small : Tn → Prop
  | .leaf k v => 0 < k.length ∧ k.length ≤ 96 ∧ (pB v).length < 256
  | .node l r => 0 < r.least.length ∧ r.least.length ≤ 96 ∧ (Tn.node l r).sz ≤ 64
theorem enc_flat (t : Tn) (h : Small t) : t.enc = flat t.its := by
  cases t with
  | leaf k v =>
    obtain ⟨h0, h1, h2⟩ := h
    have n0 : numO ((Tn.leaf k v).ht : Int) = none := (by decide : numO 0 = none)
    have e : (Tn.leaf k v).enc = tput (some (tput (some (tput none 1 (some k))) 2 v)) 3 (numO ((Tn.leaf k v).ht : Int)) := rfl
    rw [e, n0, tput_no _ 3 none rfl, pB_s, tput_it none 1 k h0 (by omega)]
    cases v with
    | none => rw [tput_no _ 2 none rfl]; simp [Tn.its, flat, pB]
    | some v =>
      cases v with
      | nil => rw [tput_no _ 2 (some []) rfl]; simp [Tn.its, flat, pB]
      | cons x r => rw [tput_it _ 2 (x :: r) (by simp) (by simpa [pB] using h2)]; simp [Tn.its, flat, pB]
  | node l r =>
    obtain ⟨h0, h1, h2⟩ := h
    have hp : 0 < (Tn.node l r).ht := ht_node_posN l r
    have hz := (Tn.node l r).sz_pos
    have hs := Tn.ht_lt (.node l r)
    have e : (Tn.node l r).enc = tput (some (tput (some (tput (some (tput (some (tput (some (tput none 1 (some r.least))) 2 none)) 3 (numO ((Tn.node l r).ht : Int)))) 4 (numO ((Tn.node l r).sz : Int)))) 5 (some l.hash))) 6 (some r.hash) := rfl
    have hl := l.hash_len
    have hr := r.hash_len
    rw [e, numO_b (n := (Tn.node l r).ht) (by omega) hp, numO_b (n := (Tn.node l r).sz) (by omega) hz, tput_it none 1 _ h0 (by omega), tput_no _ 2 none rfl, tput_it _ 3 _ (by simp) (by simp), tput_it _ 4 _ (by simp) (by simp), tput_it _ 5 _ (by omega) (by omega), tput_it _ 6 _ (by omega) (by omega)]
    simp [Tn.its, flat, pB]
theorem its_ok (t : Tn) (h : Small t) : ItsOk t.its := by
  cases t with
  | leaf k v =>
    obtain ⟨h0, h1, h2⟩ := h
    cases hv : pB v with
    | nil =>
      have e : (Tn.leaf k v).its = [(1, k)] := by simp [Tn.its, hv]
      rw [e]
      exact ⟨by simp, by intro p hp; simp only [List.mem_singleton] at hp; subst hp; exact ⟨h0, by simp only; omega⟩⟩
    | cons x r =>
      have e : (Tn.leaf k v).its = [(1, k), (2, x :: r)] := by simp [Tn.its, hv]
      rw [e]
      rw [hv] at h2
      refine ⟨by simp, ?_⟩
      intro p hp
      simp only [List.mem_cons, List.not_mem_nil, or_false] at hp
      rcases hp with rfl | rfl
      · exact ⟨h0, by simp only; omega⟩
      · exact ⟨by simp, h2⟩
  | node l r =>
    obtain ⟨h0, h1, h2⟩ := h
    have hl := l.hash_len
    have hr := r.hash_len
    refine ⟨by simp [Tn.its], ?_⟩
    intro p hp
    simp only [Tn.its, List.mem_cons, List.not_mem_nil, or_false] at hp
    rcases hp with rfl | rfl | rfl | rfl | rfl <;> simp only [List.length_cons, List.length_nil] <;> omega
end Go.Fm
/-
  nodes.Base: New, Save, Len.
-/
set_option maxRecDepth 100000
set_option linter.unusedVariables false
set_option linter.unusedSimpArgs false
namespace Go.Fm
open Go Go.Proofs
theorem frz81 {b : Bool} : (cfg b).frz 81 = false := rfl
theorem eqg107 {b : Bool} : (cfg b).P.eqGuardType (cfg b).P.depth 26 = false := by kernel_rfl
theorem aeq107 {b : Bool} {x y : AV} : aeq (cfg b).P 12 26 x y = ptrEq x y := aeq_ptr (e := 81) (by kernel_rfl)
theorem be26 {b lit : Bool} {x y : AV} {H : Heap} (h : isIS x y = false) : mBin (cfg b) 26 lit .eql x y H = eqH H false (ptrEq x y) := by rw [mBin_eqg eqg107 h, aeq107]
abbrev Mp := List (List UInt8 × List UInt8)
def mC (m : Mp) : List (CV × CV) := m.map fun p => (.arr 32 .u8 (dI p.1), .sl 1 (bytesAV p.2))
def lkM (h : List UInt8) : Mp → Option (List UInt8)
  | [] => none
  | p :: r => if h = p.1 then some p.2 else lkM h r
theorem dI_inj' : ∀ {a c : List UInt8}, dI a = dI c → a = c
  | [], [], _ => rfl
  | [], _ :: _, h => by simp [dI] at h
  | _ :: _, [], h => by simp [dI] at h
  | x :: a, y :: c, h => by
    simp only [dI, List.map_cons, List.cons.injEq] at h
    have hx : x.toNat = y.toNat := by have := h.1; omega
    rw [UInt8.toNat_inj.1 hx, dI_inj' (a := a) (c := c) h.2]
theorem dI_inj {a c : List UInt8} : (dI a == dI c) = (a == c) := by
  by_cases h : a = c
  · subst h; simp
  · have : dI a ≠ dI c := fun e => h (dI_inj' e)
    rw [beq_eq_false_iff_ne.2 this, beq_eq_false_iff_ne.2 h]
theorem aeq41h {b : Bool} (h k : List UInt8) : aeq (cfg b).P 12 34 (.c (.arr 32 .u8 (dI h))) (.c (.arr 32 .u8 (dI k))) = some (h == k) := by
  rw [aeq41, arrEq_e, dI_inj]
theorem findE_m {b : Bool} (h : List UInt8) : ∀ m : Mp, findE (cfg b).P 34 (.arr 32 .u8 (dI h)) (mC m) = some ((lkM h m).map fun e => .sl 1 (bytesAV e))
  | [] => rfl
  | p :: r => by
    have ih := findE_m (b := b) h r
    simp only [mC, List.map_cons] at ih ⊢
    rw [findE, aeq41h]
    by_cases e : h = p.1
    · simp [lkM, e]
    · have : (h == p.1) = false := by simpa using e
      simp only [this, lkM, e, if_false]
      exact ih
theorem putM_m {b : Bool} (h e : List UInt8) : ∀ m : Mp, lkM h m = none → putM (cfg b).P 34 (.arr 32 .u8 (dI h)) (.sl 1 (bytesAV e)) (mC m) = some (mC (m ++ [(h, e)]))
  | [], _ => rfl
  | p :: r, hn => by
    have hne : ¬ h = p.1 := by intro e; simp [lkM, e] at hn
    have hn' : lkM h r = none := by simpa [lkM, hne] using hn
    have ih := putM_m (b := b) h e r hn'
    simp only [mC, List.map_cons, List.cons_append] at ih ⊢
    rw [putM, aeq41h]
    have : (h == p.1) = false := by simpa using hne
    simp only [this]
    rw [ih]
    rfl
theorem keyOk41 {b : Bool} (ns : List Int) : keyOk (cfg b).P 34 (.arr 32 .u8 ns) = true := by
  have h1 : (cfg b).P.underlying 34 = some (.array 32 5) := by kernel_rfl
  have h2 : (cfg b).P.underlying 5 = some (.int .u8) := by kernel_rfl
  have h3 : (cfg b).P.cellsOf 5 = 1 := by kernel_rfl
  have h4 : ((cfg b).P.info? 5).isSome = true := by kernel_rfl
  simp only [keyOk, h1, h2, h3, h4]
  rfl
def baH (m : Mp) : Heap := [.var 81 (.agg [.mp 1]), .mp (mC m)]
theorem bnew_fn (b : Bool) : fnX (cfg b) An 13 [] [] = some (.ov 0 [] 0, baH []) := by
  rw [fnX_eq, p13_eq]
  simp [p13, frz81, baH, mC]
end Go.Fm
/-
  nodes.Base: Save.
-/
set_option maxRecDepth 100000
set_option linter.unusedVariables false
set_option linter.unusedSimpArgs false
namespace Go.Fm
open Go Go.Proofs
theorem frz41n {b : Bool} : (cfg b).frz 34 = false := rfl
def EncFn (b : Bool) (n : Tn) : Prop := ∀ H, callX (cfg b) An 28 [.c n.api] H = some (.tup [.c (.sl 1 (bytesAV n.enc)), .c (.int .i64 0)], H)
def NdOk (p : Pr) : Prop := 0 < p.1.length ∧ p.1.length ≤ 96 ∧ (pB p.2).length ≤ 256
theorem nodesL_facts : ∀ (t n : Tn), n ∈ t.nodesL → n.sz ≤ t.sz ∧ (∀ p ∈ n.leaves, p ∈ t.leaves) ∧ (t.fit → n.fit)
  | .leaf k v, n, h => by
    simp only [Tn.nodesL, List.mem_singleton] at h
    subst h
    exact ⟨Nat.le_refl _, fun _ h => h, fun h => h⟩
  | .node l r, n, h => by
    simp only [Tn.nodesL, List.mem_cons, List.mem_append] at h
    rcases h with rfl | h | h
    · exact ⟨Nat.le_refl _, fun _ h => h, fun h => h⟩
    · obtain ⟨h1, h2, h3⟩ := nodesL_facts l n h
      exact ⟨by simp only [Tn.sz]; omega, fun p hp => by simp only [Tn.leaves]; exact List.mem_append.2 (.inl (h2 p hp)), fun hf => h3 hf.1⟩
    · obtain ⟨h1, h2, h3⟩ := nodesL_facts r n h
      exact ⟨by simp only [Tn.sz]; omega, fun p hp => by simp only [Tn.leaves]; exact List.mem_append.2 (.inr (h2 p hp)), fun hf => h3 hf.2⟩
theorem enc_ok (b : Bool) (n : Tn) (ho : ∀ p ∈ n.leaves, NdOk p) (hs : n.sz ≤ 64) : EncFn b n := by
  intro H
  cases n with
  | leaf k v =>
    obtain ⟨h0, h1, h2⟩ := ho (k, v) (by simp [Tn.leaves])
    exact callX_pure (enc_leaf b k v h0 h1 h2) rfl rfl (prim_none (by decide)) H
  | node l r =>
    obtain ⟨v, q, e⟩ := Tn.leaves_head r
    obtain ⟨h0, h1, _⟩ := ho (r.least, v) (by simp only [Tn.leaves]; rw [e]; simp)
    have := Tn.ht_lt (.node l r)
    exact callX_pure (enc_node b l r h0 h1 (by omega)) rfl rfl (prim_none (by decide)) H
def sv1 (m : Mp) (n : Tn) : Mp := if (lkM n.hash m).isSome = true then m else m ++ [(n.hash, n.enc)]
def saveM (l : List Tn) (m : Mp) : Mp := l.foldl sv1 m
def svH (m : Mp) : Heap := [.var 81 (.agg [.mp 1]), .mp (mC m), .var 34 (.c (.arr 32 .u8 (List.replicate 32 0)))]
def svS (t : Option Tn) (l : List Tn) (i : Int) : List AV := [.ov 0 [] 0, .c (tC t), .ov 2 [] 0, .c (.sl 68 (l.map Tn.api)), .c (.int .i64 (l.length : Int)), .c (.int .i64 i)]
/-! CF -/
set_option maxHeartbeats 16000000 in
theorem sv_step (b : Bool) (t : Option Tn) (l : List Tn) (hm : l.length ≤ 100000) (pre rest : List Tn) (n : Tn) (h : l = pre ++ n :: rest) (hf : n.fit) (he : EncFn b n) (m : Mp) :
    loopX 2 (p14_l0 b (callX (cfg b) An) 2) (svS t l (pre.length : Int)) (svH m) = loopX 2 (p14_l0 b (callX (cfg b) An) 2) (svS t l ((pre.length : Int) + 1)) (svH (sv1 m n)) := by
  have hl : pre.length < l.length := by subst h; simp
  have hg : l.getD pre.length (.leaf [] none) = n := by rw [h]; simp [List.getD_eq_getElem?_getD]
  have hn : nthC (l.map Tn.api) pre.length = n.api := by rw [nthC_map (.leaf [] none) hl, hg]
  have hI : (pre.length : Int) < (l.length : Int) := by omega
  have ha := idx_add pre.length (by omega)
  have hc := hash_call b n hf
  have ec := he
  unfold EncFn at ec
  have fe := findE_m (b := b) n.hash m
  have pe := putM_m (b := b) n.hash n.enc m
  have hl32 : (dI n.hash).length = 32 := by rw [len_dI]; exact n.hash_len
  have ko := keyOk41 (b := b) (dI n.hash)
  have s1 := csz_api n
  have s2 := cag_api n
  clear h hg
  unfold sv1
  generalize n.hash = hs at *
  generalize n.enc = en at *
  generalize n.api = ap at *
  generalize pre.length = i at *
  rw [loopX_eq]
  cases hk : lkM hs m with
  | some x =>
    rw [hk] at fe
    simp only [Option.map_some] at fe
    simp only [Option.isSome_some, if_true, svS, svH]
    generalize mC m = M at *
    simp (maxSteps := 1000000) [p14_l0, p14_l0_d0, p14_l0_d1, hl, hI, hn, ha, hc, fe, ko, s1, s2, hl32, frz81, frz41n, frz38]
    exact loopX_gc (by simp) (by simp)
  | none =>
    rw [hk] at fe
    have pe := pe hk
    simp only [Option.map_none] at fe
    simp only [Option.isSome_none, Bool.false_eq_true, if_false, svS, svH]
    generalize mC (m ++ [(hs, en)]) = M2 at *
    generalize mC m = M at *
    simp (maxSteps := 1000000) [p14_l0, p14_l0_d0, p14_l0_d1, hl, hI, hn, ha, hc, fe, pe, ec, ko, s1, s2, hl32, frz81, frz41n, frz38]
    exact loopX_gc (by simp) (by simp)
theorem sv_loop (b : Bool) (t : Option Tn) (l : List Tn) (hm : l.length ≤ 100000) (hf : ∀ n ∈ l, n.fit) (he : ∀ n ∈ l, EncFn b n) : ∀ (rest pre : List Tn) (m : Mp), l = pre ++ rest →
    loopX 2 (p14_l0 b (callX (cfg b) An) 2) (svS t l (pre.length : Int)) (svH m) = some (.exit 0 [.c (tC t), .ov 2 [] 0], svH (saveM rest m))
  | [], pre, m, h => by
    rw [List.append_nil] at h
    rw [loopX_eq, ← h]
    simp only [svS, svH]
    simp [p14_l0, saveM]
  | n :: rest, pre, m, h => by
    have hn : n ∈ l := by subst h; simp
    rw [sv_step b t l hm pre rest n h (hf n hn) (he n hn) m]
    have ih := sv_loop b t l hm hf he rest (pre ++ [n]) (sv1 m n) (by rw [h]; simp)
    have e : (((pre ++ [n]).length : Nat) : Int) = (pre.length : Int) + 1 := by simp
    rw [e] at ih
    rw [ih]
    rfl
def Tn.nodesO : Option Tn → List Tn
  | none => []
  | some t => t.nodesL
structure TrOk (b : Bool) (t : Option Tn) : Prop where
  fit : ∀ u, t = some u → u.fit
  sz : Tn.szo t ≤ 64
  ok : ∀ p ∈ Tn.leaveso t, NdOk p
theorem TrOk.encs {b : Bool} {t : Option Tn} (h : TrOk b t) : ∀ n ∈ Tn.nodesO t, n.fit ∧ EncFn b n := by
  intro n hn
  cases t with
  | none => simp [Tn.nodesO] at hn
  | some t =>
    obtain ⟨h1, h2, h3⟩ := nodesL_facts t n hn
    have hs := h.sz
    simp only [Tn.szo] at hs
    exact ⟨h3 (h.fit t rfl), enc_ok b n (fun p hp => h.ok p (h2 p hp)) (by omega)⟩
set_option maxHeartbeats 4000000 in
theorem save_fn (b : Bool) (t : Option Tn) (h : TrOk b t) (m : Mp) : fnX (cfg b) An 14 [.ov 0 [] 0, .c (tC t)] (baH m) = some (.tup [.c (.arr 32 .u8 (dI (Tn.hasho t))), .c (.int .i64 0)], baH (saveM (Tn.nodesO t) m)) := by
  rw [fnX_eq, p14_eq]
  have nc : ∀ H, callX (cfg b) An 6 [.c (tC t)] H = some (.c (Tn.apiso t), H) := callX_pure (Nodes_fn b t h.fit (by have := h.sz; omega)) rfl rfl (prim_none (by decide))
  have rc := Root_call b t
  have hT : ptrEq (.c (tC t)) (.c .nilp) = some false := rfl
  have hl : (dI (Tn.hasho t)).length = 32 := by rw [len_dI]; cases t with
    | none => exact shaW_len _
    | some t => exact t.hash_len
  cases t with
  | none =>
    have lp : loopX 2 (p14_l0 b (callX (cfg b) An) 2) [.ov 0 [] 0, .c (tC none), .ov 2 [] 0, .c .nilsl, .c (.int .i64 0), .c (.int .i64 0)] (svH m) = some (.exit 0 [.c (tC none), .ov 2 [] 0], svH m) := by
      rw [loopX_eq]
      simp only [svH]
      simp [p14_l0]
    simp only [Tn.apiso] at nc
    generalize Tn.hasho none = R at *
    simp only [baH, svH, Tn.nodesO, saveM, List.foldl_nil, List.reduceReplicate] at lp ⊢
    generalize mC m = M at *
    simp [p14, be26, be25, hT, nc, lp, rc, hl, frz81, frz41n]
  | some t =>
    have hsz := h.sz
    simp only [Tn.szo] at hsz
    have hlen := t.nodesL_len
    have lp := sv_loop b (some t) t.nodesL (by omega) (fun n hn => (h.encs n hn).1) (fun n hn => (h.encs n hn).2) t.nodesL [] m rfl
    have z0 : ((([] : List Tn).length : Nat) : Int) = 0 := rfl
    rw [z0] at lp
    simp only [Tn.apiso, Tn.apis] at nc
    have hL : (t.nodesL.map Tn.api).length = t.nodesL.length := by simp
    generalize Tn.hasho (some t) = R at *
    simp only [baH, svH, svS, Tn.nodesO, List.reduceReplicate] at lp ⊢
    generalize t.nodesL.length = N at *
    generalize t.nodesL.map Tn.api = AP at *
    generalize mC (saveM t.nodesL m) = M2 at *
    generalize mC m = M at *
    simp [p14, be26, be25, hT, nc, hL, lp, rc, hl, frz81, frz41n]
end Go.Fm
/-
  nodes.Base: Get; a Base that is nil.
-/
set_option maxRecDepth 100000
set_option linter.unusedVariables false
set_option linter.unusedSimpArgs false
namespace Go.Fm
open Go Go.Proofs
theorem keepR84 {b : Bool} : (cfg b).keepR 23 = true := rfl
def gtB (h : List UInt8) (m : Mp) : List UInt8 := pB (lkM h m)
/-! CF -/
set_option maxHeartbeats 8000000 in
theorem get_fn (b : Bool) (h : List UInt8) (hh : h.length = 32) (m : Mp) (hm : (gtB h m).length ≤ 100000) : fnX (cfg b) An 23 [.ov 0 [] 0, .c (.arr 32 .u8 (dI h))] (baH m) = some (.tup [.os 2, .c (.bool (lkM h m).isSome)], baH m ++ [.row 5 1 (bytesAV (gtB h m))]) := by
  rw [fnX_eq, p23_eq]
  have fe := findE_m (b := b) h m
  have ko := keyOk41 (b := b) (dI h)
  have hl32 : (dI h).length = 32 := by rw [len_dI]; exact hh
  unfold gtB at *
  have b0 : bytesAV [] = [] := rfl
  cases hk : lkM h m with
  | none =>
    rw [hk] at fe
    simp only [Option.map_none] at fe
    simp only [baH]
    generalize mC m = M at *
    simp (maxSteps := 1000000) [p23, p23_d0, be26, fe, ko, hl32, frz81, frz41n, pB, b0]
  | some e =>
    rw [hk] at fe hm
    simp only [pB] at hm
    have h1 : e.length ≤ 140737488355328 := by omega
    have h2 : e.length ≤ maxLen := big_max (by omega)
    simp only [Option.map_some] at fe
    simp only [baH]
    generalize mC m = M at *
    simp (maxSteps := 1000000) [p23, p23_d0, be26, fe, ko, hl32, h1, h2, frz81, frz41n, pB]
end Go.Fm
/-
  nodes: what both of its laws start with.
-/
set_option maxRecDepth 100000
set_option linter.unusedVariables false
set_option linter.unusedSimpArgs false
namespace Go.Fm
open Go Go.Proofs
theorem v13 {b : Bool} {H : Heap} {vs : List AV} : callX (cfg b) An 13 vs H = cvw (fnX (cfg b) An 13) (handCs (cfg b) false H vs) := callX_v (prim_none (by decide))
theorem v14 {b : Bool} {H : Heap} {vs : List AV} : callX (cfg b) An 14 vs H = cvw (fnX (cfg b) An 14) (handCs (cfg b) false H vs) := callX_v (prim_none (by decide))
theorem v12 {b : Bool} {H : Heap} {vs : List AV} : callX (cfg b) An 12 vs H = cvw (fnX (cfg b) An 12) (handCs (cfg b) false H vs) := callX_v (prim_none (by decide))
/-! CF -/
theorem growS_ndok (most : Nat) : ∀ (l : List ActL) (i : Nat) (s : GS), (∀ p ∈ s.2, NdOk p) → ∀ p ∈ (growS most l i s).2, NdOk p
  | [], i, s, h => h
  | a :: r, i, s, h => by
    unfold growS
    split
    · exact h
    · rename_i hc
      have hk : 0 < a.key.length := List.length_pos_iff.2 a.key_ne
      have hv : (pB (upto 100 a.val)).length ≤ 100 := by rw [pB_upto, List.length_take]; omega
      refine growS_ndok most r (i + 1) _ ?_
      split
      · intro p hp
        rcases putP_mem hp with rfl | hp
        · exact ⟨hk, by simp only; omega, by simp only; omega⟩
        · exact h p hp
      · intro p hp
        exact h p (List.mem_filter.1 hp).1
end Go.Fm

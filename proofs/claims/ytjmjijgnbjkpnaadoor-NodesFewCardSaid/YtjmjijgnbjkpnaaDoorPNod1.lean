/-
  A part of the proof: PNod1.
-/
import Derived.Test.YtjmjijgnbjkpnaaDoorPSeal
import Derived.Test.YtjmjijgnbjkpnaaDoorPRefs
import Derived.Test.YtjmjijgnbjkpnaaDoorPLaw14
import Derived.Test.YtjmjijgnbjkpnaaDoorDNodes
set_option linter.all false
set_option autoImplicit true
/-
  nodes.Encode of a tree's nodes.
-/
set_option maxRecDepth 100000
set_option linter.unusedVariables false
set_option linter.unusedSimpArgs false
namespace Go.Fm
open Go Go.Proofs

theorem frz38 {b : Bool} : (cfg b).frz 38 = false := rfl
theorem frz66 {b : Bool} : (cfg b).frz 66 = false := rfl
theorem put_cl (b : Bool) (o : Option (List UInt8)) (tag : UInt8) (v : Option (List UInt8)) (ho : (pB o).length ≤ 1000000) (hv : (pB v).length ≤ 65535) :
    fnX (cfg b) An 129 [.c (.int .u8 (tag.toNat : Int)), .c (pV v), .ov 0 [] 0] [.var 38 (.c (pV o))] = some (.tup [], [.var 38 (.c (.sl 1 (bytesAV (tput o tag v))))]) := by
  rw [fnX_eq, p129_eq]
  have tc := tput_call b o tag v ho hv
  simp [p129, tc, csz_pV, cag_pV]
theorem v129 {b : Bool} {H : Heap} {vs : List AV} : callX (cfg b) An 129 vs H = cvw (fnX (cfg b) An 129) (handCs (cfg b) false H vs) := callX_v (prim_none (by decide))
theorem pB_s (l : List UInt8) : pB (some l) = l := rfl
theorem pB_n : pB none = [] := rfl
namespace Tn
/-- A node's bytes. -/
def enc (t : Tn) : List UInt8 :=
  let b3 := tput (some (tput (some (tput none 1 (some t.key))) 2 t.val)) 3 (numO (t.ht : Int))
  match t with
  | leaf _ _ => b3
  | node _ _ => tput (some (tput (some (tput (some b3) 4 (numO (t.sz : Int)))) 5 (some t.lh))) 6 (some t.rh)
end Tn
theorem zero32_dI : dI zero32 = List.replicate 32 0 := by decide
/-! CF -/
set_option maxHeartbeats 8000000 in
theorem enc_leaf (b : Bool) (k : List UInt8) (v : Option (List UInt8)) (h0 : 0 < k.length) (h1 : k.length ≤ 96) (h2 : (pB v).length ≤ 256) :
    fnX (cfg b) An 106 [.c (Tn.leaf k v).api] [] = some (.tup [.c (.sl 1 (bytesAV (Tn.leaf k v).enc)), .c (.int .i64 0)], []) := by
  rw [fnX_eq, p106_eq]
  have l1 := tput_len none 1 (some k)
  have l2 := tput_len (some (tput none 1 (some k))) 2 v
  simp only [pB_s, pB_n, List.length_nil] at l1 l2
  have p1 := put_cl b none 1 (some k) (by simp [pB_n]) (by rw [pB_s]; omega)
  have p2 := put_cl b (some (tput none 1 (some k))) 2 v (by rw [pB_s]; omega) (by omega)
  have p3 := put_cl b (some (tput (some (tput none 1 (some k))) 2 v)) 3 (numO 0) (by rw [pB_s]; omega) (by have := numO_len 0; omega)
  have tn := tnum_call b 0
  have t1 : ((1 : UInt8).toNat : Int) = 1 := rfl
  have t2 : ((2 : UInt8).toNat : Int) = 2 := rfl
  have t3 : ((3 : UInt8).toNat : Int) = 3 := rfl
  have ha : (Tn.leaf k v).api = .agg [.sl 1 (bytesAV k), pV v, .int .i64 0, .int .u64 1, .arr 32 .u8 (List.replicate 32 0), .arr 32 .u8 (List.replicate 32 0)] := by rw [api_leaf, zero32_dI]
  have he : (Tn.leaf k v).enc = tput (some (tput (some (tput none 1 (some k))) 2 v)) 3 (numO 0) := rfl
  have e1 : pV none = .nilsl := rfl
  have hk0 : ¬ k.length = 0 := by omega
  have hk0' : ¬ k = [] := by intro h; subst h; simp at h0
  have hk1 : ¬ (96 : Int) < (k.length : Int) := by omega
  have hv1 : ¬ (256 : Int) < ((pB v).length : Int) := by omega
  have w0 : IntKind.u64.wrap 0 = 0 := by decide
  have vz := csz_pV v
  have vg := cag_pV v
  have nz := csz_pV (numO 0)
  have ng := cag_pV (numO 0)
  have lv := fun H => lenOf_pV H v
  rw [ha, he]
  generalize tput (some (tput (some (tput none 1 (some k))) 2 v)) 3 (numO 0) = B3 at *
  generalize tput (some (tput none 1 (some k))) 2 v = B2 at *
  generalize tput none 1 (some k) = B1 at *
  generalize numO 0 = N0 at *
  simp only [t1, t2, t3, pVs, e1] at p1 p2 p3
  simp (maxSteps := 1000000) [p106, hk0, hk0', hk1, hv1, lv, vz, vg, nz, ng, v129, p1, p2, p3, tn, w0, be41, bne41, frz38, frz66]
set_option maxHeartbeats 16000000 in
theorem enc_core (b : Bool) (k : List UInt8) (h z : Int) (L R : List UInt8) (h0 : 0 < k.length) (h1 : k.length ≤ 96) (hh : 0 < h) (hh2 : h ≤ 64) (hl : L.length = 32) (hr : R.length = 32) (B1 B2 B3 B4 B5 B6 : List UInt8)
    (p1 : fnX (cfg b) An 129 [.c (.int .u8 1), .c (.sl 1 (bytesAV k)), .ov 0 [] 0] [.var 38 (.c .nilsl)] = some (.tup [], [.var 38 (.c (.sl 1 (bytesAV B1)))]))
    (p2 : fnX (cfg b) An 129 [.c (.int .u8 2), .c .nilsl, .ov 0 [] 0] [.var 38 (.c (.sl 1 (bytesAV B1)))] = some (.tup [], [.var 38 (.c (.sl 1 (bytesAV B2)))]))
    (N3 N4 : CV) (n3 : N3.size = 1 ∧ N3.isAgg = false) (n4 : N4.size = 1 ∧ N4.isAgg = false)
    (p3 : fnX (cfg b) An 129 [.c (.int .u8 3), .c N3, .ov 0 [] 0] [.var 38 (.c (.sl 1 (bytesAV B2)))] = some (.tup [], [.var 38 (.c (.sl 1 (bytesAV B3)))]))
    (p4 : fnX (cfg b) An 129 [.c (.int .u8 4), .c N4, .ov 0 [] 0] [.var 38 (.c (.sl 1 (bytesAV B3)))] = some (.tup [], [.var 38 (.c (.sl 1 (bytesAV B4)))]))
    (p5 : fnX (cfg b) An 129 [.c (.int .u8 5), .c (.sl 1 (bytesAV L)), .ov 0 [] 0] [.var 38 (.c (.sl 1 (bytesAV B4)))] = some (.tup [], [.var 38 (.c (.sl 1 (bytesAV B5)))]))
    (p6 : fnX (cfg b) An 129 [.c (.int .u8 6), .c (.sl 1 (bytesAV R)), .ov 0 [] 0] [.var 38 (.c (.sl 1 (bytesAV B5)))] = some (.tup [], [.var 38 (.c (.sl 1 (bytesAV B6)))]))
    (t3 : ∀ H, callX (cfg b) An 131 [.c (.int .u64 h)] H = some (.c N3, H)) (t4 : ∀ H, callX (cfg b) An 131 [.c (.int .u64 z)] H = some (.c N4, H)) :
    fnX (cfg b) An 106 [.c (.agg [.sl 1 (bytesAV k), .nilsl, .int .i64 h, .int .u64 z, .arr 32 .u8 (dI L), .arr 32 .u8 (dI R)])] [] = some (.tup [.c (.sl 1 (bytesAV B6)), .c (.int .i64 0)], []) := by
  rw [fnX_eq, p106_eq]
  have hk0 : ¬ k.length = 0 := by omega
  have hk0' : ¬ k = [] := by intro h; subst h; simp at h0
  have hk1 : ¬ (96 : Int) < (k.length : Int) := by omega
  have e1 : ¬ h < 0 := by omega
  have e2 : ¬ (64 : Int) < h := by omega
  have e3 : ¬ h = 0 := by omega
  have e3b : (h == 0) = false := by simpa using e3
  have w0 : IntKind.u64.wrap h = h := u64_small (by omega) (by omega)
  have d1 : (dI L).length = 32 := by rw [len_dI, hl]
  have d2 : (dI R).length = 32 := by rw [len_dI, hr]
  have a1 := dI_map L
  have a2 := dI_map R
  have k1 := take_av L 32 hl
  have k2 := take_av R 32 hr
  have h32 : 32 ≤ maxLen := big_max (by decide)
  simp (maxSteps := 1000000) [p106, hk0, hk0', hk1, e1, e2, e3b, hh, w0, v129, p1, p2, p3, p4, p5, p6, t3, t4, n3, n4, d1, d2, a1, a2, k1, k2, h32, be41, bne41, frz38, frz66]
theorem enc_node (b : Bool) (l r : Tn) (h0 : 0 < r.least.length) (h1 : r.least.length ≤ 96) (hh : (Tn.node l r).ht ≤ 64) :
    fnX (cfg b) An 106 [.c (Tn.node l r).api] [] = some (.tup [.c (.sl 1 (bytesAV (Tn.node l r).enc)), .c (.int .i64 0)], []) := by
  have hp : 0 < (Tn.node l r).ht := ht_node_posN l r
  have ha : (Tn.node l r).api = .agg [.sl 1 (bytesAV r.least), .nilsl, .int .i64 ((Tn.node l r).ht : Int), .int .u64 ((Tn.node l r).sz : Int), .arr 32 .u8 (dI l.hash), .arr 32 .u8 (dI r.hash)] := rfl
  have he : (Tn.node l r).enc = tput (some (tput (some (tput (some (tput (some (tput (some (tput none 1 (some r.least))) 2 none)) 3 (numO ((Tn.node l r).ht : Int)))) 4 (numO ((Tn.node l r).sz : Int)))) 5 (some l.hash))) 6 (some r.hash) := rfl
  have hl := l.hash_len
  have hr := r.hash_len
  rw [ha, he]
  generalize (Tn.node l r).ht = h at *
  generalize (Tn.node l r).sz = z at *
  have l1 := tput_len none 1 (some r.least)
  have l2 := tput_len (some (tput none 1 (some r.least))) 2 none
  have l3 := tput_len (some (tput (some (tput none 1 (some r.least))) 2 none)) 3 (numO (h : Int))
  have l4 := tput_len (some (tput (some (tput (some (tput none 1 (some r.least))) 2 none)) 3 (numO (h : Int)))) 4 (numO (z : Int))
  have l5 := tput_len (some (tput (some (tput (some (tput (some (tput none 1 (some r.least))) 2 none)) 3 (numO (h : Int)))) 4 (numO (z : Int)))) 5 (some l.hash)
  simp only [pB_s, pB_n, List.length_nil] at l1 l2 l3 l4 l5
  have n3 := numO_len (h : Int)
  have n4 := numO_len (z : Int)
  have p1 := put_cl b none 1 (some r.least) (by simp [pB_n]) (by rw [pB_s]; omega)
  have p2 := put_cl b (some (tput none 1 (some r.least))) 2 none (by rw [pB_s]; omega) (by simp [pB_n])
  have p3 := put_cl b (some (tput (some (tput none 1 (some r.least))) 2 none)) 3 (numO (h : Int)) (by rw [pB_s]; omega) (by omega)
  have p4 := put_cl b (some (tput (some (tput (some (tput none 1 (some r.least))) 2 none)) 3 (numO (h : Int)))) 4 (numO (z : Int)) (by rw [pB_s]; omega) (by omega)
  have p5 := put_cl b (some (tput (some (tput (some (tput (some (tput none 1 (some r.least))) 2 none)) 3 (numO (h : Int)))) 4 (numO (z : Int)))) 5 (some l.hash) (by rw [pB_s]; omega) (by rw [pB_s]; omega)
  have p6 := put_cl b (some (tput (some (tput (some (tput (some (tput (some (tput none 1 (some r.least))) 2 none)) 3 (numO (h : Int)))) 4 (numO (z : Int)))) 5 (some l.hash))) 6 (some r.hash) (by rw [pB_s]; omega) (by rw [pB_s]; omega)
  exact enc_core b r.least (h : Int) (z : Int) l.hash r.hash h0 h1 (by omega) (by omega) hl hr _ _ _ _ _ _ p1 p2 (pV (numO (h : Int))) (pV (numO (z : Int))) ⟨csz_pV _, cag_pV _⟩ ⟨csz_pV _, cag_pV _⟩ p3 p4 p5 p6 (tnum_call b (h : Int)) (tnum_call b (z : Int))
end Go.Fm


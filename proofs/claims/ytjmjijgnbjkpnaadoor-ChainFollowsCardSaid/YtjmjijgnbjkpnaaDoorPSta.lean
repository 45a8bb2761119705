/-
  A part of the proof: PSta.
-/
import Derived.Test.YtjmjijgnbjkpnaaDoorPEq80
import Derived.Test.YtjmjijgnbjkpnaaDoorPEp
import Derived.Test.YtjmjijgnbjkpnaaDoorDMisc
set_option linter.all false
set_option autoImplicit true
/-
  Law 17, ChainStays.
-/
set_option maxRecDepth 100000
set_option linter.unusedVariables false
set_option linter.unusedSimpArgs false
namespace Go.Fm
open Go Go.Proofs

/-! CF -/
theorem tree_one (b : Bool) (a : UInt8) (p h tm : Int) (hs : List CV) (t : Option Tn) (us : List (Option Tn)) (hu : us.length ≤ 1000) :
    fnX (cfg b) An 54 [.ov 0 [] 0, .c (.int .u64 1)] (chH a p h tm hs 1 ((t :: us).map tC)) = some (.tup [.c (tC t), .c (.bool true)], chH a p h tm hs 1 ((t :: us).map tC)) := by
  rw [fnX_eq, p54_eq]
  have ai := at_in b 64 1 1 (t :: us) (by omega) (by omega) (by simp) (by simp; omega)
  have n1 : ((1 : Nat) : Int) = 1 := rfl
  have g : (t :: us).getD (1 - 1) none = t := rfl
  rw [n1, g] at ai
  generalize (t :: us).map tC = ts at *
  simp only [chH, logH] at ai ⊢
  simp [p54, be81, v27, ai, frz137, keep27]
def lpH (V : CV) (h tm : Int) (hs ts : List CV) : Heap := [.var 152 (.agg [.c (.int .u8 ((3 : UInt8).toNat : Int)), .c (.int .u64 100), .c (.int .u64 h), .c (.int .u64 tm), .ov 2 [] 0, .os 3, .c .nilp]), .var 80 (.c V), .var 137 (.agg [.c (.int .i64 64), .c (.int .u64 1), .os 4]), .row 80 130 hs, .row 28 1 ts]
def lpS (T : CV) (m i : Int) : List AV := [.ov 0 [] 0, .c (.int .i64 0), .c T, .ov 1 [] 0, .c (.int .i64 0), .c (.int .u8 m), .c (.int .u8 i)]
set_option maxHeartbeats 16000000 in
theorem st_step (b : Bool) (h h1 tm tm1 : Int) (hs ts : List CV) (x : CV) (T V : CV) (m i i1 : Int) (hi : i < m) (hi1 : iAdd .u8 i 1 = i1)
    (en : fnX (cfg b) An 52 [.ov 0 [] 0, .c (tC none)] (chH 3 100 h tm hs 1 ts) = some (.tup [.c x, .c (.int .i64 0)], chD 3 100 h1 tm1 (hs ++ [x]) 1 (ts ++ [tC none]))) :
    loopX 0 (p17_l0 b (callX (cfg b) An) 0) (lpS T m i) (lpH V h tm hs ts) = loopX 0 (p17_l0 b (callX (cfg b) An) 0) (lpS T m i1) (lpH V h1 tm1 (hs ++ [x]) (ts ++ [tC none])) := by
  have nc := new_call b
  generalize hs ++ [x] = hs2 at *
  generalize ts ++ [tC none] = ts2 at *
  have gc : ∀ j, gcL 0 (lpS T m j) (lpH V h1 tm1 hs2 ts2) = some (lpS T m j, lpH V h1 tm1 hs2 ts2) := fun j => by simp [lpS, lpH]
  rw [loopX_eq]
  have t3 : ((3 : UInt8).toNat : Int) = 3 := rfl
  simp only [chH, chD, lpH, lpS, t3] at en gc ⊢
  simp [p17_l0, nc, v52, en, hi, hi1, frz152, frz137]
  rw [loopX_gc (s1 := [.ov 0 [] 0, .c (.int .i64 0), .c T, .ov 1 [] 0, .c (.int .i64 0), .c (.int .u8 m), .c (.int .u8 i1)]) (H1 := [.var 152 (.agg [.c (.int .u8 3), .c (.int .u64 100), .c (.int .u64 h1), .c (.int .u64 tm1), .ov 2 [] 0, .os 3, .c .nilp]), .var 80 (.c V), .var 137 (.agg [.c (.int .i64 64), .c (.int .u64 1), .os 4]), .row 80 130 hs2, .row 28 1 ts2]) (by simp) (by simp)]
theorem st_end (b : Bool) (cf : CallFn) (h tm : Int) (hs ts : List CV) (T V : CV) (m : Int) :
    loopX 0 (p17_l0 b cf 0) (lpS T m m) (lpH V h tm hs ts) = some (.exit 0 [.ov 0 [] 0, .c (.int .i64 0), .c T, .ov 1 [] 0, .c (.int .i64 0)], lpH V h tm hs ts) := by
  rw [loopX_eq]
  simp only [lpH, lpS]
  simp [p17_l0]
theorem u64_add1 (n : Nat) (h : n < 1000) : iAdd .u64 (n : Int) 1 = ((n + 1 : Nat) : Int) := by
  unfold iAdd
  rw [u64_small (by omega) (by omega)]; omega
theorem u8_add1 (n : Nat) (h : n < 200) : iAdd .u8 (n : Int) 1 = ((n + 1 : Nat) : Int) := by
  unfold iAdd IntKind.wrap
  simp [IntKind.bits, IntKind.signed]
  omega
theorem st_loop (b : Bool) (T V : CV) (m : Nat) (hm : m ≤ 62) : ∀ (n i k : Nat) (hs : List CV) (us : List (Option Tn)), i + n = m → k = i + 1 → hs.length = k → us.length = k →
    ∃ (k' : Nat) (hs' : List CV) (us' : List (Option Tn)), us'.length ≤ n ∧ loopX 0 (p17_l0 b (callX (cfg b) An) 0) (lpS T (m : Int) (i : Int)) (lpH V (k : Int) (k : Int) hs (us.map tC)) =
      some (.exit 0 [.ov 0 [] 0, .c (.int .i64 0), .c T, .ov 1 [] 0, .c (.int .i64 0)], lpH V (k' : Int) (k' : Int) (hs ++ hs') ((us ++ us').map tC))
  | 0, i, k, hs, us, hi, hk, h1, h2 => by
    have : i = m := by omega
    subst this
    exact ⟨k, [], [], by simp, by simpa using st_end b _ (k : Int) (k : Int) hs (us.map tC) T V (i : Int)⟩
  | n + 1, i, k, hs, us, hi, hk, h1, h2 => by
    have en := end_more b 3 100 (k : Int) (k : Int) ((k + 1 : Nat) : Int) ((k + 2 : Nat) : Int) ((k + 1 : Nat) : Int) (by omega) (by omega) (u64_add1 k (by omega)) (u64_add1 (k + 1) (by omega)) (u64_add1 k (by omega)) hs (us.map tC) (by omega) (by simp; omega) none
    rw [st_step b _ _ _ _ hs (us.map tC) _ T V (m : Int) (i : Int) ((i + 1 : Nat) : Int) (by omega) (u8_add1 i (by omega)) en]
    have e1 : us.map tC ++ [tC none] = (us ++ [none]).map tC := by simp
    rw [e1]
    obtain ⟨k', hs', us', l, e⟩ := st_loop b T V m hm n (i + 1) (k + 1) (hs ++ [blkC 3 ((k + 1 : Nat) : Int) ((k + 2 : Nat) : Int) ((k + 1 : Nat) : Int) none]) (us ++ [none]) (by omega) (by omega) (by simp [h1]) (by simp [h2])
    refine ⟨k', blkC 3 ((k + 1 : Nat) : Int) ((k + 2 : Nat) : Int) ((k + 1 : Nat) : Int) none :: hs', none :: us', by simp only [List.length_cons]; omega, ?_⟩
    rw [e]
    simp only [List.append_assoc, List.singleton_append]
end Go.Fm

/-
  Law 17, ChainStays, as a whole.
-/
set_option maxRecDepth 100000
set_option linter.unusedVariables false
set_option linter.unusedSimpArgs false
namespace Go.Fm
open Go Go.Proofs

theorem v53 {b : Bool} {H : Heap} {vs : List AV} : callX (cfg b) An 53 vs H = cvw (fnX (cfg b) An 53) (handCs (cfg b) false H vs) := callX_v (prim_none (by decide))
theorem v54 {b : Bool} {H : Heap} {vs : List AV} : callX (cfg b) An 54 vs H = cvw (fnX (cfg b) An 54) (handCs (cfg b) false H vs) := callX_v (prim_none (by decide))
/-! CF -/
set_option maxHeartbeats 32000000 in
theorem stays_core (b : Bool) (o : Option (List ActL)) (m : Int) (q : Int) (hq : m.tmod 63 = q) (T : CV) (L : CV) (v1 v2 sw R : List UInt8) (l0 : (dI sw).length = 32) (l1 : (dI v1).length = 32) (l2 : (dI v2).length = 32) (l3 : (dI R).length = 32)
    (k' : Int) (hs' : List CV) (us' : List CV)
    (gc : ∀ H, callX (cfg b) An 39 [.c (actsC o), .c (.int .i64 20)] H = some (.tup [.c T, .c L], H))
    (nw : fnX (cfg b) An 56 [.c (.int .u8 3), .c (.int .u64 100)] [] = some (.tup [.ov 0 [] 0, .c (.int .i64 0)], chE 3 100 0 0))
    (en : fnX (cfg b) An 52 [.ov 0 [] 0, .c T] (chE 3 100 0 0) = some (.tup [.c (hdC 1 1 R v1 v2 sw), .c (.int .i64 0)], chH 3 100 1 1 [hdC 1 1 R v1 v2 sw] 1 [T]))
    (lp : loopX 0 (p17_l0 b (callX (cfg b) An) 0) (lpS T q 0) (lpH (hdC 1 1 R v1 v2 sw) 1 1 [hdC 1 1 R v1 v2 sw] [T]) = some (.exit 0 [.ov 0 [] 0, .c (.int .i64 0), .c T, .ov 1 [] 0, .c (.int .i64 0)], lpH (hdC 1 1 R v1 v2 sw) k' k' (hdC 1 1 R v1 v2 sw :: hs') (T :: us')))
    (hd : fnX (cfg b) An 53 [.ov 0 [] 0, .c (.int .u64 1)] (chH 3 100 k' k' (hdC 1 1 R v1 v2 sw :: hs') 1 (T :: us')) = some (.tup [.c (hdC 1 1 R v1 v2 sw), .c (.bool true)], chH 3 100 k' k' (hdC 1 1 R v1 v2 sw :: hs') 1 (T :: us')))
    (tr : fnX (cfg b) An 54 [.ov 0 [] 0, .c (.int .u64 1)] (chH 3 100 k' k' (hdC 1 1 R v1 v2 sw :: hs') 1 (T :: us')) = some (.tup [.c T, .c (.bool true)], chH 3 100 k' k' (hdC 1 1 R v1 v2 sw :: hs') 1 (T :: us')))
    (rc : ∀ H, callX (cfg b) An 37 [.c T] H = some (.c (.arr 32 .u8 (dI R)), H)) :
    fnX (cfg b) An 17 [.c (actsC o), .c (.int .u8 m)] [] = some (.c (.bool true), []) := by
  rw [fnX_eq, p17_eq]
  have c0 := awake18_call b
  have z := fun H => eq80 (b := b) (lit := false) (H := H) 1 1 R v1 v2 sw
  have t3 : ((3 : UInt8).toNat : Int) = 3 := rfl
  generalize hs' = HS at *
  generalize us' = US at *
  simp only [chE, chH, lpH, lpS, hdC, t3] at nw en lp hd tr z
  rw [← loopX_gc (s := [.ov 0 [] 0, .c (.int .i64 0), .c T, .ov 4 [] 0, .c (.int .i64 0), .c (.int .u8 q), .c (.int .u8 0)]) (H := [.var 152 (.agg [.c (.int .u8 3), .c (.int .u64 100), .c (.int .u64 1), .c (.int .u64 1), .ov 1 [] 0, .os 2, .c .nilp]), .var 137 (.agg [.c (.int .i64 64), .c (.int .u64 1), .os 3]), .row 80 130 [.agg [.int .u64 1, .int .u64 1, .arr 32 .u8 (dI R), .arr 32 .u8 (dI v1), .arr 32 .u8 (dI v2), .arr 32 .u8 (dI sw)]], .row 28 1 [T], .var 80 (.c (.agg [.int .u64 1, .int .u64 1, .arr 32 .u8 (dI R), .arr 32 .u8 (dI v1), .arr 32 .u8 (dI v2), .arr 32 .u8 (dI sw)]))]) (by simp) (by simp)] at lp
  simp (maxSteps := 2000000) [p17, p17_d0, c0, v56, nw, gc, v52, en, hq, lp, v53, hd, v54, tr, rc, z, be41, l0, l1, l2, l3, frz152, frz137, frz80]
theorem chainStays_fn (b : Bool) (o : Option (List ActL)) (m : UInt8) : fnX (cfg b) An 17 [.c (actsC o), .c (.int .u8 (m.toNat : Int))] [] = some (.c (.bool true), []) := by
  have gc := grow_call b 20 (by decide) o
  have n20 : ((20 : Nat) : Int) = 20 := rfl
  rw [n20] at gc
  have nw := chain_new' b 3 100 (by decide) (by decide)
  have en := end_first' b 3 100 0 0 1 2 1 (by decide) (by decide) (by decide) (by decide) (by decide) (grown 20 o).1
  have hq : ((m.toNat : Int)).tmod 63 = ((m.toNat % 63 : Nat) : Int) := tmod_nat m.toNat 63
  obtain ⟨k', hs', us', lu, lp⟩ := st_loop b (tC (grown 20 o).1) (blkC 3 1 2 1 (grown 20 o).1) (m.toNat % 63) (by omega) (m.toNat % 63) 0 1 [blkC 3 1 2 1 (grown 20 o).1] [(grown 20 o).1] (by omega) rfl rfl rfl
  have rc : ∀ H, callX (cfg b) An 37 [.c (tC (grown 20 o).1)] H = _ := callX_pure (Root_fn b (grown 20 o).1) rfl rfl (prim_none (by decide))
  have l0 := len32 (HdrL.sealW_len (hd1 3 1 2 1 (Tn.hasho (grown 20 o).1)))
  have l1 := len32 (shaW_len (valsB ++ 3 :: lenBytes 1))
  have l2 := len32 (shaW_len (valsB ++ 3 :: lenBytes 2))
  have l3 := len32 (hashoL (grown 20 o).1)
  have tr := fun (hs : List CV) => tree_one b 3 100 (k' : Int) (k' : Int) hs (grown 20 o).1 us' (by omega)
  unfold blkC at en lp
  generalize (hd1 3 1 2 1 (Tn.hasho (grown 20 o).1)).sealW = sw at en lp l0
  generalize shaW (valsB ++ 3 :: lenBytes 1) = v1 at en lp l1
  generalize shaW (valsB ++ 3 :: lenBytes 2) = v2 at en lp l2
  generalize Tn.hasho (grown 20 o).1 = R at en lp l3 rc
  have hd := header_one b 3 100 (k' : Int) (k' : Int) 1 R v1 v2 sw l0 l1 l2 l3 hs' (((grown 20 o).1 :: us').map tC) 1
  have tr1 := tr (hdC 1 1 R v1 v2 sw :: hs')
  simp only [List.map_cons, List.map_nil, List.singleton_append, List.cons_append, List.nil_append] at lp hd tr1
  exact stays_core b o (m.toNat : Int) _ hq (tC (grown 20 o).1) (pairsC (grown 20 o).2) v1 v2 sw R l0 l1 l2 l3 (k' : Int) hs' (us'.map tC) gc nw en lp hd tr1 rc
end Go.Fm


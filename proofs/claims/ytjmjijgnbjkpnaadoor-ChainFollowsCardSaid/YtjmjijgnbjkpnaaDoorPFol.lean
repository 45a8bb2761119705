/-
  A part of the proof: PFol.
-/
import Derived.Test.YtjmjijgnbjkpnaaDoorPCli
import Derived.Test.YtjmjijgnbjkpnaaDoorDMisc
import Derived.Test.YtjmjijgnbjkpnaaDoorPSta
set_option linter.all false
set_option autoImplicit true
/-
  Law 16, ChainFollows: a turn of the loop.
-/
set_option maxRecDepth 100000
set_option linter.unusedVariables false
set_option linter.unusedSimpArgs false
namespace Go.Fm
open Go Go.Proofs

theorem v55 {b : Bool} {H : Heap} {vs : List AV} : callX (cfg b) An 55 vs H = cvw (fnX (cfg b) An 55) (handCs (cfg b) false H vs) := callX_v (prim_none (by decide))
theorem v57 {b : Bool} {H : Heap} {vs : List AV} : callX (cfg b) An 57 vs H = cvw (fnX (cfg b) An 57) (handCs (cfg b) false H vs) := callX_v (prim_none (by decide))
theorem v58 {b : Bool} {H : Heap} {vs : List AV} : callX (cfg b) An 58 vs H = cvw (fnX (cfg b) An 58) (handCs (cfg b) false H vs) := callX_v (prim_none (by decide))
theorem v60 {b : Bool} {H : Heap} {vs : List AV} : callX (cfg b) An 60 vs H = cvw (fnX (cfg b) An 60) (handCs (cfg b) false H vs) := callX_v (prim_none (by decide))
theorem v72 {b : Bool} {H : Heap} {vs : List AV} : callX (cfg b) An 72 vs H = cvw (fnX (cfg b) An 72) (handCs (cfg b) false H vs) := callX_v (prim_none (by decide))
theorem v73 {b : Bool} {H : Heap} {vs : List AV} : callX (cfg b) An 73 vs H = cvw (fnX (cfg b) An 73) (handCs (cfg b) false H vs) := callX_v (prim_none (by decide))
def foH (a a1 : UInt8) (h t : Int) (V : CV) (hs : List CV) (f : Int) (ts L : List CV) : Heap :=
  [.var 152 (.agg [.c (.int .u8 (a.toNat : Int)), .c (.int .u64 4294967296), .c (.int .u64 h), .c (.int .u64 t), .ov 3 [] 0, .os 4, .c .nilp]),
   .var 152 (.agg [.c (.int .u8 (a1.toNat : Int)), .c (.int .u64 4294967296), .c (.int .u64 0), .c (.int .u64 0), .ov 5 [] 0, .c .nilsl, .ov 6 [] 0]),
   .var 80 (.c V), .var 137 (.agg [.c (.int .i64 64), .c (.int .u64 f), .os 7]), .row 80 130 hs, .var 137 (.c (.agg [.int .i64 64, .int .u64 1, .nilsl])),
   .var 171 (.agg [.c (.int .u64 4294967296), .os 8, .c (.bool false)]), .row 28 1 ts, .row 168 98 L]
def foS (T : CV) (m i : Int) : List AV := [.c T, .ov 0 [] 0, .c (.int .i64 0), .ov 1 [] 0, .c (.int .i64 0), .ov 2 [] 0, .c (.int .i64 0), .c (.int .u8 m), .c (.int .u8 i)]
theorem cf_PLaw16_5fb4e8bd : clashFree [0, 1, 0, 0, 11, 31, 63, 127, 255, 511, 1023, 255, 2303, 8191, 16383] [(false, [], 11, 11), (true, [1, 5, 6, 8], 11, 11), (false, [2], 11, 11), (false, [], 11, 11), (true, [0, 3, 10, 9], 11, 11), (true, [6, 8], 11, 12), (false, [], 12, 12), (false, [], 12, 12), (false, [], 12, 12), (true, [1, 5, 6, 11], 12, 12), (true, [6, 11], 12, 12), (false, [2], 12, 12), (false, [2], 12, 12), (false, [], 12, 12), (false, [], 12, 12)] = true := by decide
attribute [simp] cf_PLaw16_5fb4e8bd
/-! CF -/
set_option maxHeartbeats 64000000 in
theorem fo_step0 (b : Bool) (a a1 : UInt8) (h t h1 t1 : Int) (V : CV) (hs hs1 ts ts1 L L1 : List CV) (f f1 : Int) (T : CV) (m i i1 : Int) (len : Nat)
    (r v n s : List UInt8) (l0 : (dI s).length = 32) (l1 : (dI v).length = 32) (l2 : (dI n).length = 32) (l3 : (dI r).length = 32) (hV : V.size = 130 ∧ V.isAgg = true)
    (hi : i < m) (hi1 : iAdd .u8 i 1 = i1) (hw : IntKind.i64.wrap i = i) (hT : ∀ H, lenOf H (.c T) = some len) (hlt : ¬ i < (len : Int))
    (en : fnX (cfg b) An 52 [.ov 0 [] 0, .c (tC none)] (chH a 4294967296 h t hs f ts) = some (.tup [.c (hdC h1 t1 r v n s), .c (.int .i64 0)], chD a 4294967296 h1 t1 hs1 f1 ts1))
    (tm : fnX (cfg b) An 60 [.ov 0 [] 0] (chH a 4294967296 h1 t1 hs1 f1 ts1) = some (.c (.int .u64 t1), chH a 4294967296 h1 t1 hs1 f1 ts1))
    (cl : fnX (cfg b) An 58 [.ov 0 [] 0] (chO a1 4294967296 0 0 4294967296 L) = some (.ov 2 [] 0, chO a1 4294967296 0 0 4294967296 L))
    (cl1 : fnX (cfg b) An 58 [.ov 0 [] 0] (chO a1 4294967296 0 0 4294967296 L1) = some (.ov 2 [] 0, chO a1 4294967296 0 0 4294967296 L1))
    (up : fnX (cfg b) An 72 [.ov 0 [] 0, .c (hdC h1 t1 r v n s), .c (.int .u64 t1)] (clH 4294967296 L) = some (.c .nilif, clD 4294967296 L1))
    (la : fnX (cfg b) An 73 [.ov 0 [] 0] (clH 4294967296 L1) = some (.c (.int .u64 h1), clH 4294967296 L1)) :
    loopX 0 (p16_l0 b (callX (cfg b) An) 0) (foS T m i) (foH a a1 h t V hs f ts L) = loopX 0 (p16_l0 b (callX (cfg b) An) 0) (foS T m i1) (foH a a1 h1 t1 (hdC h1 t1 r v n s) hs1 f1 ts1 L1) := by
  have nc := new_call b
  have gc : ∀ j, gcL 0 (foS T m j) (foH a a1 h1 t1 (hdC h1 t1 r v n s) hs1 f1 ts1 L1) = some (foS T m j, foH a a1 h1 t1 (hdC h1 t1 r v n s) hs1 f1 ts1 L1) := fun j => by simp [foS, foH]
  rw [loopX_eq]
  simp only [chH, chD, chO, clH, clD, foH, foS, hdC] at en tm cl cl1 up la gc ⊢
  simp (maxSteps := 1000000) [p16_l0, p16_l0_d1, nc, v52, v58, v60, v72, v73, en, tm, cl, cl1, up, la, hi, hi1, hw, hT, hlt, hV, l0, l1, l2, l3, bne112n, frz152, frz137, frz171, frz80]
  exact loopX_gc (by simp) (gc i1)
set_option maxHeartbeats 64000000 in
theorem fo_step1 (b : Bool) (a a1 : UInt8) (h t t2 h1 t1 : Int) (V : CV) (hs hs1 ts ts1 L L1 : List CV) (f f1 : Int) (bs : List UInt8) (m i1 : Int) (i : Nat)
    (r v n s : List UInt8) (l0 : (dI s).length = 32) (l1 : (dI v).length = 32) (l2 : (dI n).length = 32) (l3 : (dI r).length = 32) (hV : V.size = 130 ∧ V.isAgg = true)
    (hi : (i : Int) < m) (hi1 : iAdd .u8 (i : Int) 1 = i1) (hw : IntKind.i64.wrap (i : Int) = (i : Int)) (hlt : i < bs.length) (n2 : Int) (hx : IntKind.u64.wrap ((nthB bs i).toNat : Int) = n2)
    (tk : fnX (cfg b) An 55 [.ov 0 [] 0, .c (.int .u64 n2)] (chH a 4294967296 h t hs f ts) = some (.tup [], chH a 4294967296 h t2 hs f ts))
    (en : fnX (cfg b) An 52 [.ov 0 [] 0, .c (tC none)] (chH a 4294967296 h t2 hs f ts) = some (.tup [.c (hdC h1 t1 r v n s), .c (.int .i64 0)], chD a 4294967296 h1 t1 hs1 f1 ts1))
    (tm : fnX (cfg b) An 60 [.ov 0 [] 0] (chH a 4294967296 h1 t1 hs1 f1 ts1) = some (.c (.int .u64 t1), chH a 4294967296 h1 t1 hs1 f1 ts1))
    (cl : fnX (cfg b) An 58 [.ov 0 [] 0] (chO a1 4294967296 0 0 4294967296 L) = some (.ov 2 [] 0, chO a1 4294967296 0 0 4294967296 L))
    (cl1 : fnX (cfg b) An 58 [.ov 0 [] 0] (chO a1 4294967296 0 0 4294967296 L1) = some (.ov 2 [] 0, chO a1 4294967296 0 0 4294967296 L1))
    (up : fnX (cfg b) An 72 [.ov 0 [] 0, .c (hdC h1 t1 r v n s), .c (.int .u64 t1)] (clH 4294967296 L) = some (.c .nilif, clD 4294967296 L1))
    (la : fnX (cfg b) An 73 [.ov 0 [] 0] (clH 4294967296 L1) = some (.c (.int .u64 h1), clH 4294967296 L1)) :
    loopX 0 (p16_l0 b (callX (cfg b) An) 0) (foS (.sl 1 (bytesAV bs)) m i) (foH a a1 h t V hs f ts L) = loopX 0 (p16_l0 b (callX (cfg b) An) 0) (foS (.sl 1 (bytesAV bs)) m i1) (foH a a1 h1 t1 (hdC h1 t1 r v n s) hs1 f1 ts1 L1) := by
  have nc := new_call b
  have hltI : (i : Int) < (bs.length : Int) := by omega
  have gc : ∀ j, gcL 0 (foS (.sl 1 (bytesAV bs)) m j) (foH a a1 h1 t1 (hdC h1 t1 r v n s) hs1 f1 ts1 L1) = some (foS (.sl 1 (bytesAV bs)) m j, foH a a1 h1 t1 (hdC h1 t1 r v n s) hs1 f1 ts1 L1) := fun j => by simp [foS, foH]
  rw [loopX_eq]
  simp only [chH, chD, chO, clH, clD, foH, foS, hdC] at en tk tm cl cl1 up la gc ⊢
  simp (maxSteps := 1000000) [p16_l0, p16_l0_d0, nc, v55, tk, hltI, hx, v52, v58, v60, v72, v73, en, tm, cl, cl1, up, la, hi, hi1, hw, hlt, hV, l0, l1, l2, l3, bne112n, frz152, frz137, frz171, frz80]
  exact loopX_gc (by simp) (gc i1)
end Go.Fm

/-
  Law 16, ChainFollows: what stands at a turn's head.
-/
set_option maxRecDepth 100000
set_option linter.unusedVariables false
set_option linter.unusedSimpArgs false
namespace Go.Fm
open Go Go.Proofs

theorem end_gen (b : Bool) (a : UInt8) (p h tm h1 h2 tm1 f : Int) (hh : ¬ (1099511627776 ≤ h)) (ht : ¬ (1099511627776 ≤ tm)) (e1 : iAdd .u64 h 1 = h1) (e2 : iAdd .u64 h1 1 = h2) (e3 : iAdd .u64 tm 1 = tm1) (hs ts : List CV) (hl : hs.length ≤ 64) (tl : ts.length = hs.length) (t : Option Tn) :
    ∃ hs' f' ts', hs'.length ≤ 64 ∧ ts'.length = hs'.length ∧ fnX (cfg b) An 52 [.ov 0 [] 0, .c (tC t)] (chH a p h tm hs f ts) =
      some (.tup [.c (blkC a h1 h2 tm1 t), .c (.int .i64 0)], chD a p h1 tm1 hs' f' ts') := by
  have sc := seal_call b _ (hd1_ok a h1 h2 tm1 t)
  have hz : dI zero32 = List.replicate 32 0 := by decide
  have hc : (hd1 a h1 h2 tm1 (Tn.hasho t)).cv = .agg [.int .u64 h1, .int .u64 tm1, .arr 32 .u8 (dI (Tn.hasho t)), .arr 32 .u8 (dI (shaW (valsB ++ a :: lenBytes h1))), .arr 32 .u8 (dI (shaW (valsB ++ a :: lenBytes h2))), .arr 32 .u8 (List.replicate 32 0)] := by simp only [HdrL.cv, hd1, hz]
  rw [hc] at sc
  have vc1 := vals_call b a h1
  have vc2 := vals_call b a h2
  have l0 := len32 (HdrL.sealW_len (hd1 a h1 h2 tm1 (Tn.hasho t)))
  have l1 := len32 (shaW_len (valsB ++ a :: lenBytes h1))
  have l2 := len32 (shaW_len (valsB ++ a :: lenBytes h2))
  have l3 := len32 (hashoL t)
  clear hc
  unfold blkC
  generalize (hd1 a h1 h2 tm1 (Tn.hasho t)).sealW = sw at sc l0 ⊢
  generalize shaW (valsB ++ a :: lenBytes h1) = v1 at sc l1 vc1 ⊢
  generalize shaW (valsB ++ a :: lenBytes h2) = v2 at sc l2 vc2 ⊢
  by_cases hlen : hs.length < 64
  · have cm := commit_more b 64 f ts (.agg [Tn.pto t]) [] 0 (by omega) (by omega)
    exact ⟨_, _, _, by simp; omega, by simp [tl], end_core1 b a p h tm h1 h2 tm1 hh ht e1 e2 e3 (tC t) (Tn.hasho t) v1 v2 sw l0 l1 l2 l3 (lastZ f (ts.length + 1)) f f hs ts (ts ++ [tC t]) hlen (callX_pure (Root_fn b t) rfl rfl (prim_none (by decide))) vc1 vc2 sc (ptrEqT t) cm⟩
  · have cm := commit_drop b 64 f ts (.agg [Tn.pto t]) [] 0 (by omega) (by omega)
    exact ⟨_, _, _, by simp; omega, by simp [tl], end_core2 b a p h tm h1 h2 tm1 hh ht e1 e2 e3 (tC t) (Tn.hasho t) v1 v2 sw l0 l1 l2 l3 (lastZ (iAdd .u64 f 1) ts.length) f (iAdd .u64 f 1) hs ts ((ts ++ [tC t]).drop 1) (by omega) (callX_pure (Root_fn b t) rfl rfl (prim_none (by decide))) vc1 vc2 sc (ptrEqT t) cm⟩
/-- What a client knows: states of heights no greater than this one, the last of it. -/
structure StI (a : UInt8) (k : Nat) (τ : Int) (L : List CV) : Prop where
  len : L.length ≤ 16
  last : ∃ l r s, L.length = l + 1 ∧ nthC L l = stC (k : Int) τ r (shaW (valsB ++ a :: lenBytes ((k + 1 : Nat) : Int))) s ∧ (dI s).length = 32 ∧ (dI r).length = 32
  all : ∀ i, i < L.length → ∃ h t r n s, nthC L i = stC h t r n s ∧ h ≤ (k : Int) ∧ (dI s).length = 32 ∧ (dI n).length = 32 ∧ (dI r).length = 32
theorem nthC_appL {L M : List CV} {i : Nat} (h : i < L.length) : nthC (L ++ M) i = nthC L i := by simp [nthC, List.getElem?_append_left h]
theorem nthC_appR {L : List CV} {x : CV} : nthC (L ++ [x]) L.length = x := by simp [nthC]
theorem nthC_drop {L : List CV} {i : Nat} : nthC (L.drop 1) i = nthC L (i + 1) := by simp only [nthC, List.getD_eq_getElem?_getD, List.getElem?_drop]; rw [Nat.add_comm]
theorem StI.no {a : UInt8} {k : Nat} {τ : Int} {L : List CV} (h : StI a k τ L) : NoHt L ((k + 1 : Nat) : Int) := fun i hi => by
  obtain ⟨x, t, r, n, s, e, h1, h2⟩ := h.all i hi
  exact ⟨x, t, r, n, s, e, by omega, h2⟩
/-- The next block's header. -/
def nxC (a : UInt8) (k : Nat) (τ : Int) : CV := blkC a ((k + 1 : Nat) : Int) ((k + 2 : Nat) : Int) τ none
theorem sealW_sl (x : HdrL) (s : List UInt8) : HdrL.sealW { x with sl := s } = x.sealW := by simp only [HdrL.sealW, HdrL.bare]
theorem seal_var (b : Bool) (x : HdrL) (ok : x.Ok) (s : List UInt8) (hs : s.length = 32) (H : Heap) : callX (cfg b) An 98 [.c (HdrL.cv { x with sl := s })] H = some (.c (.arr 32 .u8 (dI x.sealW)), H) := by
  have := seal_call b { x with sl := s } ⟨ok.root, ok.vals, ok.next, hs⟩ H
  rw [sealW_sl] at this
  exact this
theorem seal_next (b : Bool) (a : UInt8) (h1 h2 t : Int) (H : Heap) : callX (cfg b) An 98 [.c (blkC a h1 h2 t none)] H = some (.c (.arr 32 .u8 (dI (hd1 a h1 h2 t (Tn.hasho none)).sealW)), H) := by
  have := seal_var b (hd1 a h1 h2 t (Tn.hasho none)) (hd1_ok a h1 h2 t none) (hd1 a h1 h2 t (Tn.hasho none)).sealW (HdrL.sealW_len _) H
  unfold blkC hdC
  generalize (hd1 a h1 h2 t (Tn.hasho none)).sealW = sw at this ⊢
  generalize hR : Tn.hasho none = R at this ⊢
  simp only [HdrL.cv, hd1] at this
  exact this
theorem upd_next (b : Bool) (a : UInt8) (k : Nat) (hk : k < 1000) (τ τ1 : Int) (L : List CV) (hI : StI a k τ L) (h0 : 0 ≤ τ) (h1 : τ < τ1) (h2 : τ1 ≤ τ + 1000) (h3 : τ1 ≤ 1000000) :
    ∃ L1, StI a (k + 1) τ1 L1 ∧ fnX (cfg b) An 72 [.ov 0 [] 0, .c (nxC a k τ1), .c (.int .u64 τ1)] (clH 4294967296 L) = some (.c .nilif, clD 4294967296 L1) := by
  obtain ⟨l, r0, s0, hl, hn, ls0, lr0⟩ := hI.last
  have hlen := hI.len
  have nv := shaW_len (valsB ++ a :: lenBytes ((k + 1 : Nat) : Int))
  have nv2 := shaW_len (valsB ++ a :: lenBytes ((k + 2 : Nat) : Int))
  have l1 := len32 nv
  have l2 := len32 nv2
  have l3 := len32 (hashoL none)
  have l0 := len32 (HdrL.sealW_len (hd1 a ((k + 1 : Nat) : Int) ((k + 2 : Nat) : Int) τ1 (Tn.hasho none)))
  have sc' := seal_next b a ((k + 1 : Nat) : Int) ((k + 2 : Nat) : Int) τ1
  unfold nxC blkC at sc' ⊢
  have tn := hI.no
  have all := hI.all
  have kk : (k : Int) < ((k + 1 : Nat) : Int) := by omega
  have kb : ((k + 1 : Nat) : Int) ≤ 1000 := by omega
  generalize hsw : (hd1 a ((k + 1 : Nat) : Int) ((k + 2 : Nat) : Int) τ1 (Tn.hasho none)).sealW = sw at sc' l0 ⊢
  clear hsw
  have hv2 : ((k + 1 + 1 : Nat) : Int) = ((k + 2 : Nat) : Int) := by omega
  have fin : ∀ (M : List CV) (l' : Nat) (R : List UInt8), M.length = l' + 1 → l' ≤ 15 → (dI R).length = 32 → (∀ i, i < l' → ∃ j, j < L.length ∧ nthC M i = nthC L j) → nthC M l' = stC ((k + 1 : Nat) : Int) τ1 R (shaW (valsB ++ a :: lenBytes ((k + 2 : Nat) : Int))) sw → StI a (k + 1) τ1 M := fun M l' R hm hle hR ho hlast => by
    refine ⟨by omega, ⟨l', R, sw, hm, by rw [hlast, hv2], l0, hR⟩, fun i hi => ?_⟩
    by_cases hil : i < l'
    · obtain ⟨j, hj, e⟩ := ho i hil
      obtain ⟨x, t, r, n, s, e2, h1, h2⟩ := all j hj
      exact ⟨x, t, r, n, s, by rw [e, e2], by omega, h2⟩
    · obtain rfl : i = l' := by omega
      exact ⟨_, _, _, _, _, hlast, Int.le_refl _, l0, l2, hR⟩
  generalize Tn.hasho none = R at *
  generalize hvn : shaW (valsB ++ a :: lenBytes ((k + 1 : Nat) : Int)) = v1 at *
  generalize hvn2 : shaW (valsB ++ a :: lenBytes ((k + 2 : Nat) : Int)) = v2 at *
  have oc : ∀ H, callX (cfg b) An 110 [.c (hdC ((k + 1 : Nat) : Int) τ1 R v1 v2 sw)] H = _ := callX_pure (of_fn b ((k + 1 : Nat) : Int) τ1 R v1 v2 sw sw l0 l1 l2 l3 l0 sc') rfl rfl (prim_none (by decide))
  have st := status_fn b 4294967296 τ1 (τ1 - τ) L l hl (by omega) (k : Int) τ r0 v1 s0 ls0 l1 lr0 hn h1 (by unfold iSub; rw [u64_small (by omega) (by omega)]) (by omega)
  have att := at_fn b 4294967296 ((k + 1 : Nat) : Int) L tn (by omega)
  by_cases h15 : l < 15
  · refine ⟨_, ?_, upd_core b 4294967296 τ1 L l hl h15 _ τ1 (k : Int) τ R v1 v2 sw r0 s0 l0 l1 l2 l3 lr0 ls0 hn sc' oc st att (by omega) (by omega) (by omega) (by omega)⟩
    exact fin _ (l + 1) R (by simp [hl]) (by omega) l3 (fun i hi => ⟨i, by omega, nthC_appL (by omega)⟩) (by rw [← hl]; exact nthC_appR)
  · obtain rfl : l = 15 := by omega
    refine ⟨_, ?_, upd_core2 b 4294967296 τ1 L hl _ τ1 (k : Int) τ R v1 v2 sw r0 s0 l0 l1 l2 l3 lr0 ls0 hn sc' oc st att (by omega) (by omega) (by omega) (by omega)⟩
    exact fin _ 15 R (by simp [hl]) (by omega) l3 (fun i hi => ⟨i + 1, by omega, by rw [nthC_drop]; exact nthC_appL (by omega)⟩) (by
      rw [nthC_drop]
      have e : (15 + 1 : Nat) = L.length := by rw [hl]
      rw [e]; exact nthC_appR)
end Go.Fm

/-
  Law 16, ChainFollows, as a whole.
-/
set_option maxRecDepth 100000
set_option linter.unusedVariables false
set_option linter.unusedSimpArgs false
namespace Go.Fm
open Go Go.Proofs

theorem fo_end (b : Bool) (cf : CallFn) (a a1 : UInt8) (h t : Int) (V : CV) (hs : List CV) (f : Int) (ts L : List CV) (T : CV) (m : Int) :
    loopX 0 (p16_l0 b cf 0) (foS T m m) (foH a a1 h t V hs f ts L) = some (.exit 0 [.any, .ov 0 [] 0, .c (.int .i64 0), .ov 1 [] 0, .c (.int .i64 0), .c (.int .i64 0)], foH a a1 h t V hs f ts L) := by
  rw [loopX_eq]
  simp only [foS, foH]
  simp [p16_l0]
theorem nx_size (a : UInt8) (k : Nat) (τ : Int) : (nxC a k τ).size = 130 ∧ (nxC a k τ).isAgg = true := ⟨rfl, rfl⟩
theorem i64_u8 (i : Nat) (h : i < 256) : IntKind.i64.wrap (i : Int) = (i : Int) := i64_small (by omega) (by omega)
theorem latest_next (b : Bool) (a : UInt8) (k : Nat) (τ : Int) (L : List CV) (hI : StI a k τ L) : fnX (cfg b) An 73 [.ov 0 [] 0] (clH 4294967296 L) = some (.c (.int .u64 (k : Int)), clH 4294967296 L) := by
  obtain ⟨l, r0, s0, hl, hn, ls0, lr0⟩ := hI.last
  have := hI.len
  exact latest_fn b 4294967296 L l hl (by omega) _ _ _ _ _ ls0 (len32 (shaW_len _)) lr0 hn
set_option maxHeartbeats 1000000 in
theorem fo_loop (b : Bool) (a a1 : UInt8) (T : CV) (bs : List UInt8) (hT : ∀ H, lenOf H (.c T) = some bs.length) (hT2 : bs ≠ [] → T = .sl 1 (bytesAV bs)) (m : Nat) (hm : m < 70) :
    ∀ (n i k : Nat) (τ : Int) (V : CV) (hs : List CV) (f : Int) (ts L : List CV), i + n = m → k = i + 1 → V.size = 130 ∧ V.isAgg = true → hs.length ≤ 64 → ts.length = hs.length → StI a k τ L → 1 ≤ τ → τ ≤ 300 * (k : Int) →
      ∃ (K : Nat) (τ' : Int) (V' : CV) (hs' : List CV) (f' : Int) (ts' L' : List CV), StI a K τ' L' ∧
        loopX 0 (p16_l0 b (callX (cfg b) An) 0) (foS T (m : Int) (i : Int)) (foH a a1 (k : Int) τ V hs f ts L) =
          some (.exit 0 [.any, .ov 0 [] 0, .c (.int .i64 0), .ov 1 [] 0, .c (.int .i64 0), .c (.int .i64 0)], foH a a1 (K : Int) τ' V' hs' f' ts' L')
  | 0, i, k, τ, V, hs, f, ts, L, hi, hk, hV, h64, ht, hI, h1, h2 => by
    obtain rfl : i = m := by omega
    exact ⟨k, τ, V, hs, f, ts, L, hI, fo_end b _ a a1 _ _ V hs f ts L T _⟩
  | n + 1, i, k, τ, V, hs, f, ts, L, hi, hk, hV, h64, ht, hI, h1, h2 => by
    have l1 := len32 (shaW_len (valsB ++ a :: lenBytes ((k + 1 : Nat) : Int)))
    have l2 := len32 (shaW_len (valsB ++ a :: lenBytes ((k + 2 : Nat) : Int)))
    have l3 := len32 (hashoL none)
    have hi1 : iAdd .u8 (i : Int) 1 = ((i + 1 : Nat) : Int) := u8_add1 i (by omega)
    by_cases hlt : i < bs.length
    · have hb := (nthB bs i).toNat_lt
      have hx0 : ((nthB bs i).toNat : Int) < 256 := by omega
      obtain ⟨L1, hI1, up⟩ := upd_next b a k (by omega) τ (τ + (nthB bs i).toNat + 1) L hI (by omega) (by omega) (by omega) (by omega)
      obtain ⟨hs1, f1, ts1, g1, g2, en⟩ := end_gen b a 4294967296 (k : Int) (τ + (nthB bs i).toNat) ((k + 1 : Nat) : Int) ((k + 2 : Nat) : Int) (τ + (nthB bs i).toNat + 1) f (by omega) (by omega) (u64_add1 k (by omega)) (u64_add1 (k + 1) (by omega)) (by unfold iAdd; rw [u64_small (by omega) (by omega)]) hs ts h64 ht none
      have tk := tick_fn b a 4294967296 (k : Int) τ hs f ts ((nthB bs i).toNat : Int) (1099511627776 - τ) (τ + (nthB bs i).toNat) (by unfold iSub; rw [u64_small (by omega) (by omega)]) (by rw [if_neg (by omega)]; unfold iAdd; rw [u64_small (by omega) (by omega)])
      obtain ⟨K, τ', V', hs', f', ts', L', hI', lp⟩ := fo_loop b a a1 T bs hT hT2 m hm n (i + 1) (k + 1) (τ + (nthB bs i).toNat + 1) (nxC a k (τ + (nthB bs i).toNat + 1)) hs1 f1 ts1 L1 (by omega) (by omega) (nx_size _ _ _) g1 g2 hI1 (by omega) (by omega)
      refine ⟨K, τ', V', hs', f', ts', L', hI', ?_⟩
      have e := hT2 (by intro h; rw [h] at hlt; simp at hlt)
      subst e
      rw [← lp]
      have l0 := len32 (HdrL.sealW_len (hd1 a ((k + 1 : Nat) : Int) ((k + 2 : Nat) : Int) (τ + (nthB bs i).toNat + 1) (Tn.hasho none)))
      have la := latest_next b a (k + 1) _ L1 hI1
      unfold nxC blkC at up ⊢
      unfold blkC at en
      exact fo_step1 b a a1 (k : Int) τ (τ + (nthB bs i).toNat) ((k + 1 : Nat) : Int) (τ + (nthB bs i).toNat + 1) V hs hs1 ts ts1 L L1 f f1 bs (m : Int) ((i + 1 : Nat) : Int) i _ _ _ _ l0 l1 l2 l3 hV (by omega) hi1 (i64_u8 i (by omega)) hlt ((nthB bs i).toNat : Int) (u64_small (by omega) (by omega)) tk en
        (time_fn b a _ _ _ _ _ _) (client_fn b a1 _ _ _ _ _) (client_fn b a1 _ _ _ _ _) up la
    · obtain ⟨L1, hI1, up⟩ := upd_next b a k (by omega) τ (τ + 1) L hI (by omega) (by omega) (by omega) (by omega)
      obtain ⟨hs1, f1, ts1, g1, g2, en⟩ := end_gen b a 4294967296 (k : Int) τ ((k + 1 : Nat) : Int) ((k + 2 : Nat) : Int) (τ + 1) f (by omega) (by omega) (u64_add1 k (by omega)) (u64_add1 (k + 1) (by omega)) (by unfold iAdd; rw [u64_small (by omega) (by omega)]) hs ts h64 ht none
      obtain ⟨K, τ', V', hs', f', ts', L', hI', lp⟩ := fo_loop b a a1 T bs hT hT2 m hm n (i + 1) (k + 1) (τ + 1) (nxC a k (τ + 1)) hs1 f1 ts1 L1 (by omega) (by omega) (nx_size _ _ _) g1 g2 hI1 (by omega) (by omega)
      refine ⟨K, τ', V', hs', f', ts', L', hI', ?_⟩
      rw [← lp]
      have l0 := len32 (HdrL.sealW_len (hd1 a ((k + 1 : Nat) : Int) ((k + 2 : Nat) : Int) (τ + 1) (Tn.hasho none)))
      have la := latest_next b a (k + 1) _ L1 hI1
      unfold nxC blkC at up ⊢
      unfold blkC at en
      exact fo_step0 b a a1 (k : Int) τ ((k + 1 : Nat) : Int) (τ + 1) V hs hs1 ts ts1 L L1 f f1 T (m : Int) (i : Int) ((i + 1 : Nat) : Int) bs.length _ _ _ _ l0 l1 l2 l3 hV (by omega) hi1 (i64_u8 i (by omega)) hT (by omega) en
        (time_fn b a _ _ _ _ _ _) (client_fn b a1 _ _ _ _ _) (client_fn b a1 _ _ _ _ _) up la
/-! CF -/
set_option maxHeartbeats 64000000 in
theorem fo_core (b : Bool) (a a1 : UInt8) (T : CV) (m q : Int) (hq : m.tmod 70 = q) (ha : iAdd .u8 (a.toNat : Int) 1 = (a1.toNat : Int)) (r v n s : List UInt8) (l0 : (dI s).length = 32) (l1 : (dI v).length = 32) (l2 : (dI n).length = 32) (l3 : (dI r).length = 32) (L L1 : List CV)
    (K t1 : Int) (V hs1 ts1) (f1 : Int)
    (nw : fnX (cfg b) An 56 [.c (.int .u8 (a.toNat : Int)), .c (.int .u64 4294967296)] [] = some (.tup [.ov 0 [] 0, .c (.int .i64 0)], chE a 4294967296 0 0))
    (nw1 : fnX (cfg b) An 56 [.c (.int .u8 (a1.toNat : Int)), .c (.int .u64 4294967296)] [] = some (.tup [.ov 0 [] 0, .c (.int .i64 0)], chE a1 4294967296 0 0))
    (en : fnX (cfg b) An 52 [.ov 0 [] 0, .c (tC none)] (chE a 4294967296 0 0) = some (.tup [.c (hdC 1 1 r v n s), .c (.int .i64 0)], chH a 4294967296 1 1 [hdC 1 1 r v n s] 1 [tC none]))
    (op : fnX (cfg b) An 57 [.ov 0 [] 0, .c (hdC 1 1 r v n s)] (chE a1 4294967296 0 0) = some (.c (.int .i64 0), chO a1 4294967296 0 0 4294967296 L))
    (lp : loopX 0 (p16_l0 b (callX (cfg b) An) 0) (foS T q 0) (foH a a1 1 1 (hdC 1 1 r v n s) [hdC 1 1 r v n s] 1 [tC none] L) = some (.exit 0 [.any, .ov 0 [] 0, .c (.int .i64 0), .ov 1 [] 0, .c (.int .i64 0), .c (.int .i64 0)], foH a a1 K t1 V hs1 f1 ts1 L1))
    (cl : fnX (cfg b) An 58 [.ov 0 [] 0] (chO a1 4294967296 0 0 4294967296 L1) = some (.ov 2 [] 0, chO a1 4294967296 0 0 4294967296 L1))
    (la : fnX (cfg b) An 73 [.ov 0 [] 0] (clH 4294967296 L1) = some (.c (.int .u64 K), clH 4294967296 L1))
    (he : fnX (cfg b) An 59 [.ov 0 [] 0] (chH a 4294967296 K t1 hs1 f1 ts1) = some (.c (.int .u64 K), chH a 4294967296 K t1 hs1 f1 ts1)) :
    fnX (cfg b) An 16 [.c (.int .u8 (a.toNat : Int)), .c (.int .u8 m), .c T] [] = some (.c (.bool true), []) := by
  rw [fnX_eq, p16_eq]
  have c0 := awake18_call b
  have nc := new_call b
  have z : ∀ j, gcL 0 (foS T q j) (foH a a1 1 1 (hdC 1 1 r v n s) [hdC 1 1 r v n s] 1 [tC none] L) = some (foS T q j, foH a a1 1 1 (hdC 1 1 r v n s) [hdC 1 1 r v n s] 1 [tC none] L) := fun j => by simp [foS, foH]
  simp only [chE, chH, chO, clH, foS, foH, hdC] at nw nw1 en op lp cl la he z
  simp (maxSteps := 2000000) [p16, c0, nc, v56, nw, nw1, ha, v52, en, v57, op, hq, l0, l1, l2, l3, frz152, frz137, frz171, frz80]
  rw [loopX_gc (by simp) (z 0), lp]
  simp (maxSteps := 2000000) [v58, cl, v73, la, v59, he, frz152, frz137, frz171, frz80]
theorem u8_succ (a : UInt8) : iAdd .u8 (a.toNat : Int) 1 = ((a + 1).toNat : Int) := by
  have h : (a + 1).toNat = (a.toNat + 1) % 256 := by simp [UInt8.toNat_add]
  rw [h]
  unfold iAdd IntKind.wrap
  simp [IntKind.bits, IntKind.signed]
theorem chainFollows_fn (b : Bool) (a : UInt8) (m : UInt8) (T : CV) (bs : List UInt8) (hT : ∀ H, lenOf H (.c T) = some bs.length) (hT2 : bs ≠ [] → T = .sl 1 (bytesAV bs)) :
    fnX (cfg b) An 16 [.c (.int .u8 (a.toNat : Int)), .c (.int .u8 (m.toNat : Int)), .c T] [] = some (.c (.bool true), []) := by
  have nw := chain_new' b a 4294967296 (by decide) (by decide)
  have nw1 := chain_new' b (a + 1) 4294967296 (by decide) (by decide)
  have en := end_first' b a 4294967296 0 0 1 2 1 (by decide) (by decide) (by decide) (by decide) (by decide) none
  have sc := seal_next b a 1 2 1
  have hq : ((m.toNat : Int)).tmod 70 = ((m.toNat % 70 : Nat) : Int) := tmod_nat m.toNat 70
  have l0 := len32 (HdrL.sealW_len (hd1 a 1 2 1 (Tn.hasho none)))
  have l1 := len32 (shaW_len (valsB ++ a :: lenBytes 1))
  have l2 := len32 (shaW_len (valsB ++ a :: lenBytes 2))
  have l3 := len32 (hashoL none)
  unfold blkC at en sc
  generalize (hd1 a 1 2 1 (Tn.hasho none)).sealW = sw at en sc l0
  generalize hv1 : shaW (valsB ++ a :: lenBytes 1) = v1 at en sc l1
  generalize hv2 : shaW (valsB ++ a :: lenBytes 2) = v2 at en sc l2
  generalize Tn.hasho none = R at en sc l3
  have oc : ∀ H, callX (cfg b) An 110 [.c (hdC 1 1 R v1 v2 sw)] H = _ := callX_pure (of_fn b 1 1 R v1 v2 sw sw l0 l1 l2 l3 l0 sc) rfl rfl (prim_none (by decide))
  have cn := cnew_fn b 4294967296 1 1 R v1 v2 sw sw l0 l1 l2 l3 l0 (by decide) (by decide) (by decide) (by decide) (by decide) oc
  have op := open_core b (a + 1) 4294967296 0 0 1 1 R v1 v2 sw l0 l1 l2 l3 _ cn
  have hI : StI a 1 1 [stC 1 1 R v2 sw] := ⟨by simp, ⟨0, R, sw, rfl, by
    have e2 : ((1 + 1 : Nat) : Int) = 2 := rfl
    rw [e2, hv2]; rfl, l0, l3⟩, fun i hi => by
    have : i = 0 := by simp at hi; omega
    subst this
    exact ⟨1, 1, R, v2, sw, rfl, by decide, l0, l2, l3⟩⟩
  obtain ⟨K, τ', V', hs', f', ts', L', hI', lp⟩ := fo_loop b a (a + 1) T bs hT hT2 (m.toNat % 70) (by omega) (m.toNat % 70) 0 1 1 (hdC 1 1 R v1 v2 sw) [hdC 1 1 R v1 v2 sw] 1 [tC none] [stC 1 1 R v2 sw] (by omega) rfl ⟨by simp [hdC, CV.size, CV.sizes], rfl⟩ (by simp) rfl hI (by decide) (by decide)
  have z0 : ((0 : Nat) : Int) = 0 := rfl
  have z1 : ((1 : Nat) : Int) = 1 := rfl
  rw [z0, z1] at lp
  exact fo_core b a (a + 1) T (m.toNat : Int) _ hq (u8_succ a) R v1 v2 sw l0 l1 l2 l3 _ _ _ _ _ _ _ _ nw nw1 en op lp (client_fn b _ _ _ _ _ _) (latest_next b a K τ' L' hI') (height_fn b a _ _ _ _ _ _)
end Go.Fm


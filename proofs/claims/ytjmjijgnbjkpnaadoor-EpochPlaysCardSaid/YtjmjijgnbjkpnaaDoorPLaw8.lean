/-
  A part of the proof: PLaw8.
-/
import Derived.Test.YtjmjijgnbjkpnaaDoorPLaw14
import Derived.Test.YtjmjijgnbjkpnaaDoorPEpoch3
import Derived.Test.YtjmjijgnbjkpnaaDoorPLaw3
import Derived.Test.YtjmjijgnbjkpnaaDoorDLaw8
set_option linter.all false
set_option autoImplicit true
/-
  EpochStays: what the law's function gives.
-/
set_option maxRecDepth 100000
set_option linter.unusedVariables false
set_option linter.unusedSimpArgs false
namespace Go.Fm
open Go Go.Proofs

/-! CF -/
theorem awake06_call (b : Bool) (H : Heap) : callX (cfg b) An 24 [] H = some (.c (.bool true), H) := callX_pure (awake_fn b) rfl rfl (prim_none (by decide)) H
theorem eqHash {b lit : Bool} {t u : Option Tn} {H : Heap} : mBin (cfg b) 41 lit .eql (.c (hashC t)) (.c (hashC u)) H = some (.c (.bool (dI (Tn.hasho t) == dI (Tn.hasho u))), H) := by simp [hashC, be41]
theorem neHash {b lit : Bool} {t u : Option Tn} {H : Heap} : mBin (cfg b) 41 lit .neq (.c (hashC t)) (.c (hashC u)) H = some (.c (.bool (!(dI (Tn.hasho t) == dI (Tn.hasho u)))), H) := by simp [hashC, bne41]
/-- The log: a tree, and empty ones. -/
def esT (t : Option Tn) (i : Nat) : List (Option Tn) := t :: List.replicate i none
theorem esT_len (t : Option Tn) (i : Nat) : (esT t i).length = i + 1 := by simp [esT]
theorem esT_next (t : Option Tn) (i : Nat) : (esT t i).map tC ++ [tC none] = (esT t (i + 1)).map tC := by
  simp only [esT]
  rw [← List.replicate_append_replicate (n := i) (m := 1)]
  simp
def esS (t : Option Tn) (c i : Int) : List AV := [.ov 0 [] 0, .c (.int .i64 0), .c (tC t), .c (.int .u64 1), .c (.int .i64 0), .c (.int .u8 c), .c (.int .u8 i)]
def esH (t : Option Tn) (i : Nat) : Heap := logH 64 1 ((esT t i).map tC)
theorem tC_ptr (t : Option Tn) : tC t = .ptr (.agg [Tn.pto t]) [] 0 := rfl
theorem u8_small (i : Nat) (h : i < 200) : iAdd .u8 (i : Int) 1 = (i : Int) + 1 := by
  unfold iAdd IntKind.wrap
  simp [IntKind.bits, IntKind.signed]
  omega
theorem es_step (b : Bool) (t : Option Tn) (c i : Nat) (hi : i < c) (hc : c < 63) :
    loopX 0 (p8_l0 b (callX (cfg b) An) 0) (esS t (c : Int) (i : Int)) (esH t i) = loopX 0 (p8_l0 b (callX (cfg b) An) 0) (esS t (c : Int) ((i : Int) + 1)) (esH t (i + 1)) := by
  have hn := new_call b
  have hl : ((esT t i).map tC).length = i + 1 := by simp [esT_len]
  have cm := commit_more b 64 1 ((esT t i).map tC) (.agg [Tn.pto none]) [] 0 (by rw [hl]; omega) (by rw [hl]; omega)
  have e : CV.ptr (.agg [Tn.pto none]) [] 0 = tC none := rfl
  rw [e, esT_next] at cm
  have ha := u8_small i (by omega)
  have hiI : (i : Int) < (c : Int) := by omega
  generalize lastZ 1 (((esT t i).map tC).length + 1) = Z at *
  simp only [logH, logD] at cm
  rw [loopX_eq]
  generalize hA : (esT t i).map tC = A at *
  generalize hB : (esT t (i + 1)).map tC = B at *
  simp [esS, esH, logH, p8_l0, hA, hi, hiI, hn, v25, keep25, frz137, cm, ha]
  rw [loopX_gc (s1 := esS t (c : Int) ((i : Int) + 1)) (H1 := esH t (i + 1))]
  · simp [esS, esH, logH, hB]
  · simp [esS, esH, logH, hB]
  · simp [esS, esH, logH, hB]
theorem es_loop (b : Bool) (t : Option Tn) (c : Nat) (hc : c < 63) : ∀ (m i : Nat), i + m = c →
    loopX 0 (p8_l0 b (callX (cfg b) An) 0) (esS t (c : Int) (i : Int)) (esH t i) = some (.exit 0 [.ov 0 [] 0, .c (.int .i64 0), .c (tC t), .c (.int .u64 1), .c (.int .i64 0)], esH t c)
  | 0, i, h => by
    have : i = c := by omega
    subst this
    rw [loopX_eq]
    simp [esS, esH, logH, p8_l0]
  | m + 1, i, h => by
    rw [es_step b t c i (by omega) hc]
    have ih := es_loop b t c hc m (i + 1) (by omega)
    have e2 : (((i + 1 : Nat)) : Int) = (i : Int) + 1 := by simp
    rw [e2] at ih
    exact ih
/-- Roots that are changed. -/
def erS (t : Option Tn) (ts : List (Option Tn)) (i : Int) : List AV := [.ov 0 [] 0, .c (.int .i64 0), .c (tC t), .c (.int .u64 1), .c (.int .i64 0), .c (.sl 32 (ts.map hashC)), .c (.int .i64 (ts.length : Int)), .c (.int .i64 i)]
theorem er_step (b : Bool) (t : Option Tn) (ts : List (Option Tn)) (k f : Int) (R : List CV) (i : Nat) (hi : i < ts.length) (hm : ts.length ≤ 1000000) :
    loopX 0 (p8_l2 b (callX (cfg b) An) 0) (erS t ts (i : Int)) (logH k f R) = loopX 0 (p8_l2 b (callX (cfg b) An) 0) (erS t ts ((i : Int) + 1)) (logH k f R) := by
  have hiI : (i : Int) < (ts.length : Int) := by omega
  have h0 : (0 : Int) ≤ (i : Int) := by omega
  have hn : nthC (ts.map hashC) i = hashC (ts.getD i none) := nthC_map none hi
  have ha := idx_add i (by omega)
  generalize ts.getD i none = u at *
  have hmod : (i : Int).tmod 32 = ((i % 32 : Nat) : Int) := by rw [Int.tmod_eq_emod_of_nonneg h0]; omega
  have hj : i % 32 < 32 := Nat.mod_lt _ (by decide)
  have hl : (dI (Tn.hasho u)).length = 32 := by rw [len_dI, hasho_len]
  have hjl : ((i % 32 : Nat) : Int) < 32 := by omega
  have hj0 : (0 : Int) ≤ ((i % 32 : Nat) : Int) := by omega
  generalize i % 32 = j at *
  rw [loopX_eq]
  simp [erS, logH, p8_l2, hi, hiI, hn, hashC, hmod, hj, hj0, hjl, hl, ha]
  rw [loopX_gc (s1 := erS t ts ((i : Int) + 1)) (H1 := logH k f R)]
  · simp [erS, logH, hashC]
  · simp [erS, logH, hashC]
  · simp [erS, logH]
theorem er_loop (b : Bool) (t : Option Tn) (ts : List (Option Tn)) (k f : Int) (R : List CV) (hm : ts.length ≤ 1000000) : ∀ (m i : Nat), i + m = ts.length →
    loopX 0 (p8_l2 b (callX (cfg b) An) 0) (erS t ts (i : Int)) (logH k f R) = some (.exit 2 [.ov 0 [] 0, .c (.int .i64 0), .c (tC t), .c (.int .u64 1), .c (.int .i64 0)], logH k f R)
  | 0, i, h => by
    have : i = ts.length := by omega
    subst this
    rw [loopX_eq]
    simp [erS, logH, p8_l2]
  | m + 1, i, h => by
    rw [er_step b t ts k f R i (by omega) hm]
    have ih := er_loop b t ts k f R hm m (i + 1) (by omega)
    have e2 : (((i + 1 : Nat)) : Int) = (i : Int) + 1 := by simp
    rw [e2] at ih
    exact ih
set_option maxHeartbeats 4000000 in
theorem epochStays_fn (b : Bool) (o : Option (List ActL)) (m : UInt8) : fnX (cfg b) An 8 [.c (actsC o), .c (.int .u8 (m.toNat : Int))] [] = some (.c (.bool true), []) := by
  rw [fnX_eq, p8_eq]
  have c0 := awake06_call b
  have gc := grow_call b 30 (by decide) o
  generalize grown 30 o = g at *
  obtain ⟨t, l⟩ := g
  simp only at gc
  have n30 : ((30 : Nat) : Int) = 30 := rfl
  rw [n30] at gc
  have hN := new_fn b 64 (by decide) (by decide)
  have cf := commit_first b 64 1 (.agg [Tn.pto t]) [] 0 (by decide)
  have e : CV.ptr (.agg [Tn.pto t]) [] 0 = tC t := rfl
  rw [e] at cf
  have l1 : lastZ 1 1 = 1 := by decide
  rw [l1] at cf
  obtain ⟨c, hc, hc63⟩ : ∃ c : Nat, (m.toNat : Int).tmod 60 = (c : Int) ∧ c < 60 := ⟨m.toNat % 60, by rw [Int.tmod_eq_emod_of_nonneg (by omega)]; omega, Nat.mod_lt _ (by decide)⟩
  have es := es_loop b t c (by omega) c 0 (by omega)
  have hlen := esT_len t c
  have er := er_loop b t (esT t c) 64 1 ((esT t c).map tC) (by omega) (esT t c).length 0 (by omega)
  have hR := roots_fn b 64 1 (esT t c) (by omega)
  have hA := at_in b 64 1 1 (esT t c) (by decide) (by decide) (by omega) (by omega)
  have hg0 : (esT t c).getD (1 - 1) none = t := by simp [esT]
  have hne : esT t c ≠ [] := by simp [esT]
  have hroots : rootsC (esT t c) = .sl 32 ((esT t c).map hashC) := by simp [rootsC, hne]
  rw [hg0] at hA
  rw [hroots] at hR
  have hn0 : nthC ((esT t c).map hashC) 0 = hashC t := by rw [nthC_map none (by omega)]; simp [esT]
  have h0l : (0 : Int) < ((esT t c).length : Int) := by omega
  have h0ln : 0 < (esT t c).length := by omega
  have rc := Root_callC b t
  have hT0 : (esT t 0).map tC = [tC t] := by simp [esT]
  simp only [esH, hT0] at es
  have n1 : ((1 : Nat) : Int) = 1 := rfl
  rw [n1] at hA
  have hll : ((esT t c).map hashC).length = (esT t c).length := by simp
  simp only [esS, erS, logH, Int.natCast_zero, Int.ofNat_zero] at es er cf hR hA
  generalize (esT t c).map tC = T at *
  generalize (esT t c).map hashC = R at *
  generalize (esT t c).length = L at *
  simp [p8, c0, gc, v28, keep28, hN, frz137, v25, keep25, cf, hc, es, v30, keep30, hR, hll, er, v27, keep27, hA, rc, hn0, h0l, h0ln, eqHash]
end Go.Fm


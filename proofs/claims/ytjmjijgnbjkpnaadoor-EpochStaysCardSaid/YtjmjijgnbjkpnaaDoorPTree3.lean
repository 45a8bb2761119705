/-
  A part of the proof: PTree3.
-/
import Derived.Test.YtjmjijgnbjkpnaaDoorPTree2
set_option linter.all false
set_option autoImplicit true
/-
  tree: leaf, least, inner.
-/
set_option maxRecDepth 100000
set_option linter.unusedVariables false
set_option linter.unusedSimpArgs false
namespace Go.Fm
open Go Go.Proofs

namespace Tn
/-- All bytes few enough. -/
def fit : Tn → Prop
  | leaf k v => k.length ≤ 1000000 ∧ (pB v).length ≤ 1000000
  | node l r => l.fit ∧ r.fit
end Tn
theorem bne138 {b lit : Bool} {x y : AV} {H : Heap} (h : isIS x y = false) : mBin (cfg b) 138 lit .neq x y H = eqH H true (ptrEq x y) := by rw [mBin_neg eqg138 h, aeq138]
theorem bne28 {b lit : Bool} {x y : AV} {H : Heap} (h : isIS x y = false) : mBin (cfg b) 28 lit .neq x y H = eqH H true (ptrEq x y) := by rw [mBin_neg eqg28 h, aeq28]
theorem hash_call (b : Bool) (t : Tn) (h : t.fit) (H : Heap) : callX (cfg b) An 49 [.c t.api] H = some (.c (.arr 32 .u8 (dI t.hash)), H) := by
  cases t with
  | leaf k v => exact callX_pure (hash_leaf b k v h.1 h.2) rfl rfl (prim_none (by decide)) H
  | node l r => exact callX_pure (hash_node b l r) rfl rfl (prim_none (by decide)) H
theorem frz145 {b : Bool} : (cfg b).frz 145 = true := rfl

set_option maxHeartbeats 4000000 in
theorem leaf_fn (b : Bool) (k : List UInt8) (v : Option (List UInt8)) (hk : k.length ≤ 1000000) (hv : (pB v).length ≤ 1000000) :
    fnX (cfg b) An 123 [.c (.sl 1 (bytesAV k)), .c (pV v)] [] = some (.c (Tn.leaf k v).pt, []) := by
  rw [fnX_eq, p123_eq]
  have hz : dI zero32 = List.replicate 32 0 := by decide
  have hh := hash_call b (.leaf k v) ⟨hk, hv⟩
  rw [api_leaf, hz] at hh
  have hl := len_dI (Tn.leaf k v).hash
  rw [Tn.hash_len] at hl
  have hp : (Tn.leaf k v).pt = .ptr (.agg [.agg [.sl 1 (bytesAV k), pV v, .int .i64 0, .int .u64 1, .arr 32 .u8 (List.replicate 32 0), .arr 32 .u8 (List.replicate 32 0)], .arr 32 .u8 (dI (Tn.leaf k v).hash), .nilp, .nilp]) [] 0 := by rw [← hz]; rfl
  rw [hp]
  generalize (Tn.leaf k v).hash = w at *
  have c1 := clone_sl b k (by omega)
  have c2 := clone_call b v (by omega)
  simp only [List.reduceReplicate] at hh
  simp [p123, c1, c2, hh, hl, frz145]
theorem leaf_call (b : Bool) (k : List UInt8) (v : Option (List UInt8)) (hk : k.length ≤ 1000000) (hv : (pB v).length ≤ 1000000) (H : Heap) :
    callX (cfg b) An 123 [.c (.sl 1 (bytesAV k)), .c (pV v)] H = some (.c (Tn.leaf k v).pt, H) := callX_pure (leaf_fn b k v hk hv) rfl rfl (prim_none (by decide)) H

theorem least_loop (b : Bool) (cf : CallFn) : ∀ t : Tn, ∃ v, loopX 0 (p144_l0 b cf 0) [.c t.pt] [] = some (.exit 0 [.c (Tn.leaf t.least v).pt], [])
  | .leaf k v => by
    refine ⟨v, ?_⟩
    rw [loopX_eq]
    simp [p144_l0, Tn.pt, bne138, Tn.lp, Tn.least]
  | .node l r => by
    obtain ⟨v, hv⟩ := least_loop b cf l
    refine ⟨v, ?_⟩
    rw [loopX_eq]
    have e : (Tn.node l r).lp = l.pt := rfl
    simp only [Tn.least, ← hv]
    simp [p144_l0, Tn.pt, bne138, e]
theorem least_fn (b : Bool) (t : Tn) : fnX (cfg b) An 144 [.c t.pt] [] = some (.c (.sl 1 (bytesAV t.least)), []) := by
  rw [fnX_eq, p144_eq]
  obtain ⟨v, hv⟩ := least_loop b (callX (cfg b) An) t
  have hk : (Tn.leaf t.least v).key = t.least := rfl
  simp [p144, hv]
  simp [Tn.pt, hk]
theorem least_call (b : Bool) (t : Tn) (H : Heap) : callX (cfg b) An 144 [.c t.pt] H = some (.c (.sl 1 (bytesAV t.least)), H) := callX_pure (least_fn b t) rfl rfl (prim_none (by decide)) H

theorem maxZ (a c : Nat) : (if a < c then (c : Int) else (a : Int)) = ((max a c : Nat) : Int) := by
  split
  · rename_i h; omega
  · rename_i h; omega
theorem addZ (a : Nat) (h : a < 4000000000000000000) : iAdd .i64 1 (a : Int) = ((1 + a : Nat) : Int) := by
  unfold iAdd
  rw [i64_small (by omega) (by omega)]
  omega
theorem u64_small {z : Int} (h0 : 0 ≤ z) (h1 : z < 18446744073709551616) : IntKind.u64.wrap z = z := by
  unfold IntKind.wrap
  simp only [IntKind.bits, IntKind.signed]
  simp
  omega
theorem addU (a c : Nat) (h : a + c < 4000000000000000000) : iAdd .u64 (a : Int) (c : Int) = ((a + c : Nat) : Int) := by
  unfold iAdd
  rw [u64_small (by omega) (by omega)]
  omega

set_option maxHeartbeats 8000000 in
theorem inner_fn (b : Bool) (l r : Tn) (hs : l.sz + r.sz ≤ 1000000000000) : fnX (cfg b) An 125 [.c l.pt, .c r.pt] [] = some (.c (Tn.node l r).pt, []) := by
  rw [fnX_eq, p125_eq]
  have hh := hash_call b (.node l r)
  have hh1 : ∀ H, callX (cfg b) An 49 [.c (Tn.node l r).api] H = some (.c (.arr 32 .u8 (dI (Tn.node l r).hash)), H) := fun H => callX_pure (hash_node b l r) rfl rfl (prim_none (by decide)) H
  rw [api_node] at hh1
  have hl := len_dI (Tn.node l r).hash
  rw [Tn.hash_len] at hl
  have hll := len_dI l.hash
  rw [Tn.hash_len] at hll
  have hrl := len_dI r.hash
  rw [Tn.hash_len] at hrl
  have hp : (Tn.node l r).pt = .ptr (.agg [.agg [.sl 1 (bytesAV r.least), .nilsl, .int .i64 ((1 + max l.ht r.ht : Nat) : Int), .int .u64 ((l.sz + r.sz : Nat) : Int), .arr 32 .u8 (dI l.hash), .arr 32 .u8 (dI r.hash)], .arr 32 .u8 (dI (Tn.node l r).hash), l.pt, r.pt]) [] 0 := rfl
  rw [hp]
  have h1 := l.ht_lt
  have h2 := r.ht_lt
  have hmx : max l.ht r.ht < 4000000000000000000 := by omega
  have ea := addZ (max l.ht r.ht) hmx
  have eu := addU l.sz r.sz (by omega)
  have em := maxZ l.ht r.ht
  have hle := least_call b r
  generalize (Tn.node l r).hash = w at *
  obtain ⟨hz, hhz⟩ : ∃ hz : Int, hz = ((1 + max l.ht r.ht : Nat) : Int) := ⟨_, rfl⟩
  obtain ⟨sz, hsz⟩ : ∃ sz : Int, sz = ((l.sz + r.sz : Nat) : Int) := ⟨_, rfl⟩
  obtain ⟨mz, hmz⟩ : ∃ mz : Int, mz = ((max l.ht r.ht : Nat) : Int) := ⟨_, rfl⟩
  rw [← hhz] at ea hh1 ⊢
  rw [← hsz] at eu hh1 ⊢
  rw [← hmz] at ea em
  clear hhz hsz hmz hh hs hmx h1 h2
  simp only [Tn.pt] at hle ⊢
  simp [p125, hh1, hl, hll, hrl, ea, eu, em, hle, frz145]

theorem inner_call (b : Bool) (l r : Tn) (hs : l.sz + r.sz ≤ 1000000000000) (H : Heap) : callX (cfg b) An 125 [.c l.pt, .c r.pt] H = some (.c (Tn.node l r).pt, H) := callX_pure (inner_fn b l r hs) rfl rfl (prim_none (by decide)) H

namespace Tn
def balL (l r : Tn) : Tn := match l with
  | .node ll (.node lrl lrr) => if ll.ht < (Tn.node lrl lrr).ht then .node (.node ll lrl) (.node lrr r) else .node ll (.node (.node lrl lrr) r)
  | .node ll lr => .node ll (.node lr r)
  | .leaf _ _ => .node l r
def balR (l r : Tn) : Tn := match r with
  | .node (.node rll rlr) rr => if rr.ht < (Tn.node rll rlr).ht then .node (.node l rll) (.node rlr rr) else .node (.node l (.node rll rlr)) rr
  | .node rl rr => .node (.node l rl) rr
  | .leaf _ _ => .node l r
def bal (l r : Tn) : Tn := if r.ht + 1 < l.ht then balL l r else if l.ht + 1 < r.ht then balR l r else .node l r
theorem sz_balL (l r : Tn) : (balL l r).sz = l.sz + r.sz := by
  unfold balL
  split
  · split <;> simp [sz] <;> omega
  · simp [sz]; omega
  · simp [sz]
theorem sz_balR (l r : Tn) : (balR l r).sz = l.sz + r.sz := by
  unfold balR
  split
  · split <;> simp [sz] <;> omega
  · simp [sz]; omega
  · simp [sz]
theorem sz_bal (l r : Tn) : (bal l r).sz = l.sz + r.sz := by
  unfold bal
  split
  · exact sz_balL l r
  · split
    · exact sz_balR l r
    · rfl
end Tn
theorem gtZ (a c : Nat) (h : c < 4000000000000000000) : iAdd .i64 (c : Int) 1 = ((c + 1 : Nat) : Int) := by
  unfold iAdd
  rw [i64_small (by omega) (by omega)]
  omega

set_option maxHeartbeats 16000000 in
theorem bal_fn (b : Bool) (l r : Tn) (hs : l.sz + r.sz ≤ 1000000000000) : fnX (cfg b) An 124 [.c l.pt, .c r.pt] [] = some (.c (Tn.bal l r).pt, []) := by
  rw [fnX_eq, p124_eq]
  have h1 := l.ht_lt
  have h2 := r.ht_lt
  have e1 := gtZ 0 r.ht (by omega)
  have e2 := gtZ 0 l.ht (by omega)
  by_cases hl : r.ht + 1 < l.ht
  · have hlI : (r.ht : Int) + 1 < (l.ht : Int) := by omega
    cases l with
    | leaf k v => simp [Tn.ht] at hl
    | node ll lr =>
      have hlr : ¬ 0 < 0 := by omega
      simp only [Tn.sz] at hs
      cases lr with
      | leaf k v =>
        have hb : Tn.bal (.node ll (.leaf k v)) r = .node ll (.node (.leaf k v) r) := by simp [Tn.bal, hl, Tn.balL]
        have i1 := inner_call b (.leaf k v) r (by omega)
        have i2 := inner_call b ll (.node (.leaf k v) r) (by simp only [Tn.sz] at hs ⊢; omega)
        have hlp : (Tn.node ll (.leaf k v)).lp = ll.pt := rfl
        have hrp : (Tn.node ll (.leaf k v)).rp = (Tn.leaf k v).pt := rfl
        have hlt : ¬ ll.ht < (Tn.leaf k v).ht := by simp [Tn.ht]
        rw [hb]
        simp only [Tn.pt] at i1 i2 hlp hrp ⊢
        simp [p124, e1, hlI, hlp, hrp, hlt, i1, i2]
      | node lrl lrr =>
        have hlp : (Tn.node ll (.node lrl lrr)).lp = ll.pt := rfl
        have hrp : (Tn.node ll (.node lrl lrr)).rp = (Tn.node lrl lrr).pt := rfl
        have hlp2 : (Tn.node lrl lrr).lp = lrl.pt := rfl
        have hrp2 : (Tn.node lrl lrr).rp = lrr.pt := rfl
        simp only [Tn.sz] at hs
        by_cases hlt : ll.ht < (Tn.node lrl lrr).ht
        · have hb : Tn.bal (.node ll (.node lrl lrr)) r = .node (.node ll lrl) (.node lrr r) := by simp [Tn.bal, hl, Tn.balL, hlt]
          have i1 := inner_call b ll lrl (by omega)
          have i2 := inner_call b lrr r (by omega)
          have i3 := inner_call b (.node ll lrl) (.node lrr r) (by simp only [Tn.sz] at hs ⊢; omega)
          rw [hb]
          simp only [Tn.pt] at i1 i2 i3 hlp hrp hlp2 hrp2 ⊢
          simp [p124, e1, hlI, hlp, hrp, hlp2, hrp2, hlt, i1, i2, i3]
        · have hb : Tn.bal (.node ll (.node lrl lrr)) r = .node ll (.node (.node lrl lrr) r) := by simp [Tn.bal, hl, Tn.balL, hlt]
          have i1 := inner_call b (.node lrl lrr) r (by simp only [Tn.sz]; omega)
          have i2 := inner_call b ll (.node (.node lrl lrr) r) (by simp only [Tn.sz] at hs ⊢; omega)
          rw [hb]
          simp only [Tn.pt] at i1 i2 hlp hrp hlp2 hrp2 ⊢
          simp [p124, e1, hlI, hlp, hrp, hlp2, hrp2, hlt, i1, i2]
  · have hlI : ¬ (r.ht : Int) + 1 < (l.ht : Int) := by omega
    by_cases hr : l.ht + 1 < r.ht
    · have hrI : (l.ht : Int) + 1 < (r.ht : Int) := by omega
      cases r with
      | leaf k v => simp [Tn.ht] at hr
      | node rl rr =>
        simp only [Tn.sz] at hs
        cases rl with
        | leaf k v =>
          have hb : Tn.bal l (.node (.leaf k v) rr) = .node (.node l (.leaf k v)) rr := by simp [Tn.bal, hl, hr, Tn.balR]
          have i1 := inner_call b l (.leaf k v) (by omega)
          have i2 := inner_call b (.node l (.leaf k v)) rr (by simp only [Tn.sz] at hs ⊢; omega)
          have hlp : (Tn.node (.leaf k v) rr).lp = (Tn.leaf k v).pt := rfl
          have hrp : (Tn.node (.leaf k v) rr).rp = rr.pt := rfl
          have hlt : ¬ rr.ht < (Tn.leaf k v).ht := by simp [Tn.ht]
          rw [hb]
          simp only [Tn.pt] at i1 i2 hlp hrp ⊢
          simp [p124, e1, e2, hlI, hrI, hlp, hrp, hlt, i1, i2]
        | node rll rlr =>
          have hlp : (Tn.node (.node rll rlr) rr).lp = (Tn.node rll rlr).pt := rfl
          have hrp : (Tn.node (.node rll rlr) rr).rp = rr.pt := rfl
          have hlp2 : (Tn.node rll rlr).lp = rll.pt := rfl
          have hrp2 : (Tn.node rll rlr).rp = rlr.pt := rfl
          simp only [Tn.sz] at hs
          by_cases hlt : rr.ht < (Tn.node rll rlr).ht
          · have hb : Tn.bal l (.node (.node rll rlr) rr) = .node (.node l rll) (.node rlr rr) := by simp [Tn.bal, hl, hr, Tn.balR, hlt]
            have i1 := inner_call b l rll (by omega)
            have i2 := inner_call b rlr rr (by omega)
            have i3 := inner_call b (.node l rll) (.node rlr rr) (by simp only [Tn.sz] at hs ⊢; omega)
            rw [hb]
            simp only [Tn.pt] at i1 i2 i3 hlp hrp hlp2 hrp2 ⊢
            simp [p124, e1, e2, hlI, hrI, hlp, hrp, hlp2, hrp2, hlt, i1, i2, i3]
          · have hb : Tn.bal l (.node (.node rll rlr) rr) = .node (.node l (.node rll rlr)) rr := by simp [Tn.bal, hl, hr, Tn.balR, hlt]
            have i1 := inner_call b l (.node rll rlr) (by simp only [Tn.sz]; omega)
            have i2 := inner_call b (.node l (.node rll rlr)) rr (by simp only [Tn.sz] at hs ⊢; omega)
            rw [hb]
            simp only [Tn.pt] at i1 i2 hlp hrp hlp2 hrp2 ⊢
            simp [p124, e1, e2, hlI, hrI, hlp, hrp, hlp2, hrp2, hlt, i1, i2]
    · have hrI : ¬ (l.ht : Int) + 1 < (r.ht : Int) := by omega
      have hb : Tn.bal l r = .node l r := by simp [Tn.bal, hl, hr]
      have i1 := inner_call b l r hs
      rw [hb]
      simp only [Tn.pt] at i1 ⊢
      simp [p124, e1, e2, hlI, hrI, i1]
end Go.Fm


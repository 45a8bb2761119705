/-
  A part of the proof: PRNode.
-/
import Derived.Test.YtjmjijgnbjkpnaaDoorPRSum
import Derived.Test.YtjmjijgnbjkpnaaDoorPTree
import Derived.Test.YtjmjijgnbjkpnaaDoorDRef05
import Derived.Test.YtjmjijgnbjkpnaaDoorPGrow
import Derived.Test.YtjmjijgnbjkpnaaDoorPLawT1
set_option linter.all false
set_option autoImplicit true
/-
  ref05: the document's nodes; above, balanced.
-/
set_option maxRecDepth 100000
set_option linter.unusedVariables false
set_option linter.unusedSimpArgs false
namespace Go.Fm
open Go Go.Proofs

namespace Tn
/-- A node as the document has it: no sums. -/
def rcv : Tn → CV
  | leaf k v => .agg [.sl 1 (bytesAV k), pV v, .int .i64 0, .int .u64 1, .nilp, .nilp]
  | node l r => .agg [.sl 1 (bytesAV r.least), .nilsl, .int .i64 ((1 + max l.ht r.ht : Nat) : Int), .int .u64 ((l.sz + r.sz : Nat) : Int), .ptr l.rcv [] 0, .ptr r.rcv [] 0]
def rpt (t : Tn) : CV := .ptr t.rcv [] 0
def rpto : Option Tn → CV
  | none => .nilp
  | some t => t.rpt
def rlp : Tn → CV
  | leaf _ _ => .nilp
  | node l _ => l.rpt
def rrp : Tn → CV
  | leaf _ _ => .nilp
  | node _ r => r.rpt
theorem rcv_eq (t : Tn) : t.rcv = .agg [.sl 1 (bytesAV t.key), pV t.val, .int .i64 (t.ht : Int), .int .u64 (t.sz : Int), t.rlp, t.rrp] := by cases t <;> rfl
end Tn
theorem csz_rlp (t : Tn) : CV.size t.rlp = 1 := by cases t <;> rfl
theorem cag_rlp (t : Tn) : CV.isAgg t.rlp = false := by cases t <;> rfl
theorem csz_rrp (t : Tn) : CV.size t.rrp = 1 := by cases t <;> rfl
theorem cag_rrp (t : Tn) : CV.isAgg t.rrp = false := by cases t <;> rfl
attribute [simp] csz_rlp cag_rlp csz_rrp cag_rrp
section
variable (t : Tn)
theorem rg_k : getC t.rcv [0] = some (.sl 1 (bytesAV t.key)) := by rw [t.rcv_eq]; simp
theorem ro_k : offC t.rcv [0] = some 0 := by rw [t.rcv_eq]; simp
theorem rg_v : getC t.rcv [1] = some (pV t.val) := by rw [t.rcv_eq]; simp
theorem ro_v : offC t.rcv [1] = some 1 := by rw [t.rcv_eq]; simp
theorem rg_h : getC t.rcv [2] = some (.int .i64 (t.ht : Int)) := by rw [t.rcv_eq]; simp
theorem ro_h : offC t.rcv [2] = some 2 := by rw [t.rcv_eq]; simp [csz_pV]
theorem rg_s : getC t.rcv [3] = some (.int .u64 (t.sz : Int)) := by rw [t.rcv_eq]; simp
theorem ro_s : offC t.rcv [3] = some 3 := by rw [t.rcv_eq]; simp [csz_pV]
theorem rg_l : getC t.rcv [4] = some t.rlp := by rw [t.rcv_eq]; simp
theorem ro_l : offC t.rcv [4] = some 4 := by rw [t.rcv_eq]; simp
theorem rg_r : getC t.rcv [5] = some t.rrp := by rw [t.rcv_eq]; simp
theorem ro_r : offC t.rcv [5] = some 5 := by rw [t.rcv_eq]; simp
end
attribute [simp] rg_k ro_k rg_v ro_v rg_h ro_h rg_s ro_s rg_l ro_l rg_r ro_r
theorem eqg57 {b : Bool} : (cfg b).P.eqGuardType (cfg b).P.depth 57 = false := by kernel_rfl
theorem aeq57 {b : Bool} {x y : AV} : aeq (cfg b).P 12 57 x y = ptrEq x y := aeq_ptr (e := 64) (by kernel_rfl)
theorem be57 {b lit : Bool} {x y : AV} {H : Heap} (h : isIS x y = false) : mBin (cfg b) 57 lit .eql x y H = eqH H false (ptrEq x y) := by rw [mBin_eqg eqg57 h, aeq57]
theorem frz64 {b : Bool} : (cfg b).frz 64 = true := rfl

theorem rleast_loop (b : Bool) (cf : CallFn) : ∀ t : Tn, ∃ v, loopX 0 (p126_l0 b cf 0) [.c t.rpt] [] = some (.exit 0 [.c (Tn.leaf t.least v).rpt], [])
  | .leaf k v => by
    refine ⟨v, ?_⟩
    rw [loopX_eq]
    simp [p126_l0, Tn.rpt, Tn.least, Tn.ht]
  | .node l r => by
    obtain ⟨v, hv⟩ := rleast_loop b cf l
    refine ⟨v, ?_⟩
    rw [loopX_eq]
    have e : (Tn.node l r).rlp = .ptr l.rcv [] 0 := rfl
    have h0 := ht_node_posN l r
    simp only [Tn.least, ← hv]
    simp [p126_l0, Tn.rpt, e, h0]
theorem rleast_fn (b : Bool) (t : Tn) : fnX (cfg b) An 126 [.c t.rpt] [] = some (.c (.sl 1 (bytesAV t.least)), []) := by
  rw [fnX_eq, p126_eq]
  obtain ⟨v, hv⟩ := rleast_loop b (callX (cfg b) An) t
  have hk : (Tn.leaf t.least v).key = t.least := rfl
  simp [p126, hv]
  simp [Tn.rpt, hk]
theorem rleast_call (b : Bool) (t : Tn) (H : Heap) : callX (cfg b) An 126 [.c t.rpt] H = some (.c (.sl 1 (bytesAV t.least)), H) := callX_pure (rleast_fn b t) rfl rfl (prim_none (by decide)) H
theorem addZ' (a : Nat) (h : a < 4000000000000000000) : iAdd .i64 (a : Int) 1 = ((1 + a : Nat) : Int) := by
  rw [gtZ 0 a h, Nat.add_comm]

/-! CF -/
set_option maxHeartbeats 8000000 in
theorem above_fn (b : Bool) (l r : Tn) (hs : l.sz + r.sz ≤ 1000000000000) : fnX (cfg b) An 93 [.c l.rpt, .c r.rpt] [] = some (.c (Tn.node l r).rpt, []) := by
  rw [fnX_eq, p93_eq]
  have hp : (Tn.node l r).rpt = .ptr (.agg [.sl 1 (bytesAV r.least), .nilsl, .int .i64 ((1 + max l.ht r.ht : Nat) : Int), .int .u64 ((l.sz + r.sz : Nat) : Int), .ptr l.rcv [] 0, .ptr r.rcv [] 0]) [] 0 := rfl
  rw [hp]
  have h1 := l.ht_lt
  have h2 := r.ht_lt
  have eu := addU l.sz r.sz (by omega)
  have hle := rleast_call b r
  obtain ⟨sz, hsz⟩ : ∃ sz : Int, sz = ((l.sz + r.sz : Nat) : Int) := ⟨_, rfl⟩
  rw [← hsz] at eu ⊢
  by_cases c : l.ht < r.ht
  · have em : max l.ht r.ht = r.ht := by omega
    rw [em]
    have ea := addZ' r.ht (by omega)
    obtain ⟨hz, hhz⟩ : ∃ hz : Int, hz = ((1 + r.ht : Nat) : Int) := ⟨_, rfl⟩
    rw [← hhz] at ea ⊢
    clear hhz hsz
    simp only [Tn.rpt] at hle ⊢
    simp [p93, c, ea, eu, hle, frz64]
  · have em : max l.ht r.ht = l.ht := by omega
    rw [em]
    have ea := addZ' l.ht (by omega)
    obtain ⟨hz, hhz⟩ : ∃ hz : Int, hz = ((1 + l.ht : Nat) : Int) := ⟨_, rfl⟩
    rw [← hhz] at ea ⊢
    clear hhz hsz
    simp only [Tn.rpt] at hle ⊢
    simp [p93, c, ea, eu, hle, frz64]
theorem above_call (b : Bool) (l r : Tn) (hs : l.sz + r.sz ≤ 1000000000000) (H : Heap) : callX (cfg b) An 93 [.c l.rpt, .c r.rpt] H = some (.c (Tn.node l r).rpt, H) := callX_pure (above_fn b l r hs) rfl rfl (prim_none (by decide)) H
end Go.Fm

/-
  ref05: balanced.
-/
set_option maxRecDepth 100000
set_option linter.unusedVariables false
set_option linter.unusedSimpArgs false
namespace Go.Fm
open Go Go.Proofs

/-! CF -/
set_option maxHeartbeats 16000000 in
theorem rbal_fn (b : Bool) (l r : Tn) (hs : l.sz + r.sz ≤ 1000000000000) : fnX (cfg b) An 94 [.c l.rpt, .c r.rpt] [] = some (.c (Tn.bal l r).rpt, []) := by
  rw [fnX_eq, p94_eq]
  have h1 := l.ht_lt
  have h2 := r.ht_lt
  have e1 := gtZ 0 r.ht (by omega)
  have e2 := gtZ 0 l.ht (by omega)
  by_cases hl : r.ht + 1 < l.ht
  · have hlI : (r.ht : Int) + 1 < (l.ht : Int) := by omega
    cases l with
    | leaf k v => simp [Tn.ht] at hl
    | node ll lr =>
      have hlr : ¬ 0 < 0 := by omega
      simp only [Tn.sz] at hs
      cases lr with
      | leaf k v =>
        have hb : Tn.bal (.node ll (.leaf k v)) r = .node ll (.node (.leaf k v) r) := by simp [Tn.bal, hl, Tn.balL]
        have i1 := above_call b (.leaf k v) r (by omega)
        have i2 := above_call b ll (.node (.leaf k v) r) (by simp only [Tn.sz] at hs ⊢; omega)
        have hlp : (Tn.node ll (.leaf k v)).rlp = ll.rpt := rfl
        have hrp : (Tn.node ll (.leaf k v)).rrp = (Tn.leaf k v).rpt := rfl
        have hlt : ¬ ll.ht < (Tn.leaf k v).ht := by simp [Tn.ht]
        rw [hb]
        simp only [Tn.rpt] at i1 i2 hlp hrp ⊢
        simp [p94, e1, hlI, hlp, hrp, hlt, i1, i2]
      | node lrl lrr =>
        have hlp : (Tn.node ll (.node lrl lrr)).rlp = ll.rpt := rfl
        have hrp : (Tn.node ll (.node lrl lrr)).rrp = (Tn.node lrl lrr).rpt := rfl
        have hlp2 : (Tn.node lrl lrr).rlp = lrl.rpt := rfl
        have hrp2 : (Tn.node lrl lrr).rrp = lrr.rpt := rfl
        simp only [Tn.sz] at hs
        by_cases hlt : ll.ht < (Tn.node lrl lrr).ht
        · have hb : Tn.bal (.node ll (.node lrl lrr)) r = .node (.node ll lrl) (.node lrr r) := by simp [Tn.bal, hl, Tn.balL, hlt]
          have i1 := above_call b ll lrl (by omega)
          have i2 := above_call b lrr r (by omega)
          have i3 := above_call b (.node ll lrl) (.node lrr r) (by simp only [Tn.sz] at hs ⊢; omega)
          rw [hb]
          simp only [Tn.rpt] at i1 i2 i3 hlp hrp hlp2 hrp2 ⊢
          simp [p94, e1, hlI, hlp, hrp, hlp2, hrp2, hlt, i1, i2, i3]
        · have hb : Tn.bal (.node ll (.node lrl lrr)) r = .node ll (.node (.node lrl lrr) r) := by simp [Tn.bal, hl, Tn.balL, hlt]
          have i1 := above_call b (.node lrl lrr) r (by simp only [Tn.sz]; omega)
          have i2 := above_call b ll (.node (.node lrl lrr) r) (by simp only [Tn.sz] at hs ⊢; omega)
          rw [hb]
          simp only [Tn.rpt] at i1 i2 hlp hrp hlp2 hrp2 ⊢
          simp [p94, e1, hlI, hlp, hrp, hlp2, hrp2, hlt, i1, i2]
  · have hlI : ¬ (r.ht : Int) + 1 < (l.ht : Int) := by omega
    by_cases hr : l.ht + 1 < r.ht
    · have hrI : (l.ht : Int) + 1 < (r.ht : Int) := by omega
      cases r with
      | leaf k v => simp [Tn.ht] at hr
      | node rl rr =>
        simp only [Tn.sz] at hs
        cases rl with
        | leaf k v =>
          have hb : Tn.bal l (.node (.leaf k v) rr) = .node (.node l (.leaf k v)) rr := by simp [Tn.bal, hl, hr, Tn.balR]
          have i1 := above_call b l (.leaf k v) (by omega)
          have i2 := above_call b (.node l (.leaf k v)) rr (by simp only [Tn.sz] at hs ⊢; omega)
          have hlp : (Tn.node (.leaf k v) rr).rlp = (Tn.leaf k v).rpt := rfl
          have hrp : (Tn.node (.leaf k v) rr).rrp = rr.rpt := rfl
          have hlt : ¬ rr.ht < (Tn.leaf k v).ht := by simp [Tn.ht]
          rw [hb]
          simp only [Tn.rpt] at i1 i2 hlp hrp ⊢
          simp [p94, e1, e2, hlI, hrI, hlp, hrp, hlt, i1, i2]
        | node rll rlr =>
          have hlp : (Tn.node (.node rll rlr) rr).rlp = (Tn.node rll rlr).rpt := rfl
          have hrp : (Tn.node (.node rll rlr) rr).rrp = rr.rpt := rfl
          have hlp2 : (Tn.node rll rlr).rlp = rll.rpt := rfl
          have hrp2 : (Tn.node rll rlr).rrp = rlr.rpt := rfl
          simp only [Tn.sz] at hs
          by_cases hlt : rr.ht < (Tn.node rll rlr).ht
          · have hb : Tn.bal l (.node (.node rll rlr) rr) = .node (.node l rll) (.node rlr rr) := by simp [Tn.bal, hl, hr, Tn.balR, hlt]
            have i1 := above_call b l rll (by omega)
            have i2 := above_call b rlr rr (by omega)
            have i3 := above_call b (.node l rll) (.node rlr rr) (by simp only [Tn.sz] at hs ⊢; omega)
            rw [hb]
            simp only [Tn.rpt] at i1 i2 i3 hlp hrp hlp2 hrp2 ⊢
            simp [p94, e1, e2, hlI, hrI, hlp, hrp, hlp2, hrp2, hlt, i1, i2, i3]
          · have hb : Tn.bal l (.node (.node rll rlr) rr) = .node (.node l (.node rll rlr)) rr := by simp [Tn.bal, hl, hr, Tn.balR, hlt]
            have i1 := above_call b l (.node rll rlr) (by simp only [Tn.sz]; omega)
            have i2 := above_call b (.node l (.node rll rlr)) rr (by simp only [Tn.sz] at hs ⊢; omega)
            rw [hb]
            simp only [Tn.rpt] at i1 i2 hlp hrp hlp2 hrp2 ⊢
            simp [p94, e1, e2, hlI, hrI, hlp, hrp, hlp2, hrp2, hlt, i1, i2]
    · have hrI : ¬ (l.ht : Int) + 1 < (r.ht : Int) := by omega
      have hb : Tn.bal l r = .node l r := by simp [Tn.bal, hl, hr]
      have i1 := above_call b l r hs
      rw [hb]
      simp only [Tn.rpt] at i1 ⊢
      simp [p94, e1, e2, hlI, hrI, i1]
theorem rbal_call (b : Bool) (l r : Tn) (hs : l.sz + r.sz ≤ 1000000000000) (H : Heap) : callX (cfg b) An 94 [.c l.rpt, .c r.rpt] H = some (.c (Tn.bal l r).rpt, H) := callX_pure (rbal_fn b l r hs) rfl rfl (prim_none (by decide)) H
end Go.Fm

/-
  ref05: Put.
-/
set_option maxRecDepth 100000
set_option linter.unusedVariables false
set_option linter.unusedSimpArgs false
namespace Go.Fm
open Go Go.Proofs

theorem rlp_node (l r : Tn) : (Tn.node l r).rlp = l.rpt := rfl
theorem rrp_node (l r : Tn) : (Tn.node l r).rrp = r.rpt := rfl
theorem v93 {b : Bool} {H : Heap} {vs : List AV} : callX (cfg b) An 93 vs H = cvw (fnX (cfg b) An 93) (handCs (cfg b) false H vs) := callX_v (prim_none (by decide))
/-! CF -/
set_option maxHeartbeats 8000000 in
theorem rput_fn (b : Bool) (key : List UInt8) (v : Option (List UInt8)) : ∀ t : Tn, t.sz ≤ 100000000000 →
    fnX (cfg b) An 41 [.c t.rpt, .c (.sl 1 (bytesAV key)), .c (pV v)] [] = some (.c (Tn.put key v t).rpt, [])
  | .leaf k w, hs => by
    rw [fnX_eq, p41_eq]
    have hlf : (Tn.leaf key v).rpt = .ptr (.agg [.sl 1 (bytesAV key), pV v, .int .i64 0, .int .u64 1, .nilp, .nilp]) [] 0 := rfl
    have hlc : (Tn.leaf key v).rcv = .agg [.sl 1 (bytesAV key), pV v, .int .i64 0, .int .u64 1, .nilp, .nilp] := rfl
    by_cases h1 : Op.bytesLess key k = true
    · have e : Tn.put key v (.leaf k w) = .node (.leaf key v) (.leaf k w) := by simp [Tn.put, h1]
      have i1 := above_fn b (.leaf key v) (.leaf k w) (by simp [Tn.sz])
      have h2 : (key == k) = false := by
        simp only [beq_eq_false_iff_ne, ne_eq]; intro h; subst h; rw [bytesLess_irr] at h1; cases h1
      rw [e]
      simp only [Tn.rpt, hlc] at i1 ⊢
      simp [p41, be57, key_leaf, ht_leaf, BA_toList, h1, h2, v93, i1, frz64]
    · have h1' : Op.bytesLess key k = false := by simpa using h1
      by_cases h2 : key = k
      · have e : Tn.put key v (.leaf k w) = .leaf key v := by simp [Tn.put, h1', h2, bytesLess_irr]
        rw [e]
        have h3 : (key == k) = true := by simpa using h2
        simp only [Tn.rpt, hlc]
        simp [p41, be57, key_leaf, ht_leaf, BA_toList, h1', h3, frz64]
      · have e : Tn.put key v (.leaf k w) = .node (.leaf k w) (.leaf key v) := by simp [Tn.put, h1', h2]
        have i1 := above_fn b (.leaf k w) (.leaf key v) (by simp [Tn.sz])
        rw [e]
        have h3 : (key == k) = false := by simpa using h2
        simp only [Tn.rpt, hlc] at i1 ⊢
        simp [p41, be57, key_leaf, ht_leaf, BA_toList, h1', h3, v93, i1, frz64]
  | .node l r, hs => by
    simp only [Tn.sz] at hs
    have ihl : ∀ H, callX (cfg b) An 41 [.c l.rpt, .c (.sl 1 (bytesAV key)), .c (pV v)] H = some (.c (Tn.put key v l).rpt, H) := callX_pure (rput_fn b key v l (by omega)) rfl rfl (prim_none (by decide))
    have ihr : ∀ H, callX (cfg b) An 41 [.c r.rpt, .c (.sl 1 (bytesAV key)), .c (pV v)] H = some (.c (Tn.put key v r).rpt, H) := callX_pure (rput_fn b key v r (by omega)) rfl rfl (prim_none (by decide))
    rw [fnX_eq, p41_eq]
    have hp := ht_node_ne l r
    have hp2 := ht_node_posN l r
    have hp3 : (Tn.node l r).ht ≠ 0 := by omega
    have s1 := Tn.sz_put key v l
    have s2 := Tn.sz_put key v r
    by_cases h1 : Op.bytesLess key r.least = true
    · have e : Tn.put key v (.node l r) = .bal (Tn.put key v l) r := by simp [Tn.put, h1]
      have i1 := rbal_call b (Tn.put key v l) r (by omega)
      rw [e]
      have hlp := rlp_node l r
      have hrp := rrp_node l r
      simp only [Tn.rpt] at ihl i1 hlp hrp ⊢
      simp [p41, be57, key_node, hp, hp3, hlp, hrp, BA_toList, h1, ihl, i1, frz64]
    · have h1' : Op.bytesLess key r.least = false := by simpa using h1
      have e : Tn.put key v (.node l r) = .bal l (Tn.put key v r) := by simp [Tn.put, h1']
      have i1 := rbal_call b l (Tn.put key v r) (by omega)
      rw [e]
      have hlp := rlp_node l r
      have hrp := rrp_node l r
      simp only [Tn.rpt] at ihr i1 hlp hrp ⊢
      simp [p41, be57, key_node, hp, hp3, hlp, hrp, BA_toList, h1', ihr, i1, frz64]
theorem rput_nil (b : Bool) (key : List UInt8) (v : Option (List UInt8)) :
    fnX (cfg b) An 41 [.c .nilp, .c (.sl 1 (bytesAV key)), .c (pV v)] [] = some (.c (Tn.leaf key v).rpt, []) := by
  rw [fnX_eq, p41_eq]
  have hlc : (Tn.leaf key v).rcv = .agg [.sl 1 (bytesAV key), pV v, .int .i64 0, .int .u64 1, .nilp, .nilp] := rfl
  simp only [Tn.rpt, hlc]
  simp [p41, be57, frz64]
theorem rput_call (b : Bool) (key : List UInt8) (v : Option (List UInt8)) (t : Option Tn) (ht : ∀ u, t = some u → u.sz ≤ 100000000000) (H : Heap) :
    callX (cfg b) An 41 [.c (Tn.rpto t), .c (.sl 1 (bytesAV key)), .c (pV v)] H = some (.c (Tn.puto key v t).rpt, H) := by
  cases t with
  | none => exact callX_pure (rput_nil b key v) rfl rfl (prim_none (by decide)) H
  | some u => exact callX_pure (rput_fn b key v u (ht u rfl)) rfl rfl (prim_none (by decide)) H
end Go.Fm

/-
  ref05: Cut, Leaves.
-/
set_option maxRecDepth 100000
set_option linter.unusedVariables false
set_option linter.unusedSimpArgs false
namespace Go.Fm
open Go Go.Proofs

theorem cut_node_t (key : List UInt8) (l r : Tn) (h : (Tn.cut key (.node l r)).2 = true) :
    (Op.bytesLess key r.least = true ∧ (Tn.cut key l).2 = true) ∨ (Op.bytesLess key r.least = false ∧ (Tn.cut key r).2 = true) := by
  unfold Tn.cut at h
  by_cases c : Op.bytesLess key r.least = true
  · rw [if_pos c] at h
    refine Or.inl ⟨c, ?_⟩
    revert h
    obtain ⟨x, y⟩ := Tn.cut key l
    cases y <;> simp [Tn.cutR]
  · rw [if_neg c] at h
    refine Or.inr ⟨by simpa using c, ?_⟩
    revert h
    obtain ⟨x, y⟩ := Tn.cut key r
    cases y <;> simp [Tn.cutR]
/-! CF -/
set_option maxHeartbeats 8000000 in
theorem rcut_fn (b : Bool) (key : List UInt8) : ∀ t : Tn, t.sz ≤ 100000000000 → (Tn.cut key t).2 = true →
    fnX (cfg b) An 44 [.c t.rpt, .c (.sl 1 (bytesAV key))] [] = some (.c (Tn.rpto (Tn.cut key t).1), [])
  | .leaf k w, hs, hc => by
    rw [fnX_eq, p44_eq]
    have hk : k = key := by
      unfold Tn.cut at hc
      by_cases c : k = key
      · exact c
      · rw [if_neg c] at hc; simp at hc
    have e : (Tn.cut key (.leaf k w)).1 = none := by unfold Tn.cut; rw [if_pos hk]
    rw [e]
    simp [p44, Tn.rpt, Tn.rpto, ht_leaf]
  | .node l r, hs, hc => by
    simp only [Tn.sz] at hs
    rw [fnX_eq, p44_eq]
    have hp := ht_node_ne l r
    have hp2 := ht_node_posN l r
    have hp3 : (Tn.node l r).ht ≠ 0 := by omega
    have hlp := rlp_node l r
    have hrp := rrp_node l r
    rcases cut_node_t key l r hc with ⟨c, hc2⟩ | ⟨c, hc2⟩
    · have ih : ∀ H, callX (cfg b) An 44 [.c l.rpt, .c (.sl 1 (bytesAV key))] H = some (.c (Tn.rpto (Tn.cut key l).1), H) := callX_pure (rcut_fn b key l (by omega) hc2) rfl rfl (prim_none (by decide))
      have hsz := Tn.sz_cut key l
      have e : (Tn.cut key (.node l r)).1 = match (Tn.cut key l).1 with
          | none => some r
          | some u => some (Tn.bal u r) := by
        rw [Tn.cut, if_pos c]
        clear ih
        revert hc2
        generalize Tn.cut key l = q
        intro hc2
        obtain ⟨x, y⟩ := q
        change y = true at hc2
        subst hc2
        cases x <;> rfl
      rw [e]
      cases hx : (Tn.cut key l).1 with
      | none =>
        rw [hx] at ih
        simp only [Tn.rpt, Tn.rpto] at ih hlp hrp ⊢
        simp [p44, be57, key_node, hp, hp3, hlp, hrp, BA_toList, c, ih]
      | some u =>
        rw [hx] at ih
        have := hsz u hx
        have i1 := rbal_call b u r (by omega)
        simp only [Tn.rpt, Tn.rpto] at ih i1 hlp hrp ⊢
        simp [p44, be57, key_node, hp, hp3, hlp, hrp, BA_toList, c, ih, i1]
    · have ih : ∀ H, callX (cfg b) An 44 [.c r.rpt, .c (.sl 1 (bytesAV key))] H = some (.c (Tn.rpto (Tn.cut key r).1), H) := callX_pure (rcut_fn b key r (by omega) hc2) rfl rfl (prim_none (by decide))
      have hsz := Tn.sz_cut key r
      have e : (Tn.cut key (.node l r)).1 = match (Tn.cut key r).1 with
          | none => some l
          | some u => some (Tn.bal l u) := by
        rw [Tn.cut, if_neg (by simp [c])]
        clear ih
        revert hc2
        generalize Tn.cut key r = q
        intro hc2
        obtain ⟨x, y⟩ := q
        change y = true at hc2
        subst hc2
        cases x <;> rfl
      rw [e]
      cases hx : (Tn.cut key r).1 with
      | none =>
        rw [hx] at ih
        simp only [Tn.rpt, Tn.rpto] at ih hlp hrp ⊢
        simp [p44, be57, key_node, hp, hp3, hlp, hrp, BA_toList, c, ih]
      | some u =>
        rw [hx] at ih
        have := hsz u hx
        have i1 := rbal_call b l u (by omega)
        simp only [Tn.rpt, Tn.rpto] at ih i1 hlp hrp ⊢
        simp [p44, be57, key_node, hp, hp3, hlp, hrp, BA_toList, c, ih, i1]
theorem rcut_call (b : Bool) (key : List UInt8) (t : Tn) (hs : t.sz ≤ 100000000000) (hc : (Tn.cut key t).2 = true) (H : Heap) :
    callX (cfg b) An 44 [.c t.rpt, .c (.sl 1 (bytesAV key))] H = some (.c (Tn.rpto (Tn.cut key t).1), H) := callX_pure (rcut_fn b key t hs hc) rfl rfl (prim_none (by decide)) H

theorem v43 {b : Bool} {H : Heap} {vs : List AV} : callX (cfg b) An 43 vs H = cvw (fnX (cfg b) An 43) (handCs (cfg b) true H vs) := callX_v (prim_none (by decide))
theorem keepR43 {b : Bool} : (cfg b).keepR 43 = true := rfl
set_option maxHeartbeats 8000000 in
theorem rleaves_fn (b : Bool) : ∀ (t : Tn), ∀ es : List CV, es.length + t.sz ≤ 1000000000 →
    fnX (cfg b) An 43 [.c t.rpt, .c .nilsl] [] = some (.os 0, [.row 97 2 t.pairs]) ∧
    fnX (cfg b) An 43 [.c t.rpt, .os 0] [.row 97 2 es] = some (.os 1, [.dead, .row 97 2 (es ++ t.pairs)])
  | .leaf k v, es, hs => by
    have hp : (Tn.leaf k v).pairs = [pairC k v] := rfl
    have hv : (Tn.leaf k v).val = v := rfl
    have h1 : 1 ≤ maxLen := big_max (by decide)
    simp only [Tn.sz] at hs
    have h2 : es.length + 1 ≤ maxLen := big_max (by omega)
    have h3 : (es.length + 1) * 48 ≤ 140737488355328 := by omega
    rw [hp]
    constructor
    · rw [fnX_eq, p43_eq]
      simp [p43, Tn.rpt, be57, ht_leaf, key_leaf, hv, pairC, h1, keepR43]
    · rw [fnX_eq, p43_eq]
      simp [p43, Tn.rpt, be57, ht_leaf, key_leaf, hv, pairC, h1, h2, h3, keepR43]
  | .node l r, es, hs => by
    simp only [Tn.sz] at hs
    have hl := rleaves_fn b l es (by omega)
    have hr1 := (rleaves_fn b r l.pairs (by rw [Tn.pairs_len]; omega)).2
    have hr2 := (rleaves_fn b r (es ++ l.pairs) (by rw [List.length_append, Tn.pairs_len]; omega)).2
    have hne := ht_node_ne l r
    have hp3 : (Tn.node l r).ht ≠ 0 := by have := ht_node_posN l r; omega
    have hlp := rlp_node l r
    have hrp := rrp_node l r
    have hp : (Tn.node l r).pairs = l.pairs ++ r.pairs := by simp [Tn.pairs, Tn.leaves]
    rw [hp]
    simp only [Tn.rpt] at hl hr1 hr2 hlp hrp ⊢
    constructor
    · rw [fnX_eq, p43_eq]
      simp [p43, be57, hne, hp3, hlp, hrp, v43, hl.1, hr1, keepR43]
    · rw [fnX_eq, p43_eq]
      simp [p43, be57, hne, hp3, hlp, hrp, v43, hl.2, hr2, keepR43]
theorem rleaves_nil (b : Bool) : fnX (cfg b) An 43 [.c .nilp, .c .nilsl] [] = some (.c .nilsl, []) := by
  rw [fnX_eq, p43_eq]
  simp [p43, be57]
end Go.Fm

/-
  ref05: Hash, Api, Sum.
-/
set_option maxRecDepth 100000
set_option linter.unusedVariables false
set_option linter.unusedSimpArgs false
namespace Go.Fm
open Go Go.Proofs

theorem rsum_call (o : Option (List UInt8)) (hm : (pB o).length ≤ 100000000000000) (H : Heap) :
    callX (cfg true) An 90 [.c (pV o)] H = some (.c (.arr 32 .u8 (dI (shaW (pB o)))), H) := callX_pure (rsum_fn o hm) rfl rfl (prim_none (by decide)) H
theorem v90 {b : Bool} {H : Heap} {vs : List AV} : callX (cfg b) An 90 vs H = cvw (fnX (cfg b) An 90) (handCs (cfg b) false H vs) := callX_v (prim_none (by decide))
theorem eight_call (b : Bool) (z : Int) (H : Heap) : callX (cfg b) An 32 [.c (.int .u64 z)] H = some (.c (.sl 1 (bytesAV (lenBytes z))), H) := callX_pure (eight_fn b z) rfl rfl (prim_none (by decide)) H
theorem cf_PRNode5_8bda40f5 : clashFree [0, 1, 3, 7, 15, 0, 32, 127, 0, 511, 1023, 2047] [(false, [0], 3, 3), (false, [0], 3, 3), (false, [], 3, 3), (false, [], 3, 3), (false, [], 3, 4), (false, [0], 4, 4), (false, [0], 4, 4), (true, [3], 4, 5), (true, [2], 5, 5), (true, [4], 5, 6), (true, [5], 6, 6), (true, [1], 6, 6)] = true := by decide
attribute [simp] cf_PRNode5_8bda40f5
theorem cf_PRNode5_a0faf9c4 : clashFree [0, 1, 3, 7, 0, 16, 48, 127, 255] [(false, [0], 2, 2), (false, [0], 2, 2), (false, [], 2, 2), (false, [], 2, 3), (false, [0], 3, 3), (false, [0], 3, 3), (false, [], 3, 3), (true, [2], 3, 4), (false, [3], 4, 4)] = true := by decide
attribute [simp] cf_PRNode5_a0faf9c4
theorem cf_PRNode5_97df2d53 : clashFree [0, 0, 2, 7, 0, 16, 63, 127, 255] [(false, [3], 4, 4), (false, [0], 4, 4), (true, [0], 4, 4), (true, [3], 4, 5), (false, [0], 5, 5), (false, [0], 5, 5), (true, [4], 5, 6), (true, [5], 6, 6), (true, [1], 6, 6)] = false := by decide
attribute [simp] cf_PRNode5_97df2d53
theorem cf_PRNode5_d29e1b01 : clashFree [0, 0, 2, 7, 0, 16, 63, 127, 255] [(false, [3], 4, 4), (false, [0], 4, 4), (false, [0], 4, 4), (true, [3], 4, 5), (false, [0], 5, 5), (false, [0], 5, 5), (true, [4], 5, 6), (true, [5], 6, 6), (true, [1], 6, 6)] = true := by decide
attribute [simp] cf_PRNode5_d29e1b01
theorem cf_PRNode5_5e17ebae : clashFree [0, 1, 3, 7, 0, 16, 48, 127, 255] [(false, [0], 2, 2), (false, [0], 2, 2), (false, [], 2, 2), (false, [], 2, 3), (false, [0], 3, 3), (false, [0], 3, 3), (false, [], 3, 3), (true, [2], 3, 4), (false, [], 4, 4)] = true := by decide
attribute [simp] cf_PRNode5_5e17ebae
theorem cf_PRNode5_bdb2b246 : clashFree [0, 0, 2, 7, 0, 16, 63, 127, 255] [(false, [], 4, 4), (false, [0], 4, 4), (true, [0], 4, 4), (true, [3], 4, 5), (false, [0], 5, 5), (false, [0], 5, 5), (true, [4], 5, 6), (true, [5], 6, 6), (true, [1], 6, 6)] = false := by decide
attribute [simp] cf_PRNode5_bdb2b246
theorem cf_PRNode5_dce91210 : clashFree [0, 0, 2, 7, 0, 16, 63, 127, 255] [(false, [], 4, 4), (false, [0], 4, 4), (false, [0], 4, 4), (true, [3], 4, 5), (false, [0], 5, 5), (false, [0], 5, 5), (true, [4], 5, 6), (true, [5], 6, 6), (true, [1], 6, 6)] = true := by decide
attribute [simp] cf_PRNode5_dce91210
/-! CF -/
set_option maxHeartbeats 4000000 in
theorem rhash_leaf (k : List UInt8) (v : Option (List UInt8)) (hk : k.length ≤ 1000000) (hv : (pB v).length ≤ 1000000) : fnX (cfg true) An 104 [.c (Tn.leaf k v).api] [] = some (.c (.arr 32 .u8 (dI (Tn.leaf k v).hash)), []) := by
  rw [fnX_eq, p104_eq, api_leaf]
  have e1 := rsum_call v (by omega)
  obtain ⟨w, hw⟩ : ∃ w, w = shaW (pB v) := ⟨_, rfl⟩
  have hwl : w.length = 32 := by rw [hw, shaW_len]
  have hh : (Tn.leaf k v).hash = shaW ([0, byteOf (k.length : Int)] ++ k ++ w) := by rw [hw]; rfl
  have e2 := rsum_fn (some ([0, byteOf (k.length : Int)] ++ k ++ w)) (by simp [pB, hwl]; omega)
  simp only [pB] at e2
  have hl : (dI (shaW ([0, byteOf (k.length : Int)] ++ k ++ w))).length = 32 := by simp [dI, shaW_len]
  rw [hh]
  rw [← hw] at e1
  generalize shaW ([0, byteOf (k.length : Int)] ++ k ++ w) = x at *
  have hb := wrap_byte (k.length : Int)
  generalize byteOf (k.length : Int) = z at *
  have hdw : (dI w).length = 32 := by simp [dI, hwl]
  have h32 : 32 ≤ maxLen := big_max (by decide)
  have ht := take_av w 32 hwl
  have m0 : 2 ≤ maxLen := big_max (by decide)
  have m1 : 2 + k.length ≤ maxLen := big_max (by omega)
  have m2 : 2 + (k.length + 32) ≤ maxLen := big_max (by omega)
  have m3 : 2 + k.length ≤ 140737488355328 := by omega
  have m4 : k.length ≤ 140737488355294 := by omega
  have m5 : k.length + 1 + 1 + 32 ≤ maxLen := big_max (by omega)
  have hp : pV (some ([0, z] ++ k ++ w)) = .sl 1 ([.int .u8 0, .int .u8 (z.toNat : Int)] ++ bytesAV k ++ bytesAV w) := by simp [pV, bytesAV]
  rw [hp] at e2
  simp only [List.cons_append, List.nil_append] at e2
  simp [p104, v90, e1, e2, hl, hdw, h32, dI_map, ht, hb, hwl, m0, m1, m2, m3, m4, m5]

set_option maxHeartbeats 4000000 in
theorem rhash_node (l r : Tn) : fnX (cfg true) An 104 [.c (Tn.node l r).api] [] = some (.c (.arr 32 .u8 (dI (Tn.node l r).hash)), []) := by
  rw [fnX_eq, p104_eq, api_node]
  obtain ⟨h, hh⟩ : ∃ h : Nat, h = 1 + max l.ht r.ht := ⟨_, rfl⟩
  obtain ⟨s, hs⟩ : ∃ s : Nat, s = l.sz + r.sz := ⟨_, rfl⟩
  have hx : (Tn.node l r).hash = shaW ([1, byteOf (h : Int)] ++ lenBytes (s : Int) ++ l.hash ++ r.hash) := by rw [hh, hs]; rfl
  rw [hx, ← hh, ← hs]
  have h0 : h ≠ 0 := by omega
  have hll := l.hash_len
  have hrl := r.hash_len
  generalize l.hash = a at *
  generalize r.hash = c at *
  have hyl : (lenBytes (s : Int)).length = 8 := by simp [lenBytes]
  have e2 := rsum_fn (some ([1, byteOf (h : Int)] ++ lenBytes (s : Int) ++ a ++ c)) (by simp [pB, hyl, hll, hrl])
  simp only [pB] at e2
  have hl : (dI (shaW ([1, byteOf (h : Int)] ++ lenBytes (s : Int) ++ a ++ c))).length = 32 := by simp [dI, shaW_len]
  generalize shaW ([1, byteOf (h : Int)] ++ lenBytes (s : Int) ++ a ++ c) = x at *
  have hb := wrap_byte (h : Int)
  generalize byteOf (h : Int) = z at *
  have hsz := eight_call true (s : Int)
  generalize lenBytes (s : Int) = y at *
  have hda : (dI a).length = 32 := by simp [dI, hll]
  have hdc : (dI c).length = 32 := by simp [dI, hrl]
  have h32 : 32 ≤ maxLen := big_max (by decide)
  have hta := take_av a 32 hll
  have htc := take_av c 32 hrl
  have m0 : 2 ≤ maxLen := big_max (by decide)
  have m1 : 10 ≤ maxLen := big_max (by decide)
  have m2 : 42 ≤ maxLen := big_max (by decide)
  have m3 : 74 ≤ maxLen := big_max (by decide)
  have hp : pV (some ([1, z] ++ y ++ a ++ c)) = .sl 1 ([.int .u8 1, .int .u8 (z.toNat : Int)] ++ bytesAV y ++ bytesAV a ++ bytesAV c) := by simp [pV, bytesAV]
  rw [hp] at e2
  simp only [List.cons_append, List.nil_append, List.append_assoc] at e2
  have hhi : (((h : Nat) : Int) == 0) = false := by simp [h0]
  simp [p104, v90, e2, hsz, hl, hyl, hll, hrl, hda, hdc, h32, dI_map, hta, htc, hb, h0, hhi, m0, m1, m2, m3]
theorem rhash_call (t : Tn) (h : t.fit) (H : Heap) : callX (cfg true) An 104 [.c t.api] H = some (.c (.arr 32 .u8 (dI t.hash)), H) := by
  cases t with
  | leaf k v => exact callX_pure (rhash_leaf k v h.1 h.2) rfl rfl (prim_none (by decide)) H
  | node l r => exact callX_pure (rhash_node l r) rfl rfl (prim_none (by decide)) H
end Go.Fm

/-
  ref05: Api, Sum.
-/
set_option maxRecDepth 100000
set_option linter.unusedVariables false
set_option linter.unusedSimpArgs false
namespace Go.Fm
open Go Go.Proofs

/-! CF -/
theorem rsum_of (t : Tn) (hf : t.fit) (ih : fnX (cfg true) An 48 [.c t.rpt] [] = some (.c t.api, [])) : fnX (cfg true) An 64 [.c t.rpt] [] = some (.c (.arr 32 .u8 (dI t.hash)), []) := by
  rw [fnX_eq, p64_eq]
  have a1 : ∀ H, callX (cfg true) An 48 [.c t.rpt] H = some (.c t.api, H) := callX_pure ih rfl rfl (prim_none (by decide))
  have a2 := rhash_call t hf
  have hl := len_dI t.hash
  rw [Tn.hash_len] at hl
  simp only [Tn.rpt] at a1 ⊢
  simp [p64, be57, a1, a2, hl]
set_option maxHeartbeats 8000000 in
theorem rapi_fn : ∀ t : Tn, t.fit → fnX (cfg true) An 48 [.c t.rpt] [] = some (.c t.api, [])
  | .leaf k v, hf => by
    rw [fnX_eq, p48_eq, api_leaf]
    have hz : dI zero32 = List.replicate 32 0 := by decide
    have hk : (Tn.leaf k v).key = k := rfl
    have hv : (Tn.leaf k v).val = v := rfl
    have hs : (Tn.leaf k v).sz = 1 := rfl
    simp [p48, Tn.rpt, ht_leaf, hk, hv, hs, hz]
  | .node l r, hf => by
    have s1 : ∀ H, callX (cfg true) An 64 [.c l.rpt] H = some (.c (.arr 32 .u8 (dI l.hash)), H) := callX_pure (rsum_of l hf.1 (rapi_fn l hf.1)) rfl rfl (prim_none (by decide))
    have s2 : ∀ H, callX (cfg true) An 64 [.c r.rpt] H = some (.c (.arr 32 .u8 (dI r.hash)), H) := callX_pure (rsum_of r hf.2 (rapi_fn r hf.2)) rfl rfl (prim_none (by decide))
    rw [fnX_eq, p48_eq, api_node]
    have hp2 := ht_node_posN l r
    have hlp := rlp_node l r
    have hrp := rrp_node l r
    have hk : (Tn.node l r).key = r.least := rfl
    have hv : (Tn.node l r).val = none := rfl
    have hs : (Tn.node l r).sz = l.sz + r.sz := rfl
    have hh : (Tn.node l r).ht = 1 + max l.ht r.ht := rfl
    have hll := len_dI l.hash
    rw [Tn.hash_len] at hll
    have hrl := len_dI r.hash
    rw [Tn.hash_len] at hrl
    rw [← hh, ← hs]
    simp only [Tn.rpt] at s1 s2 hlp hrp ⊢
    simp [p48, hp2, hlp, hrp, hk, hv, s1, s2, hll, hrl, pV]
theorem rapi_call (t : Tn) (hf : t.fit) (H : Heap) : callX (cfg true) An 48 [.c t.rpt] H = some (.c t.api, H) := callX_pure (rapi_fn t hf) rfl rfl (prim_none (by decide)) H
theorem rsumn_fn (t : Option Tn) (hf : ∀ u, t = some u → u.fit) : fnX (cfg true) An 64 [.c (Tn.rpto t)] [] = some (.c (.arr 32 .u8 (dI (Tn.hasho t))), []) := by
  cases t with
  | some t => exact rsum_of t (hf t rfl) (rapi_fn t (hf t rfl))
  | none =>
    rw [fnX_eq, p64_eq]
    have a1 := rsum_call none (by simp [pB])
    have hl : (dI (shaW (pB none))).length = 32 := by simp [dI, shaW_len]
    have hh : Tn.hasho none = shaW (pB none) := rfl
    rw [hh]
    simp only [pV] at a1
    simp [p64, be57, Tn.rpto, a1, hl]
theorem rsumn_call (t : Option Tn) (hf : ∀ u, t = some u → u.fit) (H : Heap) : callX (cfg true) An 64 [.c (Tn.rpto t)] H = some (.c (.arr 32 .u8 (dI (Tn.hasho t))), H) := callX_pure (rsumn_fn t hf) rfl rfl (prim_none (by decide)) H
end Go.Fm


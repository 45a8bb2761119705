/-
  A part of the proof: PNod3.
-/
import Derived.Test.YtjmjijgnbjkpnaaDoorPNod2
import Derived.Test.YtjmjijgnbjkpnaaDoorPLawT1
import Derived.Test.YtjmjijgnbjkpnaaDoorPWords
set_option linter.all false
set_option autoImplicit true
/-
  nodes.Base: Save.
-/
set_option maxRecDepth 100000
set_option linter.unusedVariables false
set_option linter.unusedSimpArgs false
namespace Go.Fm
open Go Go.Proofs

theorem frz41n {b : Bool} : (cfg b).frz 41 = false := rfl
def EncFn (b : Bool) (n : Tn) : Prop := ∀ H, callX (cfg b) An 106 [.c n.api] H = some (.tup [.c (.sl 1 (bytesAV n.enc)), .c (.int .i64 0)], H)
def NdOk (p : Pr) : Prop := 0 < p.1.length ∧ p.1.length ≤ 96 ∧ (pB p.2).length ≤ 256
theorem nodesL_facts : ∀ (t n : Tn), n ∈ t.nodesL → n.sz ≤ t.sz ∧ (∀ p ∈ n.leaves, p ∈ t.leaves) ∧ (t.fit → n.fit)
  | .leaf k v, n, h => by
    simp only [Tn.nodesL, List.mem_singleton] at h
    subst h
    exact ⟨Nat.le_refl _, fun _ h => h, fun h => h⟩
  | .node l r, n, h => by
    simp only [Tn.nodesL, List.mem_cons, List.mem_append] at h
    rcases h with rfl | h | h
    · exact ⟨Nat.le_refl _, fun _ h => h, fun h => h⟩
    · obtain ⟨h1, h2, h3⟩ := nodesL_facts l n h
      exact ⟨by simp only [Tn.sz]; omega, fun p hp => by simp only [Tn.leaves]; exact List.mem_append.2 (.inl (h2 p hp)), fun hf => h3 hf.1⟩
    · obtain ⟨h1, h2, h3⟩ := nodesL_facts r n h
      exact ⟨by simp only [Tn.sz]; omega, fun p hp => by simp only [Tn.leaves]; exact List.mem_append.2 (.inr (h2 p hp)), fun hf => h3 hf.2⟩
theorem enc_ok (b : Bool) (n : Tn) (ho : ∀ p ∈ n.leaves, NdOk p) (hs : n.sz ≤ 64) : EncFn b n := by
  intro H
  cases n with
  | leaf k v =>
    obtain ⟨h0, h1, h2⟩ := ho (k, v) (by simp [Tn.leaves])
    exact callX_pure (enc_leaf b k v h0 h1 h2) rfl rfl (prim_none (by decide)) H
  | node l r =>
    obtain ⟨v, q, e⟩ := Tn.leaves_head r
    obtain ⟨h0, h1, _⟩ := ho (r.least, v) (by simp only [Tn.leaves]; rw [e]; simp)
    have := Tn.ht_lt (.node l r)
    exact callX_pure (enc_node b l r h0 h1 (by omega)) rfl rfl (prim_none (by decide)) H
def sv1 (m : Mp) (n : Tn) : Mp := if (lkM n.hash m).isSome = true then m else m ++ [(n.hash, n.enc)]
def saveM (l : List Tn) (m : Mp) : Mp := l.foldl sv1 m
def svH (m : Mp) : Heap := [.var 164 (.agg [.mp 1]), .mp (mC m), .var 41 (.c (.arr 32 .u8 (List.replicate 32 0)))]
def svS (t : Option Tn) (l : List Tn) (i : Int) : List AV := [.ov 0 [] 0, .c (tC t), .ov 2 [] 0, .c (.sl 68 (l.map Tn.api)), .c (.int .i64 (l.length : Int)), .c (.int .i64 i)]
/-! CF -/
set_option maxHeartbeats 16000000 in
theorem sv_step (b : Bool) (t : Option Tn) (l : List Tn) (hm : l.length ≤ 100000) (pre rest : List Tn) (n : Tn) (h : l = pre ++ n :: rest) (hf : n.fit) (he : EncFn b n) (m : Mp) :
    loopX 2 (p70_l0 b (callX (cfg b) An) 2) (svS t l (pre.length : Int)) (svH m) = loopX 2 (p70_l0 b (callX (cfg b) An) 2) (svS t l ((pre.length : Int) + 1)) (svH (sv1 m n)) := by
  have hl : pre.length < l.length := by subst h; simp
  have hg : l.getD pre.length (.leaf [] none) = n := by rw [h]; simp [List.getD_eq_getElem?_getD]
  have hn : nthC (l.map Tn.api) pre.length = n.api := by rw [nthC_map (.leaf [] none) hl, hg]
  have hI : (pre.length : Int) < (l.length : Int) := by omega
  have ha := idx_add pre.length (by omega)
  have hc := hash_call b n hf
  have ec := he
  unfold EncFn at ec
  have fe := findE_m (b := b) n.hash m
  have pe := putM_m (b := b) n.hash n.enc m
  have hl32 : (dI n.hash).length = 32 := by rw [len_dI]; exact n.hash_len
  have ko := keyOk41 (b := b) (dI n.hash)
  have s1 := csz_api n
  have s2 := cag_api n
  clear h hg
  unfold sv1
  generalize n.hash = hs at *
  generalize n.enc = en at *
  generalize n.api = ap at *
  generalize pre.length = i at *
  rw [loopX_eq]
  cases hk : lkM hs m with
  | some x =>
    rw [hk] at fe
    simp only [Option.map_some] at fe
    simp only [Option.isSome_some, if_true, svS, svH]
    generalize mC m = M at *
    simp (maxSteps := 1000000) [p70_l0, p70_l0_d0, p70_l0_d1, hl, hI, hn, ha, hc, fe, ko, s1, s2, hl32, frz164, frz41n, frz66]
    exact loopX_gc (by simp) (by simp)
  | none =>
    rw [hk] at fe
    have pe := pe hk
    simp only [Option.map_none] at fe
    simp only [Option.isSome_none, Bool.false_eq_true, if_false, svS, svH]
    generalize mC (m ++ [(hs, en)]) = M2 at *
    generalize mC m = M at *
    simp (maxSteps := 1000000) [p70_l0, p70_l0_d0, p70_l0_d1, hl, hI, hn, ha, hc, fe, pe, ec, ko, s1, s2, hl32, frz164, frz41n, frz66]
    exact loopX_gc (by simp) (by simp)
theorem sv_loop (b : Bool) (t : Option Tn) (l : List Tn) (hm : l.length ≤ 100000) (hf : ∀ n ∈ l, n.fit) (he : ∀ n ∈ l, EncFn b n) : ∀ (rest pre : List Tn) (m : Mp), l = pre ++ rest →
    loopX 2 (p70_l0 b (callX (cfg b) An) 2) (svS t l (pre.length : Int)) (svH m) = some (.exit 0 [.c (tC t), .ov 2 [] 0], svH (saveM rest m))
  | [], pre, m, h => by
    rw [List.append_nil] at h
    rw [loopX_eq, ← h]
    simp only [svS, svH]
    simp [p70_l0, saveM]
  | n :: rest, pre, m, h => by
    have hn : n ∈ l := by subst h; simp
    rw [sv_step b t l hm pre rest n h (hf n hn) (he n hn) m]
    have ih := sv_loop b t l hm hf he rest (pre ++ [n]) (sv1 m n) (by rw [h]; simp)
    have e : (((pre ++ [n]).length : Nat) : Int) = (pre.length : Int) + 1 := by simp
    rw [e] at ih
    rw [ih]
    rfl
def Tn.nodesO : Option Tn → List Tn
  | none => []
  | some t => t.nodesL
structure TrOk (b : Bool) (t : Option Tn) : Prop where
  fit : ∀ u, t = some u → u.fit
  sz : Tn.szo t ≤ 64
  ok : ∀ p ∈ Tn.leaveso t, NdOk p
theorem TrOk.encs {b : Bool} {t : Option Tn} (h : TrOk b t) : ∀ n ∈ Tn.nodesO t, n.fit ∧ EncFn b n := by
  intro n hn
  cases t with
  | none => simp [Tn.nodesO] at hn
  | some t =>
    obtain ⟨h1, h2, h3⟩ := nodesL_facts t n hn
    have hs := h.sz
    simp only [Tn.szo] at hs
    exact ⟨h3 (h.fit t rfl), enc_ok b n (fun p hp => h.ok p (h2 p hp)) (by omega)⟩
set_option maxHeartbeats 4000000 in
theorem save_fn (b : Bool) (t : Option Tn) (h : TrOk b t) (m : Mp) : fnX (cfg b) An 70 [.ov 0 [] 0, .c (tC t)] (baH m) = some (.tup [.c (.arr 32 .u8 (dI (Tn.hasho t))), .c (.int .i64 0)], baH (saveM (Tn.nodesO t) m)) := by
  rw [fnX_eq, p70_eq]
  have nc : ∀ H, callX (cfg b) An 66 [.c (tC t)] H = some (.c (Tn.apiso t), H) := callX_pure (Nodes_fn b t h.fit (by have := h.sz; omega)) rfl rfl (prim_none (by decide))
  have rc := Root_call b t
  have hT : ptrEq (.c (tC t)) (.c .nilp) = some false := rfl
  have hl : (dI (Tn.hasho t)).length = 32 := by rw [len_dI]; cases t with
    | none => exact shaW_len _
    | some t => exact t.hash_len
  cases t with
  | none =>
    have lp : loopX 2 (p70_l0 b (callX (cfg b) An) 2) [.ov 0 [] 0, .c (tC none), .ov 2 [] 0, .c .nilsl, .c (.int .i64 0), .c (.int .i64 0)] (svH m) = some (.exit 0 [.c (tC none), .ov 2 [] 0], svH m) := by
      rw [loopX_eq]
      simp only [svH]
      simp [p70_l0]
    simp only [Tn.apiso] at nc
    generalize Tn.hasho none = R at *
    simp only [baH, svH, Tn.nodesO, saveM, List.foldl_nil, List.reduceReplicate] at lp ⊢
    generalize mC m = M at *
    simp [p70, be107, be28, hT, nc, lp, rc, hl, frz164, frz41n]
  | some t =>
    have hsz := h.sz
    simp only [Tn.szo] at hsz
    have hlen := t.nodesL_len
    have lp := sv_loop b (some t) t.nodesL (by omega) (fun n hn => (h.encs n hn).1) (fun n hn => (h.encs n hn).2) t.nodesL [] m rfl
    have z0 : ((([] : List Tn).length : Nat) : Int) = 0 := rfl
    rw [z0] at lp
    simp only [Tn.apiso, Tn.apis] at nc
    have hL : (t.nodesL.map Tn.api).length = t.nodesL.length := by simp
    generalize Tn.hasho (some t) = R at *
    simp only [baH, svH, svS, Tn.nodesO, List.reduceReplicate] at lp ⊢
    generalize t.nodesL.length = N at *
    generalize t.nodesL.map Tn.api = AP at *
    generalize mC (saveM t.nodesL m) = M2 at *
    generalize mC m = M at *
    simp [p70, be107, be28, hT, nc, hL, lp, rc, hl, frz164, frz41n]
end Go.Fm


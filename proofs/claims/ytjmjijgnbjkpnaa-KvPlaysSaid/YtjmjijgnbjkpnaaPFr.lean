/-
  A part of the proof: PFr.
-/
import Derived.Test.YtjmjijgnbjkpnaaDFr
import Derived.Test.YtjmjijgnbjkpnaaPKvo
set_option linter.all false
set_option autoImplicit true
/-
  List: what it hands out lies fresh.
-/
set_option autoImplicit false
set_option maxRecDepth 100000
set_option linter.unusedVariables false
set_option linter.unusedSimpArgs false
namespace Go.Fm
open Go Go.Proofs
theorem csz_frs {es : List CV} : CV.size (.frs es) = 1 := (rfl)
theorem cag_frs {es : List CV} : CV.isAgg (.frs es) = false := (rfl)
attribute [simp] csz_frs cag_frs
def pF : Option (List UInt8) → CV
  | none => .nilsl
  | some bs => .frs (bytesAV bs)
theorem csz_pF (v : Option (List UInt8)) : CV.size (pF v) = 1 := by cases v <;> rfl
theorem cag_pF (v : Option (List UInt8)) : CV.isAgg (pF v) = false := by cases v <;> rfl
attribute [simp] csz_pF cag_pF
section
variable {lit : Bool} {x y : AV} {H : Heap} {vs : List AV}
theorem eqgF45 : cfgF.P.eqGuardType cfgF.P.depth 45 = false := by kernel_rfl
theorem aeqF45 : aeq cfgF.P 12 45 x y = ptrEq x y := aeq_ptr (e := 82) (by kernel_rfl)
theorem bF45 (h : isIS x y = false) : mBin cfgF 45 lit .eql x y H = eqH H false (ptrEq x y) := by rw [mBin_eqg eqgF45 h, aeqF45]
theorem primF {f : FuncId} (h : f ≠ 35) : cfgF.prim f = none := by simp [cfgF, h]
theorem primF35 : cfgF.prim 35 = some cloneF := rfl
theorem fF59 : cfgF.frz 59 = false := rfl
end
theorem cloneF_v (v : Option (List UInt8)) (hv : (pB v).length ≤ 140737488355328) (H : Heap) : callX cfgF An0 35 [.c (pV v)] H = some (.c (pF v), H) := by
  rw [callX_prim primF35, handCs_c _ _ _ rfl]
  cases v with
  | none => rfl
  | some bs =>
    simp only [pV, pF, cloneF, bytesC_av]
    rw [if_pos (by simpa [pB] using hv)]
theorem cloneF_sl (k : List UInt8) (hv : k.length ≤ 140737488355328) (H : Heap) : callX cfgF An0 35 [.c (.sl 1 (bytesAV k))] H = some (.c (.frs (bytesAV k)), H) := cloneF_v (some k) hv H
def pairF (p : Pr) : CV := .agg [.frs (bytesAV p.1), pF p.2]
theorem equalF (H : Heap) : callX cfgF An0 48 [.c (.sl 1 []), .c .nilsl] H = some (.c (.bool true), H) := by
  refine callX_pure ?_ rfl rfl (primF (by decide)) H
  rw [fnX_eq, f48_eq true]
  have e0 : bytesC [] = some [] := rfl
  simp [f48, BA_toList, e0]
theorem hasPreF (k : List UInt8) (H : Heap) : callX cfgF An0 39 [.c (.sl 1 (bytesAV k)), .c .nilsl] H = some (.c (.bool true), H) := by
  refine callX_pure ?_ rfl rfl (primF (by decide)) H
  rw [fnX_eq, f39_eq true]
  have sl := fun H => slice_pV 0 (some k) (by omega) H
  have e1 : pV (some k) = .sl 1 (bytesAV k) := rfl
  have e2 : pV (upto 0 (some k)) = .sl 1 [] := rfl
  rw [e1, e2, show ((0 : Nat) : Int) = 0 from rfl] at sl
  have ec := equalF
  simp [f39, sl, ec]
def lfA : List Pr → AV
  | [] => .c .nilsl
  | _ => .os 0
def lfH : List Pr → Heap
  | [] => []
  | l => [.row 59 2 (l.map pairF)]
def lfS (l : List Pr) (acc : List Pr) (i : Int) : List AV := [.c .nilsl, lfA acc, .c (.sl 2 (l.map prC)), .c (.int .i64 (l.length : Int)), .c (.int .i64 i)]
/-! CF -/
set_option maxHeartbeats 4000000 in
theorem lf_step (l : List Pr) (hm : l.length ≤ 1000000) (hok : ∀ p ∈ l, PrOk p) (p : Pr) (rest pre : List Pr) (h : l = pre ++ p :: rest) :
    loopX 0 (f23_l0 true (callX cfgF An0) 0) (lfS l pre (pre.length : Int)) (lfH pre) = loopX 0 (f23_l0 true (callX cfgF An0) 0) (lfS l (pre ++ [p]) ((pre.length + 1 : Nat) : Int)) (lfH (pre ++ [p])) := by
  have hl : pre.length < l.length := by subst h; simp
  have hpo := hok p (by subst h; simp)
  have hg : l.getD pre.length default = p := by rw [h]; exact getD_app pre rest p
  have hn : nthC (l.map prC) pre.length = prC p := by rw [nthC_map default hl, hg]
  have hI : (pre.length : Int) < (l.length : Int) := by omega
  have e1 : iAdd .i64 (pre.length : Int) 1 = ((pre.length + 1 : Nat) : Int) := by unfold iAdd; rw [i64_small (by omega) (by omega)]; omega
  have hp : prC p = .agg [.sl 1 (bytesAV p.1), pV p.2] := rfl
  have hpf : pairF p = .agg [.frs (bytesAV p.1), pF p.2] := rfl
  have pc := hasPreF p.1
  have k1 := hpo.k
  have k2 := hpo.v
  have c1 := cloneF_sl p.1 (by omega)
  have c2 := cloneF_v p.2 (by omega)
  have m1 : 1 ≤ maxLen := big_max (by decide)
  have hlm : (l.map prC).length = l.length := by simp
  rw [hp] at hn
  clear hg
  rw [loopX_eq]
  generalize hM : l.map prC = M at *
  have hM2 : ∀ acc i, lfS l acc i = [.c .nilsl, lfA acc, .c (.sl 2 M), .c (.int .i64 (l.length : Int)), .c (.int .i64 i)] := fun acc i => by unfold lfS; rw [hM]
  simp only [hM2]
  cases pre with
  | nil =>
    simp only [List.length_nil] at hl hn hI e1
    rw [show ((0 : Nat) : Int) = 0 from rfl] at hI e1
    simp only [lfA, lfH, List.nil_append, List.map_cons, List.map_nil, hpf, List.length_nil]
    rw [show ((0 : Nat) : Int) = 0 from rfl]
    simp [f23_l0, f23_l0_d0, hl, hI, hn, hlm, e1, pc, c1, c2, m1, csz_pV, cag_pV, fF59]
    exact loopX_gc (by simp) (by simp)
  | cons a acc =>
    have m2 : acc.length + 1 + 1 ≤ maxLen := big_max (by simp only [List.length_cons] at hl; omega)
    have m3 : (acc.length + 1 + 1) * 48 ≤ 140737488355328 := by simp only [List.length_cons] at hl; omega
    simp only [lfA, lfH, List.cons_append, List.map_cons, List.map_append, List.map_nil, hpf]
    obtain ⟨n, hn2⟩ : ∃ n, n = (a :: acc).length := ⟨_, rfl⟩
    have hn3 : acc.length + 1 = n := by rw [hn2]; rfl
    rw [← hn2] at hl hn hI e1 ⊢
    simp [f23_l0, f23_l0_d0, hl, hI, hn, hlm, e1, pc, c1, c2, m1, m2, m3, csz_pV, cag_pV, fF59]
    exact loopX_gc (by simp) (by simp)
theorem lf_loop (l : List Pr) (hm : l.length ≤ 1000000) (hok : ∀ p ∈ l, PrOk p) : ∀ (rest pre : List Pr), l = pre ++ rest →
    loopX 0 (f23_l0 true (callX cfgF An0) 0) (lfS l pre (pre.length : Int)) (lfH pre) = some (.exit 0 [lfA l], lfH l)
  | [], pre, h => by
    rw [List.append_nil] at h
    subst h
    rw [loopX_eq]
    cases l with
    | nil => simp [lfS, lfA, lfH, f23_l0]
    | cons a r => simp [lfS, lfA, lfH, f23_l0]
  | p :: rest, pre, h => by
    rw [lf_step l hm hok p rest pre h]
    have ih := lf_loop l hm hok rest (pre ++ [p]) (by simp [h])
    rw [List.length_append, List.length_singleton] at ih
    exact ih
/-- A store, read as a content. -/
def stC : List Pr → CV
  | [] => .ptr (.agg [.nilsl]) [] 0
  | l => .ptr (.agg [.sl 2 (l.map prC)]) [] 0
def lsF : List Pr → CV
  | [] => .nilsl
  | l => .sl 2 (l.map pairF)
theorem ListF (l : List Pr) (hm : l.length ≤ 1000000) (hok : ∀ p ∈ l, PrOk p) : fnX cfgF An0 23 [.c (stC l), .c .nilsl] [] = some (.c (lsF l), []) := by
  rw [fnX_eq, f23_eq true]
  cases l with
  | nil =>
    have lp : loopX 0 (f23_l0 true (callX cfgF An0) 0) [.c .nilsl, .c .nilsl, .c .nilsl, .c (.int .i64 0), .c (.int .i64 0)] [] = some (.exit 0 [.c .nilsl], []) := by
      rw [loopX_eq]
      simp [f23_l0]
    simp [f23, stC, lsF, bF45, lp]
  | cons a r =>
    have lp := lf_loop (a :: r) hm hok (a :: r) [] rfl
    simp only [lfS, lfA, lfH, List.length_nil] at lp
    rw [show ((0 : Nat) : Int) = 0 from rfl] at lp
    have hlm : ((a :: r).map prC).length = (a :: r).length := by simp
    have hs : stC (a :: r) = .ptr (.agg [.sl 2 ((a :: r).map prC)]) [] 0 := rfl
    have hf : lsF (a :: r) = .sl 2 ((a :: r).map pairF) := rfl
    rw [hs, hf]
    generalize (a :: r).map prC = M at *
    generalize (a :: r).map pairF = F at *
    generalize (a :: r).length = n at *
    simp [f23, bF45, hlm, lp]
end Go.Fm

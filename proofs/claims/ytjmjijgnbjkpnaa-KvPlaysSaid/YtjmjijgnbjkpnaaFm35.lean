/-
  A part of the proof: Fm35.
-/
import Derived.Test.YtjmjijgnbjkpnaaFm34
set_option linter.all false
set_option autoImplicit true
/-
  Code once more, its rest handed on: loops keep what they need alone, calls see what they reach alone. (Definitions.)
-/
set_option linter.unusedSimpArgs false
set_option linter.unusedVariables false
namespace Go.Fm
open Go
/-! ### Limits -/
noncomputable def lim {β : Type} (F : Nat → Option β) : Option β :=
  open Classical in if h : ∃ r, ∃ n, ∀ m, n ≤ m → F m = some r then some (Classical.choose h) else none
theorem lim_eq {β : Type} {F : Nat → Option β} {r : β} : lim F = some r ↔ ∃ n, ∀ m, n ≤ m → F m = some r := by
  unfold lim
  constructor
  · intro h
    split at h
    · rename_i hx
      obtain ⟨n, hn⟩ := Classical.choose_spec hx
      simp only [Option.some.injEq] at h
      rw [h] at hn
      exact ⟨n, hn⟩
    · simp at h
  · rintro ⟨n, hn⟩
    have hx : ∃ r, ∃ n, ∀ m, n ≤ m → F m = some r := ⟨r, n, hn⟩
    rw [dif_pos hx]
    obtain ⟨n', hn'⟩ := Classical.choose_spec hx
    have := hn' (n + n') (by omega)
    rw [hn (n + n') (by omega)] at this
    exact this.symm
/-! ### Slots -/
def projL : List Tmp → Env → Option (List AV)
  | [], _ => some []
  | t :: ts, e => match e[t]? with
    | some v => match projL ts e with
      | some vs => some (v :: vs)
      | none => none
    | none => none
def un {α : Type} (vs : List AV) (k : AV → List AV → Option α) : Option α := match vs with
  | v :: vs => k v vs
  | [] => none
def un0 {α : Type} (vs : List AV) (r : Option α) : Option α := match vs with
  | [] => r
  | _ :: _ => none
def setK {α : Type} : List Tmp → List AV → Env → (Env → Option α) → Option α
  | [], vs, e, k => un0 vs (k e)
  | t :: ts, vs, e, k => un vs fun v vs => setK ts vs (e.set t v) k
/-- The slots, one by one (so that no change stands open). -/
noncomputable def forceE {α : Type} (e : Env) : (Env → Option α) → Option α := List.rec (motive := fun _ => (Env → Option α) → Option α) (fun k => k []) (fun x _ ih k => ih fun ys => k (x :: ys)) e
theorem forceE_eq {α : Type} : ∀ (e : Env) (k : Env → Option α), forceE e k = k e
  | [], k => rfl
  | x :: xs, k => forceE_eq xs fun ys => k (x :: ys)
def clearL : List Tmp → Env → Env
  | [], e => e
  | t :: ts, e => clearL ts (e.set t .any)
def dstsOf : List Oper → List Tmp
  | [] => []
  | o :: r => match o.dst with
    | some d => d :: dstsOf r
    | none => dstsOf r
/-- A piece of code that is taken as a whole: it changes nothing that is known but slots. -/
structure Piece where
  ins : List Tmp
  ok : List AV → Heap → Prop
  clob : List Tmp
/-- What is to be kept: into a loop, out of it (by its block); out of a region whose order is drawn. -/
structure Ann where
  lin : Nat → List Tmp
  lout : Nat → List Tmp
  dout : Nat → List Tmp
  pc : Nat → Option Piece
/-- A piece begins with a region, and bears its number. -/
def pieceOf (A : Ann) : Code → Option Piece
  | .region id _ _ => A.pc id
  | _ => none
open Classical in
noncomputable def pieceR {α : Type} (p : Piece) (vs : List AV) (H : Heap) (r : Option α) : Option α := if p.ok vs H then r else none
theorem pieceR_ok {α : Type} {p : Piece} {vs : List AV} {H : Heap} {r : Option α} (h : p.ok vs H) : pieceR p vs H r = r := if_pos h
def pieces (A : Ann) : Code → List (Piece × Code)
  | .seq a b => (match pieceOf A a with
    | some p => [(p, .seq a b)]
    | none => []) ++ (pieces A a ++ pieces A b)
  | .cond _ a b => pieces A a ++ pieces A b
  | .block _ a => pieces A a
  | .loop a => pieces A a
  | _ => []
theorem pieces_none {A : Ann} (h : ∀ id, A.pc id = none) : ∀ c : Code, pieces A c = [] := by
  have hp : ∀ c, pieceOf A c = none := fun c => by cases c <;> simp [pieceOf, h]
  intro c
  induction c <;> simp_all [pieces]
def gcL (k : Nat) (vs : List AV) (H : Heap) : Option (List AV × Heap) :=
  match gcIds k vs H with
  | some ids => some (AV.maps (fun j => ids.idxOf j) vs, selH ids H)
  | none => none
/-! ### Regions -/
def bindE {β γ : Type} (x : Option (β × Heap)) (k : β → Heap → Option γ) : Option γ :=
  match x with
  | some (v, H) => k v H
  | none => none
def stepW (C : Cfg) (cf : CallFn) (all : List Oper) (e : Env) (H : Heap) (o : Oper) : Option (AV × Heap) :=
  match wantedA all e o with
  | some true => astep C cf e H o
  | some false => some (AV.undef, H)
  | none => none
noncomputable def opsK (C : Cfg) (cf : CallFn) (all : List Oper) {α : Type} : List Oper → Env → Heap → (Env → Heap → Option α) → Option α
  | [], e, H, k => k e H
  | o :: r, e, H, k => bindE (stepW C cf all e H o) fun v H' => forceE (putE e o.dst v) fun e' => opsK C cf all r e' H' k
def valsOf (e : Env) (o : Oper) : List AV := o.op.operands.toList.filterMap fun
  | .tmp i => e[i]?
  | _ => none
/-- An operation alone with what it reaches. -/
def drawR (rd : Bool) (vals : List AV) (f : Heap → Option (AV × Heap)) (H : Heap) : Option ((AV × Trail) × Heap) :=
  let rs := vals.flatMap (reachV 24 H)
  let q : Nat → Bool := fun id => !rs.contains id
  let F := killFrom q 0 H
  match f F with
  | none => none
  | some (v, F') =>
    if v.all (own q F) = true ∧ blksAll (own q F) (own q F) 0 F' = true ∧ rs.all (fun id => decide (id < H.length)) = true ∧ (vals.all fun v => v.all fun id => decide (id < H.length)) = true ∧ blksAll (fun id => decide (id < H.length)) (fun _ => true) 0 F = true then
      some ((v, (!rd && rs.any (aliveAt H), rs, H.length, F'.length)), restFrom q 0 H F')
    else none
/-- The kernel waits at a heap that it does not know. -/
noncomputable def holdH {α : Type} (H : Heap) : α → α := List.rec (motive := fun _ => α → α) (fun a => a) (fun _ _ ih a => ih a) H
theorem holdH_eq {α : Type} : ∀ (H : Heap) (a : α), holdH H a = a
  | [], _ => rfl
  | _ :: H, a => holdH_eq H a
/-- A copy: it touches no memory. -/
noncomputable def drawM (v : Option AV) (H : Heap) : Option ((AV × Trail) × Heap) :=
  match v with
  | some v => holdH H (some ((v, (false, [], H.length, H.length)), H))
  | none => none
noncomputable def drawW (C : Cfg) (cf : CallFn) (all : List Oper) (e : Env) (H : Heap) (o : Oper) : Option ((AV × Trail) × Heap) :=
  match wantedA all e o with
  | some true => match moved o with
    | some x => drawM (ev C e o.type x) H
    | none => drawR (readOp C o) (valsOf e o) (fun F => astep C cf e F o) H
  | some false => some ((AV.undef, (false, [], H.length, H.length)), H)
  | none => none
noncomputable def drawK (C : Cfg) (cf : CallFn) (all : List Oper) {α : Type} : List Oper → List Trail → Env → Heap → (Env → Heap → List Trail → Option α) → Option α
  | [], hist, e, H, k => k e H hist
  | o :: r, hist, e, H, k => bindE (drawW C cf all e H o) fun v H' => forceE (putE e o.dst v.1) fun e' => drawK C cf all r (hist ++ [v.2]) e' H' k
/-- In the text's order; if that will not do, with what it lets go let go ahead. -/
def twice (ancs : List Nat) (pass : Heap → Option ((List AV × List Trail) × Heap)) (H : Heap) : Option (List AV × Heap) :=
  match pass H with
  | none => none
  | some ((vs, hist), H') => if clashFree ancs hist = true then some (vs, H') else
    match freezeAll (letGo H H' 0) H with
    | none => none
    | some H0 => match pass H0 with
      | none => none
      | some ((vs, hist), H') => if clashFree ancs hist = true then some (vs, H') else none
noncomputable def drawPass (C : Cfg) (cf : CallFn) (outs : List Tmp) (ops : List Oper) (e : Env) (H : Heap) : Option ((List AV × List Trail) × Heap) :=
  drawK C cf ops ops [] e H fun e' H' hist => match projL outs e' with
    | some vs => some ((vs, hist), H')
    | none => none
/-! ### Loops -/
inductive LStep where
  | cont (s : List AV)
  | exit (id : Nat) (vs : List AV)
  | ret (vs : List AV)
def loopF (k : Nat) (step : List AV → Heap → Option (LStep × Heap)) : Nat → List AV → Heap → Option (LStep × Heap)
  | 0, _, _ => none
  | n + 1, s, H => match gcL k s H with
    | none => none
    | some (s1, H1) => match step s1 H1 with
      | none => none
      | some (.cont s', H') => loopF k step n s' H'
      | some (.exit id vs, H') => some (.exit id vs, H')
      | some (.ret vs, H') => some (.ret vs, H')
noncomputable def loopX (k : Nat) (step : List AV → Heap → Option (LStep × Heap)) (s : List AV) (H : Heap) : Option (LStep × Heap) := lim fun n => loopF k step n s H
noncomputable def execK (C : Cfg) (cf : CallFn) (A : Ann) (k : Nat) : (code : Code) → (α : Type) → Nat → Env → Heap → (Env → Heap → Option α) → (Env → Heap → Option α) → (Nat → Env → Heap → Option α) → Option α
  | .skip, _, _, e, H, kn, _, _ => kn e H
  | .region _ ops false, _, _, e, H, kn, _, _ => opsK C cf ops.toList ops.toList e H kn
  | .region id ops true, _, _, e, H, kn, _, _ => match twice (ancsFrom ops.toList []) (drawPass C cf (A.dout id) ops.toList e) H with
    | none => none
    | some (vs, H') => forceE (clearL (dstsOf ops.toList) e) fun e0 => setK (A.dout id) vs e0 fun e' => forceE e' fun e' => kn e' H'
  | .seq a b, α, i, e, H, kn, kr, ke => match pieceOf A a with
    | some p => match projL p.ins e with
      | some vs => pieceR p vs H (forceE (clearL p.clob e) fun e' => kn e' H)
      | none => none
    | none => execK C cf A k a α i e H (fun e' H' => execK C cf A k b α i e' H' kn kr ke) kr ke
  | .cond c a b, α, i, e, H, kn, kr, ke => match ev C e 4 c with
    | some (.c (.bool t)) => if t = true then execK C cf A k a α i e H kn kr ke else execK C cf A k b α i e H kn kr ke
    | _ => none
  | .block id a, α, _, e, H, kn, kr, ke => execK C cf A k a α id e H kn kr fun id' e' H' => if id' = id then kn e' H' else ke id' e' H'
  | .loop body, α, i, e, H, kn, kr, ke => match projL (A.lin i) e with
    | none => none
    | some s => match loopX k (fun s1 H1 => setK (A.lin i) s1 (List.replicate e.length .any) fun e0 => forceE e0 fun e1 => execK C cf A k body (LStep × Heap) i e1 H1
          (fun e' H' => match projL (A.lin i) e' with
            | some s' => some (.cont s', H')
            | none => none)
          (fun e' H' => match projL (A.lout i) e' with
            | some vs => some (.ret vs, H')
            | none => none)
          (fun id e' H' => match projL (A.lout i) e' with
            | some vs => some (.exit id vs, H')
            | none => none)) s H with
      | none => none
      | some (.cont _, _) => none
      | some (.exit id vs, H') => if id = i then setK (A.lout i) vs (List.replicate e.length .any) fun e0 => forceE e0 fun e' => ke i e' H' else none
      | some (.ret vs, H') => setK (A.lout i) vs (List.replicate e.length .any) fun e0 => forceE e0 fun e' => kr e' H'
  | .exit id, _, _, e, H, _, _, ke => ke id e H
  | .ret, _, _, e, H, _, kr, _ => kr e H
  | _, _, _, _, _, _, _, _ => none
/-! ### Calls -/
def endK (C : Cfg) (f : FuncId) (k : Nat) (rs : List ResultVar) (e : Env) (H : Heap) : Option (AV × Heap) :=
  match resultsOf C e H rs with
  | none => none
  | some vs => match handCs C (C.keepR f) H vs with
    | none => none
    | some (vs', H') => match gcL k [tupOf vs'] H' with
      | some ([v], H'') => some (v, H'')
      | _ => none
/-- A function's body, on a heap of what its arguments reach. -/
noncomputable def runG (C : Cfg) (cf : CallFn) (An : FuncId → Ann) (f : FuncId) (args : List AV) (H : Heap) : Option (AV × Heap) :=
  match C.P.funcs[f]? with
  | none => none
  | some fn => match fn.body with
    | none => none
    | some code => if (fn.name == "runtime.NumGoroutine") = false ∧ ordered code = true then
        forceE (args ++ List.replicate (fn.ntmps - args.length) AV.undef) fun e => execK C cf (An f) H.length code (AV × Heap) 0 e H (endK C f H.length fn.results.toList) (endK C f H.length fn.results.toList) (fun _ _ _ => none)
      else none
/-- A call, by what is known of the function. -/
def viewC (g : List AV → Heap → Option (AV × Heap)) (as : List AV) (H : Heap) : Option (AV × Heap) :=
  match gcIds 0 as H with
  | none => none
  | some ids => match g (AV.maps (fun j => ids.idxOf j) as) (selH ids H) with
    | none => none
    | some (v, F) => some (v.map (outer ids H.length), putBack (outer ids H.length) ids F H)
def callStep (C : Cfg) (g : FuncId → List AV → Heap → Option (AV × Heap)) : CallFn := fun f args H =>
  match handCs C (C.keepA f) H args with
  | none => none
  | some (as, H0) => match C.prim f with
    | some p => p as H0
    | none => viewC (g f) as H0
noncomputable def callG (C : Cfg) (An : FuncId → Ann) : Nat → CallFn
  | 0 => fun _ _ _ => none
  | n + 1 => callStep C (runG C (callG C An n) An)
/-- All that some depth of calls brings about. -/
noncomputable def callX (C : Cfg) (An : FuncId → Ann) : CallFn := fun f args H => lim fun n => callG C An n f args H
noncomputable def fnX (C : Cfg) (An : FuncId → Ann) (f : FuncId) (args : List AV) (H : Heap) : Option (AV × Heap) := runG C (callX C An) An f args H
end Go.Fm

/-
  A part of the proof: Fm41.
-/
import Derived.Test.YtjmjijgnbjkpnaaFm40
set_option linter.all false
set_option autoImplicit true
/-
  Words for running the printed functions.
-/
set_option linter.unusedSimpArgs false
set_option linter.unusedVariables false
namespace Go.Fm
open Go
section
variable {α β γ : Type}
theorem bindE_c {x x' : Option (β × Heap)} {k : β → Heap → Option γ} (h : x = x') : bindE x k = bindE x' k := by rw [h]
theorem bindE_s (v : β) (H : Heap) (k : β → Heap → Option γ) : bindE (some (v, H)) k = k v H := (rfl)
theorem condR_c {x x' : AV} {a b : Option α} (h : x = x') : condR x a b = condR x' a b := by rw [h]
theorem condR_t (a b : Option α) : condR (.c (.bool true)) a b = a := (rfl)
theorem condR_f (a b : Option α) : condR (.c (.bool false)) a b = b := (rfl)
theorem guardR_c {w w' : Option Bool} {x : Option (AV × Heap)} {H : Heap} (h : w = w') : guardR w x H = guardR w' x H := by rw [h]
theorem guardR_t (x : Option (AV × Heap)) (H : Heap) : guardR (some true) x H = x := (rfl)
theorem guardR_f (x : Option (AV × Heap)) (H : Heap) : guardR (some false) x H = some (AV.undef, H) := (rfl)
theorem guardD_c {w w' : Option Bool} {x : Option ((AV × Trail) × Heap)} {H : Heap} (h : w = w') : guardD w x H = guardD w' x H := by rw [h]
theorem guardD_t (x : Option ((AV × Trail) × Heap)) (H : Heap) : guardD (some true) x H = x := (rfl)
theorem guardD_f (x : Option ((AV × Trail) × Heap)) (H : Heap) : guardD (some false) x H = some ((AV.undef, (false, [], H.length, H.length)), H) := (rfl)
theorem wantR_b (w b : Bool) : wantR w (.c (.bool b)) = some (b == w) := (rfl)
theorem wantR_u (w : Bool) : wantR w AV.undef = some false := (rfl)
theorem un_c (v : AV) (vs : List AV) (k : AV → List AV → Option α) : un (v :: vs) k = k v vs := (rfl)
theorem un0_n (r : Option α) : un0 [] r = r := (rfl)
theorem afterL_c {i : Nat} {x x' : Option (LStep × Heap)} {ke : List AV → Heap → Option α} {kr : List AV → Heap → Option α} (h : x = x') : afterL i x ke kr = afterL i x' ke kr := by rw [h]
theorem afterL_e (i : Nat) (vs : List AV) (H : Heap) (ke : List AV → Heap → Option α) (kr : List AV → Heap → Option α) : afterL i (some (.exit i vs, H)) ke kr = ke vs H := by simp [afterL]
theorem afterL_r (i : Nat) (vs : List AV) (H : Heap) (ke : List AV → Heap → Option α) (kr : List AV → Heap → Option α) : afterL i (some (.ret vs, H)) ke kr = kr vs H := (rfl)
theorem afterD_c {x x' : Option (List AV × Heap)} {k : List AV → Heap → Option α} (h : x = x') : afterD x k = afterD x' k := by rw [h]
theorem afterD_s (vs : List AV) (H : Heap) (k : List AV → Heap → Option α) : afterD (some (vs, H)) k = k vs H := (rfl)
/-- An operation alone with what it reaches: the numbers first. -/
def drawQ (rd : Bool) (rs : List Nat) (vals : List AV) (f : Heap → Option (AV × Heap)) (H : Heap) : Option ((AV × Trail) × Heap) :=
  let q : Nat → Bool := fun id => !rs.contains id
  let F := killFrom q 0 H
  match f F with
  | none => none
  | some (v, F') =>
    if v.all (own q F) = true ∧ blksAll (own q F) (own q F) 0 F' = true ∧ rs.all (fun id => decide (id < H.length)) = true ∧ (vals.all fun v => v.all fun id => decide (id < H.length)) = true ∧ blksAll (fun id => decide (id < H.length)) (fun _ => true) 0 F = true then
      some ((v, (!rd && rs.any (aliveAt H), rs, H.length, F'.length)), restFrom q 0 H F')
    else none
theorem drawR_q (rd : Bool) (vals : List AV) (f : Heap → Option (AV × Heap)) (H : Heap) : drawR rd vals f H = drawQ rd (vals.flatMap (reachV 24 H)) vals f H := (rfl)
theorem drawR_c {rd : Bool} {vals : List AV} {f : Heap → Option (AV × Heap)} {H : Heap} : drawR rd vals f H = drawR rd vals f H := (rfl)
theorem drawQ_c {rd : Bool} {rs rs' : List Nat} {vals : List AV} {f : Heap → Option (AV × Heap)} {H : Heap} (h : rs = rs') : drawQ rd rs vals f H = drawQ rd rs' vals f H := by rw [h]
/-- The end of it. -/
def drawE (rd : Bool) (rs : List Nat) (vals : List AV) (H F : Heap) (x : Option (AV × Heap)) : Option ((AV × Trail) × Heap) :=
  match x with
  | none => none
  | some (v, F') =>
    if v.all (own (fun id => !rs.contains id) F) = true ∧ blksAll (own (fun id => !rs.contains id) F) (own (fun id => !rs.contains id) F) 0 F' = true ∧ rs.all (fun id => decide (id < H.length)) = true ∧ (vals.all fun v => v.all fun id => decide (id < H.length)) = true ∧ blksAll (fun id => decide (id < H.length)) (fun _ => true) 0 F = true then
      some ((v, (!rd && rs.any (aliveAt H), rs, H.length, F'.length)), restFrom (fun id => !rs.contains id) 0 H F')
    else none
theorem drawE_c {rd : Bool} {rs : List Nat} {vals : List AV} {H F : Heap} {x x' : Option (AV × Heap)} (h : x = x') : drawE rd rs vals H F x = drawE rd rs vals H F x' := by rw [h]
/-- With nothing reached in an empty heap. -/
theorem drawQ_nil0 (rd : Bool) (vals : List AV) (f : Heap → Option (AV × Heap)) : drawQ rd [] vals f [] = drawE rd [] vals [] [] (f []) := (rfl)
def drawF (rd : Bool) (rs : List Nat) (vals : List AV) (f : Heap → Option (AV × Heap)) (H F : Heap) : Option ((AV × Trail) × Heap) := drawE rd rs vals H F (f F)
theorem drawF_c {rd : Bool} {rs : List Nat} {vals : List AV} {f : Heap → Option (AV × Heap)} {H F F' : Heap} (h : F = F') : drawF rd rs vals f H F = drawF rd rs vals f H F' := by rw [h]
theorem drawQ_f (rd : Bool) (rs : List Nat) (vals : List AV) (f : Heap → Option (AV × Heap)) (H : Heap) : drawQ rd rs vals f H = drawF rd rs vals f H (killFrom (fun id => !rs.contains id) 0 H) := (rfl)
theorem drawF_e (rd : Bool) (rs : List Nat) (vals : List AV) (f : Heap → Option (AV × Heap)) (H : Heap) (F : Heap) : drawF rd rs vals f H F = drawE rd rs vals H F (f F) := (rfl)
theorem drawE_s (rd : Bool) (rs : List Nat) (vals : List AV) (H F : Heap) (v : AV) (F' : Heap) (h : v.all (own (fun id => !rs.contains id) F) = true ∧ blksAll (own (fun id => !rs.contains id) F) (own (fun id => !rs.contains id) F) 0 F' = true ∧ rs.all (fun id => decide (id < H.length)) = true ∧ (vals.all fun v => v.all fun id => decide (id < H.length)) = true ∧ blksAll (fun id => decide (id < H.length)) (fun _ => true) 0 F = true) :
    drawE rd rs vals H F (some (v, F')) = some ((v, (!rd && rs.any (aliveAt H), rs, H.length, F'.length)), restFrom (fun id => !rs.contains id) 0 H F') := by
  unfold drawE; exact if_pos h
def twiceE (ancs : List Nat) (pass : Heap → Option ((List AV × List Trail) × Heap)) (H : Heap) (x : Option ((List AV × List Trail) × Heap)) : Option (List AV × Heap) :=
  match x with
  | none => none
  | some ((vs, hist), H') => if clashFree ancs hist = true then some (vs, H') else
    match freezeAll (letGo H H' 0) H with
    | none => none
    | some H0 => match pass H0 with
      | none => none
      | some ((vs, hist), H') => if clashFree ancs hist = true then some (vs, H') else none
theorem twice_e (ancs : List Nat) (pass : Heap → Option ((List AV × List Trail) × Heap)) (H : Heap) : twice ancs pass H = twiceE ancs pass H (pass H) := (rfl)
theorem twice_c {ancs : List Nat} {pass : Heap → Option ((List AV × List Trail) × Heap)} {H : Heap} : twice ancs pass H = twice ancs pass H := (rfl)
theorem twiceE_c {ancs : List Nat} {pass : Heap → Option ((List AV × List Trail) × Heap)} {H : Heap} {x x' : Option ((List AV × List Trail) × Heap)} (h : x = x') : twiceE ancs pass H x = twiceE ancs pass H x' := by rw [h]
theorem twiceE_s (ancs : List Nat) (pass : Heap → Option ((List AV × List Trail) × Heap)) (H : Heap) (vs : List AV) (hist : List Trail) (H' : Heap) (h : clashFree ancs hist = true) : twiceE ancs pass H (some ((vs, hist), H')) = some (vs, H') := by unfold twiceE; exact if_pos h
theorem ev1R_c (v : CV) : ev1R (some (.c v)) = some (.c v) := (rfl)
theorem ev1R_ov (i : Nat) (p : List Nat) (o : Nat) : ev1R (some (.ov i p o)) = some (.ov i p o) := (rfl)
theorem ev1R_os (i : Nat) : ev1R (some (.os i)) = some (.os i) := (rfl)
theorem ev1R_oe (i j : Nat) (p : List Nat) (o : Nat) : ev1R (some (.oe i j p o)) = some (.oe i j p o) := (rfl)
theorem ev1R_agg (l : List AV) : ev1R (some (.agg l)) = some (.agg l) := (rfl)
theorem ev1R_fn (f : FuncId) (l : List AV) : ev1R (some (.fn f l)) = some (.fn f l) := (rfl)
theorem ev1R_mp (i : Nat) : ev1R (some (.mp i)) = some (.mp i) := (rfl)
end
attribute [congr] bindE_c condR_c guardR_c guardD_c afterL_c afterD_c drawR_c drawQ_c drawF_c drawE_c twice_c twiceE_c
end Go.Fm

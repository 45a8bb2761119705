/-
  A part of the proof: Fm46.
-/
import Derived.Test.YtjmjijgnbjkpnaaFm45
set_option linter.all false
set_option autoImplicit true
/-
  Words for simp: a drawn region's second pass.
-/
set_option linter.unusedSimpArgs false
set_option linter.unusedVariables false
namespace Go.Fm
open Go
def twG (ancs : List Nat) : Option ((List AV × List Trail) × Heap) → Option (List AV × Heap)
  | some ((vs, hist), H') => if clashFree ancs hist = true then some (vs, H') else none
  | none => none
def twF (ancs : List Nat) (pass : Heap → Option ((List AV × List Trail) × Heap)) : Option Heap → Option (List AV × Heap)
  | some H0 => twG ancs (pass H0)
  | none => none
section
variable {ancs : List Nat} {pass : Heap → Option ((List AV × List Trail) × Heap)} {H H' H0 : Heap} {vs : List AV} {hist : List Trail}
theorem twiceE_f (h : clashFree ancs hist = false) : twiceE ancs pass H (some ((vs, hist), H')) = twF ancs pass (freezeAll (letGo H H' 0) H) := by
  unfold twiceE
  simp only [h, Bool.false_eq_true, if_false]
  cases freezeAll (letGo H H' 0) H with
  | none => rfl
  | some H0 =>
    simp only [twF]
    cases pass H0 with
    | none => rfl
    | some x => rfl
theorem twF_s : twF ancs pass (some H0) = twG ancs (pass H0) := (rfl)
theorem twG_s (h : clashFree ancs hist = true) : twG ancs (some ((vs, hist), H')) = some (vs, H') := by unfold twG; exact if_pos h
theorem twF_c {x x' : Option Heap} (h : x = x') : twF ancs pass x = twF ancs pass x' := by rw [h]
end
attribute [congr] twF_c
attribute [simp] twiceE_f twG_s
attribute [simp ↓] twF_s
section
variable {b c : Blk} {H F : Heap} {id i n : Nat} {t u : TypeId} {v : CV} {a : AV} {es fs : List CV} {l : List (Bool × Nat)}
def lgk : Blk → Blk → Option Bool
  | .row .., .frow .. => some true
  | .var .., .fvar .. => some false
  | _, _ => none
def lgc (id : Nat) (l : List (Bool × Nat)) : Option Bool → List (Bool × Nat)
  | some b => (b, id) :: l
  | none => l
theorem letGo_nil : letGo [] F id = [] := by cases F <;> rfl
theorem letGo_cons : letGo (b :: H) (c :: F) id = lgc id (letGo H F (id + 1)) (lgk b c) := by cases b <;> cases c <;> rfl
theorem lgc_s {x : Bool} : lgc id l (some x) = (x, id) :: l := (rfl)
theorem lgc_n : lgc id l none = l := (rfl)
def frz1 (l : List (Bool × Nat)) : Option (CV × Heap) → Option Heap
  | some (_, H) => freezeAll l H
  | none => none
theorem freezeAll_nil : freezeAll [] H = some H := (rfl)
theorem freezeAll_t : freezeAll ((true, id) :: l) H = frz1 l (toC 8 H (.os id)) := by
  simp only [freezeAll, if_true]
  cases toC 8 H (.os id) <;> rfl
theorem freezeAll_f : freezeAll ((false, id) :: l) H = frz1 l (toC 8 H (.ov id [] 0)) := by
  simp only [freezeAll, Bool.false_eq_true, if_false]
  cases toC 8 H (.ov id [] 0) <;> rfl
theorem frz1_s : frz1 l (some (v, H)) = freezeAll l H := (rfl)
end
attribute [simp] letGo_nil letGo_cons lgc_s lgc_n freezeAll_nil freezeAll_t freezeAll_f frz1_s lgk
/-! ### Maps -/
section
variable {C : Cfg} {kt : TypeId} {z kv cv : CV} {ok : Bool} {H : Heap} {i : Nat} {v : AV} {es : List (CV × CV)}
theorem mMakeMap_e : mMakeMap H = some (.mp H.length, H ++ [.mp []]) := (rfl)
def lkB (C : Cfg) (kt : TypeId) (z : CV) (ok : Bool) (kv : CV) (H : Heap) : Option Blk → Option (AV × Heap)
  | some (.mp es) => if keyOk C.P kt kv = true then foundA z ok H (findE C.P kt kv es) else none
  | _ => none
theorem mLookup_mp : mLookup C kt z ok (.mp i) (.c kv) H = lkB C kt z ok kv H H[i]? := by
  simp only [mLookup, alookupK, entsOf]
  cases H[i]? with
  | none => rfl
  | some b => cases b <;> rfl
theorem lkB_s : lkB C kt z ok kv H (some (.mp es)) = if keyOk C.P kt kv = true then foundA z ok H (findE C.P kt kv es) else none := (rfl)
theorem foundA_t : foundA z true H (some (some cv)) = some (.tup [.c cv, .c (.bool true)], H) := (rfl)
theorem foundA_tn : foundA z true H (some none) = some (.tup [.c z, .c (.bool false)], H) := (rfl)
theorem foundA_f : foundA z false H (some (some cv)) = some (.c cv, H) := (rfl)
theorem foundA_fn : foundA z false H (some none) = some (.c z, H) := (rfl)
def muB (C : Cfg) (kt : TypeId) (kv cv : CV) (i : Nat) (H : Heap) : Option Blk → Option (AV × Heap)
  | some (.mp es) => if keyOk C.P kt kv = true then putA i H (putM C.P kt kv cv es) else none
  | _ => none
def muC (C : Cfg) (kt : TypeId) (kv : CV) (i : Nat) : Option (CV × Heap) → Option (AV × Heap)
  | some (cv, H) => muB C kt kv cv i H H[i]?
  | none => none
def muV (C : Cfg) (kt : TypeId) (kv : CV) (i : Nat) (H : Heap) : Option AV → Option (AV × Heap)
  | some v => muC C kt kv i (toC 4 H v)
  | none => none
theorem mMapUpd_mp : mMapUpd C kt (.mp i) (.c kv) v H = muV C kt kv i H (ev1R (some v)) := by
  simp only [mMapUpd]
  cases ev1R (some v) with
  | none => rfl
  | some v =>
    simp only [muV, amapUpdateK]
    cases toC 4 H v with
    | none => rfl
    | some x =>
      obtain ⟨c, H'⟩ := x
      simp only [muC]
      cases H'[i]? with
      | none => rfl
      | some b => cases b <;> rfl
theorem muV_s : muV C kt kv i H (some v) = muC C kt kv i (toC 4 H v) := (rfl)
theorem muC_s : muC C kt kv i (some (cv, H)) = muB C kt kv cv i H H[i]? := (rfl)
theorem muB_s : muB C kt kv cv i H (some (.mp es)) = if keyOk C.P kt kv = true then putA i H (putM C.P kt kv cv es) else none := (rfl)
theorem putA_s : putA i H (some es) = some (AV.undef, H.set i (.mp es)) := (rfl)
def lmB (H : Heap) : Option Blk → Option (AV × Heap)
  | some (.mp es) => some (.c (.int .i64 es.length), H)
  | _ => none
theorem mLenMp_mp : mLenMp (.mp i) H = lmB H H[i]? := by
  simp only [mLenMp]
  cases H[i]? with
  | none => rfl
  | some b => cases b <;> rfl
theorem lmB_s : lmB H (some (.mp es)) = some (.c (.int .i64 es.length), H) := (rfl)
theorem mBox_mp {t : TypeId} : mBox t (.mp i) H = some (.ov H.length [] 0, H ++ [.var t (.mp i)]) := (rfl)
end
attribute [simp] mMakeMap_e mLookup_mp lkB_s foundA_t foundA_tn foundA_f foundA_fn mMapUpd_mp muV_s muC_s muB_s putA_s mLenMp_mp lmB_s mBox_mp
end Go.Fm

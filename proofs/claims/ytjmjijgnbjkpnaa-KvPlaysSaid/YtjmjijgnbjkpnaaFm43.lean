/-
  A part of the proof: Fm43.
-/
import Derived.Test.YtjmjijgnbjkpnaaFm42
set_option linter.all false
set_option autoImplicit true
/-
  The words for simp: every step looks at what is there alone.
-/
set_option linter.unusedSimpArgs false
set_option linter.unusedVariables false
namespace Go.Fm
open Go
/-- An element, by its place. -/
def nthC (es : List CV) (i : Nat) : CV := es.getD i .nilp
def nthI (ns : List Int) (i : Nat) : Int := ns.getD i 0
section
variable {C : Cfg} {H : Heap} {k k' : IntKind} {x y v : CV} {a b : AV} {i j n m o off f sz bytes len : Nat} {t e u : TypeId} {A : Bool} {p path : List Nat} {l as : List AV} {es xs fs : List CV} {ns : List Int} {g : FuncId}
/-! ### Ways into a value -/
def getCo : Option CV → List Nat → Option CV
  | some f, p => getC f p
  | none, _ => none
theorem getC_nil : getC v [] = some v := by cases v <;> rfl
theorem getC_agg : getC (.agg fs) (i :: p) = getCo fs[i]? p := by simp only [getC]; cases fs[i]? <;> rfl
theorem getCo_s : getCo (some v) p = getC v p := (rfl)
theorem getC_arr : getC (.arr n k ns) [i] = if i < ns.length then some (.int k (nthI ns i)) else none := (rfl)
def addo (n : Nat) : Option Nat → Option Nat
  | some m => some (n + m)
  | none => none
theorem addo_s : addo n (some m) = some (n + m) := (rfl)
def offCo : Option CV → List Nat → List CV → Nat → Option Nat
  | some f, p, fs, i => addo (CV.sizes (fs.take i)) (offC f p)
  | none, _, _, _ => none
theorem offC_nil : offC v [] = some 0 := by cases v <;> rfl
theorem offC_agg : offC (.agg fs) (i :: p) = offCo fs[i]? p fs i := by
  simp only [offC]
  cases fs[i]? with
  | none => rfl
  | some f => simp only [offCo]; cases offC f p <;> rfl
theorem offCo_s : offCo (some v) p fs i = addo (CV.sizes (fs.take i)) (offC v p) := (rfl)
theorem offC_arr : offC (.arr n k ns) [i] = if i < ns.length then some i else none := (rfl)
def getAo : Option AV → List Nat → Option AV
  | some f, p => getA f p
  | none, _ => none
def mapc : Option CV → Option AV
  | some v => some (.c v)
  | none => none
theorem mapc_s : mapc (some v) = some (.c v) := (rfl)
theorem getA_cc : getA (.c v) p = mapc (getC v p) := by cases p <;> simp only [getA] <;> cases getC v _ <;> rfl
theorem getA_nil : getA a [] = some a := by cases a <;> first | rfl | (simp only [getA, getC_nil]; rfl)
theorem getA_agg : getA (.agg l) (i :: p) = getAo l[i]? p := by simp only [getA]; cases l[i]? <;> rfl
theorem getAo_s : getAo (some a) p = getA a p := (rfl)
def offAo : Option AV → List Nat → List AV → Nat → Option Nat
  | some f, p, l, i => addo (AV.sizes (l.take i)) (offA f p)
  | none, _, _, _ => none
theorem offA_cc : offA (.c v) p = offC v p := by cases p <;> rfl
theorem offA_nil : offA a [] = some 0 := by cases a <;> first | rfl | (simp only [offA, offC_nil])
theorem offA_agg : offA (.agg l) (i :: p) = offAo l[i]? p l i := by
  simp only [offA]
  cases l[i]? with
  | none => rfl
  | some f => simp only [offAo]; cases offA f p <;> rfl
theorem offAo_s : offAo (some a) p l i = addo (AV.sizes (l.take i)) (offA a p) := (rfl)
/-! ### Aggregates -/
def mkAggO (l : List AV) : Option (List CV) → AV
  | some vs => .c (.agg vs)
  | none => .agg l
theorem mkAgg_o : mkAgg l = mkAggO l (allC l) := by unfold mkAgg; cases allC l <;> rfl
theorem mkAggO_s : mkAggO l (some fs) = .c (.agg fs) := (rfl)
theorem mkAggO_n : mkAggO l none = .agg l := (rfl)
def consO (v : CV) : Option (List CV) → Option (List CV)
  | some vs => some (v :: vs)
  | none => none
theorem consO_s : consO v (some fs) = some (v :: fs) := (rfl)
theorem consO_n : consO v none = none := (rfl)
theorem allC_nil : allC [] = some [] := (rfl)
theorem allC_c : allC (.c v :: l) = consO v (allC l) := by simp only [allC]; cases allC l <;> rfl
theorem allC_ov {q : List Nat} : allC (.ov i q o :: l) = none := (rfl)
theorem allC_os : allC (.os i :: l) = none := (rfl)
theorem allC_oe {q : List Nat} : allC (.oe i j q o :: l) = none := (rfl)
theorem allC_mp : allC (.mp i :: l) = none := (rfl)
theorem allC_fn : allC (.fn g as :: l) = none := (rfl)
theorem allC_agg : allC (.agg as :: l) = none := (rfl)
theorem allC_map : allC (fs.map AV.c) = some fs := by
  induction fs with
  | nil => rfl
  | cons v fs ih => rw [List.map_cons, allC_c, ih]; rfl
def setAo (p : List Nat) (x : AV) (l : List AV) (i : Nat) : Option AV → Option AV
  | some f => (setA p f x).map fun y => mkAgg (l.set i y)
  | none => none
def setAm (l : List AV) (i : Nat) : Option AV → Option AV
  | some y => some (mkAgg (l.set i y))
  | none => none
theorem setAm_s : setAm l i (some a) = some (mkAgg (l.set i a)) := (rfl)
theorem setA_nil : setA [] a b = some b := by cases a <;> cases b <;> rfl
theorem setA_agg : setA (i :: p) (.agg l) b = setAo p b l i l[i]? := by
  simp only [setA]
  cases l[i]? <;> rfl
theorem setA_cagg : setA (i :: p) (.c (.agg fs)) b = setAo p b (fs.map .c) i (mapc fs[i]?) := by
  simp only [setA]
  cases fs[i]? <;> rfl
theorem setAo_s {x : AV} : setAo p x l i (some a) = setAm l i (setA p a x) := by simp only [setAo]; cases setA p a x <;> rfl
theorem setA_arr {c : Int} : setA [i] (.c (.arr n k ns)) (.c (.int k' c)) = if k' = k ∧ i < ns.length then some (.c (.arr n k (ns.set i c))) else none := (rfl)
def setNthO (l : List AV) (i : Nat) (v : AV) (r : List (Nat × AV)) : Option AV → Option (List AV)
  | some old => if old.size = v.size then setNth (l.set i v) r else none
  | none => none
theorem setNth_nil : setNth l [] = some l := (rfl)
theorem setNth_cons {r : List (Nat × AV)} : setNth l ((i, a) :: r) = setNthO l i a r l[i]? := by simp only [setNth]; cases l[i]? <;> rfl
theorem setNthO_s {r : List (Nat × AV)} : setNthO l i a r (some b) = if b.size = a.size then setNth (l.set i a) r else none := (rfl)
theorem setInts_nil : setInts k ns [] = some ns := (rfl)
theorem setInts_cons {c : Int} {r : List (Nat × AV)} : setInts k ns ((i, .c (.int k' c)) :: r) = if k' = k ∧ i < ns.length then setInts k (ns.set i c) r else none := (rfl)
/-! ### What is told of parts -/
def consP (x : Nat × AV) : Option (List (Nat × AV)) → Option (List (Nat × AV))
  | some r => some (x :: r)
  | none => none
theorem consP_s {x : Nat × AV} {r : List (Nat × AV)} : consP x (some r) = some (x :: r) := (rfl)
theorem partsR_nil : partsR [] = some [] := (rfl)
theorem partsR_c {r : List (Nat × AV)} : partsR ((i, .c v) :: r) = consP (i, .c v) (partsR r) := by simp only [partsR, ev1R]; cases partsR r <;> rfl
theorem partsR_ov {r : List (Nat × AV)} : partsR ((i, .ov j p o) :: r) = consP (i, .ov j p o) (partsR r) := by simp only [partsR, ev1R]; cases partsR r <;> rfl
theorem partsR_os {r : List (Nat × AV)} : partsR ((i, .os j) :: r) = consP (i, .os j) (partsR r) := by simp only [partsR, ev1R]; cases partsR r <;> rfl
theorem partsR_agg {r : List (Nat × AV)} : partsR ((i, .agg l) :: r) = consP (i, .agg l) (partsR r) := by simp only [partsR, ev1R]; cases partsR r <;> rfl
theorem partsR_fn {r : List (Nat × AV)} : partsR ((i, .fn g l) :: r) = consP (i, .fn g l) (partsR r) := by simp only [partsR, ev1R]; cases partsR r <;> rfl
theorem partsR_mp {r : List (Nat × AV)} : partsR ((i, .mp j) :: r) = consP (i, .mp j) (partsR r) := by simp only [partsR, ev1R]; cases partsR r <;> rfl
/-! ### Operations -/
theorem mPick_b {c : Bool} : mPick (.c (.bool c)) a b H = some (if c = true then a else b, H) := (rfl)
theorem mAlloc_e : mAlloc t v H = some (.ov H.length [] 0, H ++ [.var t (.c v)]) := (rfl)
theorem mBox_c : mBox t (.c v) H = some (.ov H.length [] 0, H ++ [.var t (.c v)]) := (rfl)
theorem mBox_ov : mBox t (.ov i p o) H = some (.ov H.length [] 0, H ++ [.var t (.ov i p o)]) := (rfl)
theorem mBox_os : mBox t (.os i) H = some (.ov H.length [] 0, H ++ [.var t (.os i)]) := (rfl)
theorem mBox_agg : mBox t (.agg l) H = some (.ov H.length [] 0, H ++ [.var t (.agg l)]) := (rfl)
theorem mBox_fn : mBox t (.fn g l) H = some (.ov H.length [] 0, H ++ [.var t (.fn g l)]) := (rfl)
def bldS2 (H : Heap) : Option (List AV) → Option (AV × Heap)
  | some l => some (mkAgg l, H)
  | none => none
def bldS (zs : List CV) (H : Heap) : Option (List (Nat × AV)) → Option (AV × Heap)
  | some ps => bldS2 H (setNth (zs.map .c) ps)
  | none => none
theorem bldS2_s : bldS2 H (some l) = some (mkAgg l, H) := (rfl)
theorem bldS_s {zs : List CV} {ps : List (Nat × AV)} : bldS zs H (some ps) = bldS2 H (setNth (zs.map .c) ps) := (rfl)
theorem mBuildS_e {zs : List CV} {ps : List (Nat × AV)} : mBuildS zs ps H = bldS zs H (partsR ps) := by
  unfold mBuildS bldS
  cases partsR ps with
  | none => rfl
  | some r => simp only [bldS2]; cases setNth (zs.map .c) r <;> rfl
def bldA2 (m : Nat) (k : IntKind) (H : Heap) : Option (List Int) → Option (AV × Heap)
  | some l => some (.c (.arr m k l), H)
  | none => none
def bldA (m : Nat) (k : IntKind) (ns : List Int) (H : Heap) : Option (List (Nat × AV)) → Option (AV × Heap)
  | some ps => bldA2 m k H (setInts k ns ps)
  | none => none
theorem bldA2_s : bldA2 m k H (some ns) = some (.c (.arr m k ns), H) := (rfl)
theorem bldA_s {ps : List (Nat × AV)} : bldA m k ns H (some ps) = bldA2 m k H (setInts k ns ps) := (rfl)
theorem mBuildA_e {ps : List (Nat × AV)} : mBuildA m k ns ps H = bldA m k ns H (partsR ps) := by
  unfold mBuildA bldA
  cases partsR ps with
  | none => rfl
  | some r => simp only [bldA2]; cases setInts k ns r <;> rfl
/-- Parts let go. -/
def toCpo (i : Nat) (c : CV) : Option (List (Nat × CV) × Heap) → Option (List (Nat × CV) × Heap)
  | some (r, H) => some ((i, c) :: r, H)
  | none => none
def toCp1 (i : Nat) (r : List (Nat × AV)) : Option (CV × Heap) → Option (List (Nat × CV) × Heap)
  | some (c, H) => toCpo i c (toCparts H r)
  | none => none
theorem toCpo_s {r : List (Nat × CV)} : toCpo i v (some (r, H)) = some ((i, v) :: r, H) := (rfl)
theorem toCp1_s {r : List (Nat × AV)} : toCp1 i r (some (v, H)) = toCpo i v (toCparts H r) := (rfl)
theorem toCparts_nil : toCparts H [] = some ([], H) := (rfl)
theorem toCparts_cons {r : List (Nat × AV)} : toCparts H ((i, a) :: r) = toCp1 i r (toC 6 H a) := by
  simp only [toCparts]
  cases toC 6 H a with
  | none => rfl
  | some x => obtain ⟨c, H'⟩ := x; simp only [toCp1]; cases toCparts H' r <;> rfl
def toCos (id : Nat) (H : Heap) : Option Blk → Option (CV × Heap)
  | some (.row t sz es) => some (.sl sz es, H.set id (.frow t sz es))
  | some (.frow _ sz es) => some (.sl sz es, H)
  | _ => none
def toCov2 (id : Nat) (t : TypeId) (c : CV) (H : Heap) : Option Blk → Option (CV × Heap)
  | some (.var _ _) => some (.ptr c [] 0, H.set id (.fvar t c))
  | _ => none
def toCov1 (id : Nat) (t : TypeId) : Option (CV × Heap) → Option (CV × Heap)
  | some (c, H) => toCov2 id t c H H[id]?
  | none => none
def toCov (d id : Nat) (H : Heap) : Option Blk → Option (CV × Heap)
  | some (.var t v) => toCov1 id t (toC d H v)
  | some (.fvar _ c) => some (.ptr c [] 0, H)
  | _ => none
def toCag : Option (List CV × Heap) → Option (CV × Heap)
  | some (vs, H) => some (.agg vs, H)
  | none => none
theorem toC_c : toC (n + 1) H (.c v) = some (v, H) := (rfl)
theorem toC_os : toC (n + 1) H (.os i) = toCos i H H[i]? := by
  simp only [toC]
  cases H[i]? with
  | none => rfl
  | some b => cases b <;> rfl
theorem toCos_r : toCos i H (some (.row t sz es)) = some (.sl sz es, H.set i (.frow t sz es)) := (rfl)
theorem toCos_f : toCos i H (some (.frow t sz es)) = some (.sl sz es, H) := (rfl)
theorem toC_ov : toC (n + 1) H (.ov i [] 0) = toCov n i H H[i]? := by
  simp only [toC, if_true]
  cases H[i]? with
  | none => rfl
  | some b => cases b with
    | var t v =>
      simp only [toCov]
      cases toC n H v with
      | none => rfl
      | some x =>
        obtain ⟨c, H'⟩ := x
        simp only [toCov1]
        cases H'[i]? with
        | none => rfl
        | some b => cases b <;> rfl
    | _ => rfl
theorem toCov_v : toCov n i H (some (.var t a)) = toCov1 i t (toC n H a) := (rfl)
theorem toCov_f : toCov n i H (some (.fvar t v)) = some (.ptr v [] 0, H) := (rfl)
theorem toCov1_s : toCov1 i t (some (v, H)) = toCov2 i t v H H[i]? := (rfl)
theorem toCov2_s : toCov2 i t v H (some (.var u a)) = some (.ptr v [] 0, H.set i (.fvar t v)) := (rfl)
theorem toC_agg : toC (n + 1) H (.agg l) = toCag (toCsW (toC n) H l) := by
  simp only [toC]
  cases toCsW (toC n) H l <;> rfl
theorem toCag_s : toCag (some (fs, H)) = some (.agg fs, H) := (rfl)
def toCs2 (c : CV) : Option (List CV × Heap) → Option (List CV × Heap)
  | some (cs, H) => some (c :: cs, H)
  | none => none
def toCs1 (n : Nat) (l : List AV) : Option (CV × Heap) → Option (List CV × Heap)
  | some (c, H) => toCs2 c (toCsW (toC n) H l)
  | none => none
theorem toCsW_nil : toCsW (toC n) H [] = some ([], H) := (rfl)
theorem toCsW_cons : toCsW (toC n) H (a :: l) = toCs1 n l (toC n H a) := by
  simp only [toCsW]
  cases toC n H a with
  | none => rfl
  | some x => obtain ⟨c, H'⟩ := x; simp only [toCs1]; cases toCsW (toC n) H' l <;> rfl
theorem toCs1_s : toCs1 n l (some (v, H)) = toCs2 v (toCsW (toC n) H l) := (rfl)
theorem toCs2_s : toCs2 v (some (fs, H)) = some (v :: fs, H) := (rfl)
theorem setCs_nil : setCs sz es [] = some es := (rfl)
theorem setCs_cons {r : List (Nat × CV)} : setCs sz es ((i, v) :: r) = if i < es.length ∧ v.size = sz then setCs sz (es.set i v) r else none := (rfl)
def bslE (e : TypeId) (sz : Nat) (H : Heap) : Option (List CV) → Option (AV × Heap)
  | some es => some (.os H.length, H ++ [.row e sz es])
  | none => none
def bsl1 (e : TypeId) (sz : Nat) (z : CV) (len : Nat) : Option (List (Nat × CV) × Heap) → Option (AV × Heap)
  | some (ps, H') => if len * sz ≤ 16777216 ∧ z.size = sz ∧ sz ≠ 0 then bslE e sz H' (setCs sz (List.replicate len z) ps) else none
  | none => none
def bsl (e : TypeId) (sz : Nat) (z : CV) (len : Nat) (H : Heap) : Option (List (Nat × AV)) → Option (AV × Heap)
  | some ps => bsl1 e sz z len (toCparts H ps)
  | none => none
theorem mBuildSl_e {ps : List (Nat × AV)} : mBuildSl e sz v len ps H = bsl e sz v len H (partsR ps) := by
  unfold mBuildSl bsl
  cases partsR ps with
  | none => rfl
  | some r =>
    simp only [bsl1]
    cases toCparts H r with
    | none => rfl
    | some x =>
      obtain ⟨c, H'⟩ := x
      simp only []
      split
      · cases setCs sz (List.replicate len v) c <;> rfl
      · rfl
theorem bsl_s {ps : List (Nat × AV)} : bsl e sz v len H (some ps) = bsl1 e sz v len (toCparts H ps) := (rfl)
theorem bsl1_s {ps : List (Nat × CV)} : bsl1 e sz v len (some (ps, H)) = if len * sz ≤ 16777216 ∧ v.size = sz ∧ sz ≠ 0 then bslE e sz H (setCs sz (List.replicate len v) ps) else none := (rfl)
theorem bslE_s : bslE e sz H (some es) = some (.os H.length, H ++ [.row e sz es]) := (rfl)
/-! #### Reading -/
def ldC (A : Bool) (n off : Nat) (H : Heap) : Option CV → Option Nat → Option (AV × Heap)
  | some v, some o => if o = off ∧ fitsR A n v.size v.isAgg = true then some (.c v, H) else none
  | _, _ => none
def ldA (A : Bool) (n off : Nat) (H : Heap) : Option AV → Option Nat → Option (AV × Heap)
  | some v, some o => if o = off ∧ fitsR A n v.size v.isAgg = true then some (v, H) else none
  | _, _ => none
def ldB (A : Bool) (n off : Nat) (path : List Nat) (H : Heap) : Option Blk → Option (AV × Heap)
  | some (.var _ v) => ldA A n off H (getA v path) (offA v path)
  | some (.fvar _ v) => ldC A n off H (getC v path) (offC v path)
  | _ => none
theorem mLoad_p : mLoad A n (.c (.ptr v path off)) H = ldC A n off H (getC v path) (offC v path) := by
  simp only [mLoad, mld, ldC]
  cases getC v path with
  | none => rfl
  | some x => cases offC v path with
    | none => rfl
    | some o => simp only []; split <;> rfl
theorem mLoad_ov : mLoad A n (.ov i path off) H = ldB A n off path H H[i]? := by
  simp only [mLoad, mld, ldB]
  cases H[i]? with
  | none => rfl
  | some b => cases b with
    | var t v =>
      simp only [ldA]
      cases getA v path with
      | none => rfl
      | some x => cases offA v path with
        | none => rfl
        | some o => simp only []; split <;> rfl
    | fvar t v =>
      simp only [ldC]
      cases getC v path with
      | none => rfl
      | some x => cases offC v path with
        | none => rfl
        | some o => simp only []; split <;> rfl
    | _ => rfl
theorem ldB_v : ldB A n off path H (some (.var t a)) = ldA A n off H (getA a path) (offA a path) := (rfl)
theorem ldB_f : ldB A n off path H (some (.fvar t v)) = ldC A n off H (getC v path) (offC v path) := (rfl)
theorem ldC_s : ldC A n off H (some v) (some o) = if o = off ∧ fitsR A n v.size v.isAgg = true then some (.c v, H) else none := (rfl)
theorem ldA_s : ldA A n off H (some a) (some o) = if o = off ∧ fitsR A n a.size a.isAgg = true then some (a, H) else none := (rfl)
def ldR (A : Bool) (n i off : Nat) (path : List Nat) (H : Heap) : Option (TypeId × Nat × List CV) → Option (AV × Heap)
  | some (_, _, es) => if i < es.length then ldC A n off H (getC (nthC es i) path) (offC (nthC es i) path) else none
  | none => none
theorem mLoad_oe : mLoad A n (.oe i j path off) H = ldR A n j off path H (rowOf H i) := by
  simp only [mLoad, mld, ldR, nthC]
  cases rowOf H i with
  | none => rfl
  | some x =>
    obtain ⟨_, _, es⟩ := x
    simp only [ldC]
    by_cases hj : j < es.length
    · rw [if_pos hj]
      cases getC (es.getD j .nilp) path with
      | none => rfl
      | some x => cases offC (es.getD j .nilp) path with
        | none => rfl
        | some o => simp only [hj, true_and]; split <;> rfl
    · rw [if_neg hj]
      cases getC (es.getD j .nilp) path with
      | none => rfl
      | some x => cases offC (es.getD j .nilp) path with
        | none => rfl
        | some o => simp [hj]
theorem ldR_s : ldR A n i off path H (some (t, sz, es)) = if i < es.length then ldC A n off H (getC (nthC es i) path) (offC (nthC es i) path) else none := (rfl)
def rowB : Option Blk → Option (TypeId × Nat × List CV)
  | some (.row t sz es) => some (t, sz, es)
  | some (.frow t sz es) => some (t, sz, es)
  | _ => none
theorem rowOf_e : rowOf H i = rowB H[i]? := by
  unfold rowOf
  cases H[i]? with
  | none => rfl
  | some b => cases b <;> rfl
theorem rowB_r : rowB (some (.row t sz es)) = some (t, sz, es) := (rfl)
theorem rowB_f : rowB (some (.frow t sz es)) = some (t, sz, es) := (rfl)
/-! #### Writing -/
def stA (A : Bool) (n off id : Nat) (t : TypeId) (x : AV) (H : Heap) : Option AV → Option Nat → Option AV → Option (AV × Heap)
  | some old, some o, some v' => if o = off ∧ fitsR A n x.size x.isAgg = true ∧ old.size = x.size then some (AV.undef, H.set id (.var t v')) else none
  | _, _, _ => none
def stB (A : Bool) (n off id : Nat) (path : List Nat) (x : AV) (H : Heap) : Option Blk → Option (AV × Heap)
  | some (.var t v) => stA A n off id t x H (getA v path) (offA v path) (setA path v x)
  | _ => none
theorem mStore_ov (h : ev1R (some a) = some a) : mStore A n (.ov i path off) a H = stB A n off i path a H H[i]? := by
  simp only [mStore, h, mst, stB]
  cases H[i]? with
  | none => rfl
  | some b => cases b with
    | var t v =>
      simp only [stA]
      cases getA v path with
      | none => rfl
      | some x => cases offA v path with
        | none => rfl
        | some o => cases setA path v a with
          | none => rfl
          | some v' => simp only []; split <;> rfl
    | _ => rfl
theorem mStore_ovc : mStore A n (.ov i path off) (.c v) H = stB A n off i path (.c v) H H[i]? := mStore_ov rfl
theorem mStore_ovos : mStore A n (.ov i path off) (.os j) H = stB A n off i path (.os j) H H[i]? := mStore_ov rfl
theorem mStore_ovov {q : List Nat} : mStore A n (.ov i path off) (.ov j q o) H = stB A n off i path (.ov j q o) H H[i]? := mStore_ov rfl
theorem mStore_ovagg : mStore A n (.ov i path off) (.agg l) H = stB A n off i path (.agg l) H H[i]? := mStore_ov rfl
theorem mStore_ovmp : mStore A n (.ov i path off) (.mp j) H = stB A n off i path (.mp j) H H[i]? := mStore_ov rfl
theorem stB_v : stB A n off i path a H (some (.var t b)) = stA A n off i t a H (getA b path) (offA b path) (setA path b a) := (rfl)
theorem stA_s {c : AV} : stA A n off i t a H (some b) (some o) (some c) = if o = off ∧ fitsR A n a.size a.isAgg = true ∧ b.size = a.size then some (AV.undef, H.set i (.var t c)) else none := (rfl)
def stR2 (A : Bool) (n off id i : Nat) (t : TypeId) (sz : Nat) (es : List CV) (x : AV) (H : Heap) : Option Nat → Option AV → Option CV → Option (AV × Heap)
  | some o, some (.c v'), some old => if o = off ∧ i < es.length ∧ fitsR A n x.size x.isAgg = true ∧ old.size = x.size then some (AV.undef, H.set id (.row t sz (es.set i v'))) else none
  | _, _, _ => none
def stR (A : Bool) (n off id i : Nat) (path : List Nat) (x : AV) (H : Heap) : Option Blk → Option (AV × Heap)
  | some (.row t sz es) => stR2 A n off id i t sz es x H (offC (nthC es i) path) (setA path (.c (nthC es i)) x) (getC (nthC es i) path)
  | _ => none
theorem mStore_oe (h : ev1R (some a) = some a) : mStore A n (.oe i j path off) a H = stR A n off i j path a H H[i]? := by
  simp only [mStore, h, mst, stR, nthC]
  cases H[i]? with
  | none => rfl
  | some b => cases b with
    | row t sz es =>
      simp only [stR2]
      cases offC (es.getD j .nilp) path with
      | none => rfl
      | some o => cases setA path (.c (es.getD j .nilp)) a with
        | none => rfl
        | some v' => cases v' with
          | c v' => cases getC (es.getD j .nilp) path with
            | none => rfl
            | some x => simp only []; split <;> rfl
          | _ => cases getC (es.getD j .nilp) path <;> rfl
    | _ => rfl
theorem mStore_oec : mStore A n (.oe i j path off) (.c v) H = stR A n off i j path (.c v) H H[i]? := mStore_oe rfl
theorem stR_r : stR A n off i j path a H (some (.row t sz es)) = stR2 A n off i j t sz es a H (offC (nthC es j) path) (setA path (.c (nthC es j)) a) (getC (nthC es j) path) := (rfl)
theorem stR2_s : stR2 A n off i j t sz es a H (some o) (some (.c v)) (some x) = if o = off ∧ j < es.length ∧ fitsR A n a.size a.isAgg = true ∧ x.size = a.size then some (AV.undef, H.set i (.row t sz (es.set j v))) else none := (rfl)
theorem mNil_p : mNil (.c (.ptr v path off)) H = some (.c (.ptr v path off), H) := (rfl)
theorem mNil_ov : mNil (.ov i path off) H = some (.ov i path off, H) := (rfl)
theorem mNil_oe : mNil (.oe i j path off) H = some (.oe i j path off, H) := (rfl)
theorem mNil_i : mNil (.c (.iface t v)) H = some (.c (.iface t v), H) := (rfl)
theorem mNil_f : mNil (.c (.fn g)) H = some (.c (.fn g), H) := (rfl)
theorem mNil_fn : mNil (.fn g l) H = some (.fn g l, H) := (rfl)
theorem mFA_p {g0 : Nat} : mFA f g0 (.c (.ptr v path off)) H = some (.c (.ptr v (path ++ [f]) (off + g0)), H) := (rfl)
theorem mFA_ov {g0 : Nat} : mFA f g0 (.ov i path off) H = some (.ov i (path ++ [f]) (off + g0), H) := (rfl)
theorem mFA_oe {g0 : Nat} : mFA f g0 (.oe i j path off) H = some (.oe i j (path ++ [f]) (off + g0), H) := (rfl)
theorem mIdxA_p {c : Int} : mIdxA n (.c (.ptr v path off)) (.c (.int k c)) H = if 0 ≤ c ∧ c < n then some (.c (.ptr v (path ++ [c.toNat]) (off + c.toNat)), H) else none := by
  simp only [mIdxA, intOf]; split <;> rfl
theorem mIdxA_ov {c : Int} : mIdxA n (.ov i path off) (.c (.int k c)) H = if 0 ≤ c ∧ c < n then some (.ov i (path ++ [c.toNat]) (off + c.toNat), H) else none := by
  simp only [mIdxA, intOf]; split <;> rfl
theorem mIdxA_oe {c : Int} : mIdxA n (.oe i j path off) (.c (.int k c)) H = if 0 ≤ c ∧ c < n then some (.oe i j (path ++ [c.toNat]) (off + c.toNat), H) else none := by
  simp only [mIdxA, intOf]; split <;> rfl
theorem mIdxS_s {c : Int} : mIdxS sz (.c (.sl n es)) (.c (.int k c)) H = if (0 ≤ c ∧ c < es.length) ∧ sz = n then some (.c (.ptr (nthC es c.toNat) [] 0), H) else none := by
  simp only [mIdxS, intOf, nthC]
  by_cases h : 0 ≤ c ∧ c < es.length
  · rw [if_pos h]; by_cases h2 : sz = n <;> simp [h, h2]
  · rw [if_neg h]; simp [h]
def ixR (sz : Nat) (id : Nat) (c : Int) (H : Heap) : Option (TypeId × Nat × List CV) → Option (AV × Heap)
  | some (_, n, es) => if (0 ≤ c ∧ c < es.length) ∧ sz = n then some (.oe id c.toNat [] 0, H) else none
  | none => none
theorem mIdxS_os {c : Int} : mIdxS sz (.os i) (.c (.int k c)) H = ixR sz i c H (rowOf H i) := by
  simp only [mIdxS, intOf, ixR]
  cases rowOf H i with
  | none => rfl
  | some x =>
    obtain ⟨_, n, es⟩ := x
    simp only []
    by_cases h : 0 ≤ c ∧ c < es.length
    · rw [if_pos h]; by_cases h2 : sz = n <;> simp [h, h2]
    · rw [if_neg h]; simp [h]
theorem ixR_s {c : Int} : ixR sz i c H (some (t, n, es)) = if (0 ≤ c ∧ c < es.length) ∧ sz = n then some (.oe i c.toNat [] 0, H) else none := (rfl)
theorem mIndexA_e {c : Int} : mIndexA n (.c (.arr m k ns)) (.c (.int k' c)) H = if (0 ≤ c ∧ c < n) ∧ m = n ∧ ns.length = n then some (.c (.int k (nthI ns c.toNat)), H) else none := by
  simp only [mIndexA, intOf, nthI]
  by_cases h : 0 ≤ c ∧ c < n
  · rw [if_pos h]; by_cases h2 : m = n ∧ ns.length = n <;> simp [h, h2]
  · rw [if_neg h]; simp [h]
theorem mIndexStr_e {c : Int} {s : ByteArray} : mIndexStr (.c (.str s)) (.c (.int k c)) H = if 0 ≤ c ∧ c < s.size then some (.c (.int .u8 (s.data.toList.getD c.toNat 0).toNat), H) else none := by
  simp only [mIndexStr, intOf]; split <;> rfl
/-! #### Numbers -/
def aic (H : Heap) : Option CV → Option (AV × Heap)
  | some v => some (.c v, H)
  | none => none
theorem aic_s : aic H (some v) = some (.c v, H) := (rfl)
variable {lit : Bool} {c d : Int} {op : BinOp}
def iAnd (k : IntKind) (c d : Int) : Int := k.wrap (BitVec.ofInt k.bits c &&& BitVec.ofInt k.bits d).toNat
def iOr (k : IntKind) (c d : Int) : Int := k.wrap (BitVec.ofInt k.bits c ||| BitVec.ofInt k.bits d).toNat
def iXor (k : IntKind) (c d : Int) : Int := k.wrap (BitVec.ofInt k.bits c ^^^ BitVec.ofInt k.bits d).toNat
def iNot (k : IntKind) (c : Int) : Int := k.wrap (BitVec.ofInt k.bits (if k.signed then -1 else k.max) ^^^ BitVec.ofInt k.bits c).toNat
def iShl (k : IntKind) (c d : Int) : Int := k.wrap (c * 2 ^ (min d.toNat k.bits))
def iShr (k : IntKind) (c d : Int) : Int := c.fdiv (2 ^ (min d.toNat k.bits))
def iAdd (k : IntKind) (c d : Int) : Int := k.wrap (c + d)
def iSub (k : IntKind) (c d : Int) : Int := k.wrap (c - d)
def iMul (k : IntKind) (c d : Int) : Int := k.wrap (c * d)
theorem mBin_int (h1 : op ≠ .shl) (h2 : op ≠ .shr) : mBin C t lit op (.c (.int k c)) (.c (.int k d)) H = aic H (aint op k c d) := by
  simp only [mBin, abin]
  cases op <;> first | contradiction | (simp only [if_true]; cases aint _ k c d <;> rfl)
theorem mBin_add : mBin C t lit .add (.c (.int k c)) (.c (.int k d)) H = some (.c (.int k (iAdd k c d)), H) := by rw [mBin_int (by simp) (by simp)]; rfl
theorem mBin_sub : mBin C t lit .sub (.c (.int k c)) (.c (.int k d)) H = some (.c (.int k (iSub k c d)), H) := by rw [mBin_int (by simp) (by simp)]; rfl
theorem mBin_mul : mBin C t lit .mul (.c (.int k c)) (.c (.int k d)) H = some (.c (.int k (iMul k c d)), H) := by rw [mBin_int (by simp) (by simp)]; rfl
theorem mBin_quo : mBin C t lit .quo (.c (.int k c)) (.c (.int k d)) H = aic H (if d = 0 then none else some (.int k (k.wrap (c.tdiv d)))) := by rw [mBin_int (by simp) (by simp)]; rfl
theorem mBin_rem : mBin C t lit .rem (.c (.int k c)) (.c (.int k d)) H = aic H (if d = 0 then none else some (.int k (c.tmod d))) := by rw [mBin_int (by simp) (by simp)]; rfl
theorem mBin_and : mBin C t lit .and (.c (.int k c)) (.c (.int k d)) H = some (.c (.int k (iAnd k c d)), H) := by rw [mBin_int (by simp) (by simp)]; rfl
theorem mBin_or : mBin C t lit .or (.c (.int k c)) (.c (.int k d)) H = some (.c (.int k (iOr k c d)), H) := by rw [mBin_int (by simp) (by simp)]; rfl
theorem mBin_xor : mBin C t lit .xor (.c (.int k c)) (.c (.int k d)) H = some (.c (.int k (iXor k c d)), H) := by rw [mBin_int (by simp) (by simp)]; rfl
theorem mBin_eql : mBin C t lit .eql (.c (.int k c)) (.c (.int k d)) H = some (.c (.bool (c == d)), H) := by rw [mBin_int (by simp) (by simp)]; rfl
theorem mBin_neq : mBin C t lit .neq (.c (.int k c)) (.c (.int k d)) H = some (.c (.bool (c != d)), H) := by rw [mBin_int (by simp) (by simp)]; rfl
theorem mBin_lss : mBin C t lit .lss (.c (.int k c)) (.c (.int k d)) H = some (.c (.bool (decide (c < d))), H) := by rw [mBin_int (by simp) (by simp)]; rfl
theorem mBin_leq : mBin C t lit .leq (.c (.int k c)) (.c (.int k d)) H = some (.c (.bool (decide (c ≤ d))), H) := by rw [mBin_int (by simp) (by simp)]; rfl
theorem mBin_gtr : mBin C t lit .gtr (.c (.int k c)) (.c (.int k d)) H = some (.c (.bool (decide (c > d))), H) := by rw [mBin_int (by simp) (by simp)]; rfl
theorem mBin_geq : mBin C t lit .geq (.c (.int k c)) (.c (.int k d)) H = some (.c (.bool (decide (c ≥ d))), H) := by rw [mBin_int (by simp) (by simp)]; rfl
theorem mBin_shl : mBin C t lit .shl (.c (.int k c)) (.c (.int k' d)) H = aic H (if d < 0 then none else some (.int k (iShl k c d))) := by
  simp only [mBin, abin, ashift]
  split <;> rfl
theorem mBin_shr : mBin C t lit .shr (.c (.int k c)) (.c (.int k' d)) H = aic H (if d < 0 then none else some (.int k (iShr k c d))) := by
  simp only [mBin, abin, ashift]
  split <;> rfl
variable {s s' : ByteArray}
theorem mBin_streq : mBin C t lit .eql (.c (.str s)) (.c (.str s')) H = some (.c (.bool (s.toList == s'.toList)), H) := (rfl)
theorem mBin_strne : mBin C t lit .neq (.c (.str s)) (.c (.str s')) H = some (.c (.bool (!(s.toList == s'.toList))), H) := (rfl)
theorem mBin_strlt : mBin C t lit .lss (.c (.str s)) (.c (.str s')) H = some (.c (.bool (Op.bytesLess s.toList s'.toList)), H) := (rfl)
theorem mBin_strle : mBin C t lit .leq (.c (.str s)) (.c (.str s')) H = some (.c (.bool (Op.bytesLess s.toList s'.toList || s.toList == s'.toList)), H) := (rfl)
theorem mBin_strgt : mBin C t lit .gtr (.c (.str s)) (.c (.str s')) H = some (.c (.bool (!(Op.bytesLess s.toList s'.toList || s.toList == s'.toList))), H) := (rfl)
theorem mBin_strge : mBin C t lit .geq (.c (.str s)) (.c (.str s')) H = some (.c (.bool (!Op.bytesLess s.toList s'.toList)), H) := (rfl)
/-- '==' that is told apart by a type. -/
def eqH (H : Heap) (neg : Bool) : Option Bool → Option (AV × Heap)
  | some r => some (.c (.bool (if neg then !r else r)), H)
  | none => none
theorem eqH_t {r : Bool} : eqH H true (some r) = some (.c (.bool !r), H) := (rfl)
theorem eqH_f {r : Bool} : eqH H false (some r) = some (.c (.bool r), H) := (rfl)
def isIS : AV → AV → Bool
  | .c (.int _ _), .c (.int _ _) => true
  | .c (.str _), .c (.str _) => true
  | _, _ => false
theorem mBin_eqg (hg : C.P.eqGuardType C.P.depth t = false) (hi : isIS a b = false) : mBin C t lit .eql a b H = eqH H false (aeq C.P 12 t a b) := by
  have : abin C.P lit .eql t a b = (aeq C.P 12 t a b).map fun r => .c (.bool r) := by
    unfold abin
    split
    · simp [isIS] at hi
    · simp [isIS] at hi
    · simp [hg]
  simp only [mBin, this]
  cases aeq C.P 12 t a b <;> rfl
theorem mBin_neg (hg : C.P.eqGuardType C.P.depth t = false) (hi : isIS a b = false) : mBin C t lit .neq a b H = eqH H true (aeq C.P 12 t a b) := by
  have : abin C.P lit .neq t a b = (aeq C.P 12 t a b).map fun r => .c (.bool !r) := by
    unfold abin
    split
    · simp [isIS] at hi
    · simp [isIS] at hi
    · simp [hg]
  simp only [mBin, this]
  cases aeq C.P 12 t a b <;> rfl
theorem mUn_not {r : Bool} : mUn .not (.c (.bool r)) H = some (.c (.bool !r), H) := (rfl)
theorem mUn_neg : mUn .neg (.c (.int k c)) H = some (.c (.int k (k.wrap (0 - c))), H) := (rfl)
theorem mUn_xor : mUn .xor (.c (.int k c)) H = some (.c (.int k (iNot k c)), H) := (rfl)
theorem mConvI_e : mConvI k (.c (.int k' c)) H = some (.c (.int k (k.wrap c)), H) := (rfl)
/-! #### Bytes -/
def cbs2 (H : Heap) : Option (List UInt8) → Option (AV × Heap)
  | some bs => some (.c (.str ⟨bs.toArray⟩), H)
  | none => none
def cbs (H : Heap) : Option (List CV) → Option (AV × Heap)
  | some es => cbs2 H (bytesC es)
  | none => none
theorem mConvBS_e : mConvBS a H = cbs H (elemsOf H 1 a) := by
  unfold mConvBS cbs
  cases elemsOf H 1 a with
  | none => rfl
  | some es => simp only [cbs2]; cases bytesC es <;> rfl
theorem cbs_s : cbs H (some es) = cbs2 H (bytesC es) := (rfl)
theorem cbs2_s {bs : List UInt8} : cbs2 H (some bs) = some (.c (.str ⟨bs.toArray⟩), H) := (rfl)
theorem bytesC_av : ∀ (bs : List UInt8), bytesC (bytesAV bs) = some bs
  | [] => rfl
  | b :: bs => by
    have := bytesC_av bs
    simp only [bytesAV, List.map_cons] at this ⊢
    simp only [bytesC, this]
    simp
theorem mConvSB_e : mConvSB e (.c (.str s)) H = if s.size ≤ maxLen then some (.os H.length, H ++ [.row e 1 (bytesAV s.data.toList)]) else none := by simp [mConvSB]
theorem mConvSS_e : mConvSS (.c (.str s)) H = some (.c (.str s), H) := (rfl)
def cv0 (i : Nat) (H : Heap) : Option Blk → Option (AV × Heap)
  | some (.row _ sz (_ :: _)) => if sz = 1 then some (.os i, H) else none
  | _ => none
theorem mConv0_os : mConv0 (.os i) H = cv0 i H H[i]? := by
  simp only [mConv0]
  cases H[i]? with
  | none => rfl
  | some b => cases b with
    | row t sz es => cases es <;> rfl
    | _ => rfl
theorem cv0_r : cv0 i H (some (.row t 1 (v :: es))) = some (.os i, H) := (rfl)
def eo (sz : Nat) : Option (TypeId × Nat × List CV) → Option (List CV)
  | some (_, s, es) => if s = sz then some es else none
  | none => none
theorem elemsOf_sl : elemsOf H sz (.c (.sl n es)) = if n = sz then some es else none := (rfl)
theorem elemsOf_nil : elemsOf H sz (.c .nilsl) = some [] := (rfl)
theorem elemsOf_os : elemsOf H sz (.os i) = eo sz (rowOf H i) := by
  simp only [elemsOf]
  cases rowOf H i <;> rfl
theorem eo_s : eo sz (some (t, n, es)) = if n = sz then some es else none := (rfl)
def arr2 (n : Nat) (k : IntKind) (H : Heap) : Option (List Int) → Option (AV × Heap)
  | some ns => some (.c (.ptr (.arr n k ns) [] 0), H)
  | none => none
def arr1 (n : Nat) (k : IntKind) : Option (CV × Heap) → Option (AV × Heap)
  | some (.sl 1 es, H') => if n ≤ es.length ∧ 0 < n then arr2 n k H' (intsC k (es.take n)) else none
  | _ => none
theorem mArrAt_e : mArrAt n k a H = arr1 n k (toC 2 H a) := by
  unfold mArrAt
  generalize toC 2 H a = x
  unfold arr1
  split
  · simp only []
    split
    · cases intsC k _ <;> rfl
    · rfl
  · rename_i h
    split
    · rename_i es H'; exact absurd rfl (h es H')
    · rfl
theorem arr1_s : arr1 n k (some (.sl 1 es, H)) = if n ≤ es.length ∧ 0 < n then arr2 n k H (intsC k (es.take n)) else none := (rfl)
theorem arr2_s : arr2 n k H (some ns) = some (.c (.ptr (.arr n k ns) [] 0), H) := (rfl)
def ifc (t : TypeId) : Option (CV × Heap) → Option (AV × Heap)
  | some (v, H) => some (.c (.iface t v), H)
  | none => none
theorem mIface_c : mIface t (.c v) H = some (.c (.iface t v), H) := (rfl)
theorem mIface_ov : mIface t (.ov i p o) H = ifc t (toC 6 H (.ov i p o)) := by simp only [mIface, ev1R]; cases toC 6 H (.ov i p o) <;> rfl
theorem ifc_s : ifc t (some (v, H)) = some (.c (.iface t v), H) := (rfl)
theorem mMakeSl_e : mMakeSl e sz bytes v (.c (.int k c)) (.c (.int k' d)) H = if c = d ∧ 0 ≤ d then
    if d * bytes ≤ 140737488355328 ∧ d ≤ maxLen ∧ v.size = sz ∧ sz ≠ 0 then some (.os H.length, H ++ [.row e sz (List.replicate d.toNat v)]) else none else none := rfl
theorem natOf_none : natOf none n m = some n := (rfl)
theorem natOf_s : natOf (some (.c (.int k c))) n m = if 0 ≤ c ∧ c ≤ (m : Int) then some c.toNat else none := (rfl)
/-- A part of elements. -/
def cutE (n : Nat) (es : List CV) (lo : Option AV) (H : Heap) : Option Nat → Option (AV × Heap)
  | some h => cutE2 n es h H (natOf lo 0 h)
  | none => none
where
  cutE2 (n : Nat) (es : List CV) (h : Nat) (H : Heap) : Option Nat → Option (AV × Heap)
    | some l => some (.c (.sl n ((es.drop l).take (h - l))), H)
    | none => none
theorem cutE_s {lo : Option AV} : cutE n es lo H (some m) = cutE.cutE2 n es m H (natOf lo 0 m) := (rfl)
theorem cutE2_s : cutE.cutE2 n es m H (some i) = some (.c (.sl n ((es.drop i).take (m - i))), H) := (rfl)
theorem mSliceSl_sl {lo hi : Option AV} : mSliceSl sz (.c (.sl sz es)) lo hi H = cutE sz es lo H (natOf hi es.length es.length) := by
  simp only [mSliceSl, mTail, toC, cutE]
  cases natOf hi es.length es.length with
  | none => rfl
  | some h => simp only [cutE.cutE2]; cases natOf lo 0 h <;> simp
theorem mSliceSl_nil {lo hi : Option AV} (h1 : natOf hi 0 0 = some 0) (h2 : natOf lo 0 0 = some 0) : mSliceSl sz (.c .nilsl) lo hi H = some (.c .nilsl, H) := by
  simp only [mSliceSl, mTail, toC, h1, h2, if_true]
def tl (sz : Nat) (i : Nat) (c : Int) (H : Heap) : Option Blk → Option (AV × Heap)
  | some (.row u n es) => if n = sz ∧ 0 ≤ c ∧ c ≤ (es.length : Int) then some (.os H.length, H.set i .dead ++ [.row u n (es.drop c.toNat)]) else none
  | _ => none
theorem mSliceSl_tail (h : H[i]? = some (.row u sz es)) (h0 : 0 ≤ c) (h1 : c ≤ (es.length : Int)) : mSliceSl sz (.os i) (some (.c (.int k c))) none H = some (.os H.length, H.set i .dead ++ [.row u sz (es.drop c.toNat)]) := by
  simp only [mSliceSl, mTail, h, h0, h1, and_self, if_true]
theorem mSliceSl_os {hi : AV} {lo : Option AV} (h : H[i]? = some (.row u sz es)) : mSliceSl sz (.os i) lo (some hi) H = cutE sz es lo (H.set i (.frow u sz es)) (natOf (some hi) es.length es.length) := by
  have : mTail sz H (.os i) lo (some hi) = none := by unfold mTail; split <;> simp_all
  simp only [mSliceSl, this, toC, h, cutE]
  cases natOf (some hi) es.length es.length with
  | none => rfl
  | some m => simp only [cutE.cutE2]; cases natOf lo 0 m <;> simp
theorem mSliceSl_os0 (h : H[i]? = some (.row u sz es)) : mSliceSl sz (.os i) none none H = some (.c (.sl sz es), H.set i (.frow u sz es)) := by
  simp [mSliceSl, mTail, toC, h, natOf]
def sa2 (k : IntKind) (ns : List Int) (h : Nat) (H : Heap) : Option Nat → Option (AV × Heap)
  | some l => some (.c (.sl 1 (((ns.map (CV.int k)).drop l).take (h - l))), H)
  | none => none
def sa1 (k : IntKind) (ns : List Int) (lo : Option AV) (H : Heap) : Option Nat → Option (AV × Heap)
  | some h => sa2 k ns h H (natOf lo 0 h)
  | none => none
def sa (n off : Nat) (lo hi : Option AV) (H : Heap) : Option CV → Option Nat → Option (AV × Heap)
  | some (.arr m k ns), some o => if o = off ∧ m = n ∧ ns.length = n ∧ n ≤ maxLen then sa1 k ns lo H (natOf hi n n) else none
  | _, _ => none
theorem mSliceArr_p {lo hi : Option AV} : mSliceArr n (.c (.ptr v path off)) lo hi H = sa n off lo hi H (getC v path) (offC v path) := by
  simp only [mSliceArr]
  unfold sa
  split
  · rename_i m k ns o h1 h2
    simp only [h1, h2]
    by_cases hc : o = off ∧ m = n ∧ ns.length = n ∧ n ≤ maxLen
    · rw [if_pos ⟨hc.1, hc.2.1, hc.2.2.1, trivial, trivial, hc.2.2.2⟩, if_pos hc]
      simp only [sa1]
      cases natOf hi n n with
      | none => rfl
      | some h => simp only [sa2]; cases natOf lo 0 h <;> rfl
    · rw [if_neg hc, if_neg (fun h => hc ⟨h.1, h.2.1, h.2.2.1, h.2.2.2.2.2⟩)]
  · rename_i h
    split
    · rename_i h1 h2; exact absurd h2 (h _ _ _ _ h1)
    · rfl
def saO (n off : Nat) (path : List Nat) (lo hi : Option AV) : Option (CV × Heap) → Option (AV × Heap)
  | some (.ptr v [] 0, H) => sa n off lo hi H (getC v path) (offC v path)
  | _ => none
theorem mSliceArr_ov {lo hi : Option AV} : mSliceArr n (.ov i path off) lo hi H = saO n off path lo hi (toC 6 H (.ov i [] 0)) := by
  have key : ∀ x : Option (CV × Heap), (match (match x with
        | some (.ptr root [] 0, H') => some (root, path, off, H')
        | _ => none) with
      | some (root, path, off, H') => match getC root path, offC root path with
        | some (.arr m k ns), some o => if o = off ∧ m = n ∧ ns.length = n ∧ 1 = 1 ∧ (true : Bool) ∧ n ≤ maxLen then
            match natOf hi n n with
            | some h => match natOf lo 0 h with
              | some l => some (AV.c (.sl 1 (((ns.map (CV.int k)).drop l).take (h - l))), H')
              | none => none
            | none => none
          else none
        | _, _ => none
      | none => none) = saO n off path lo hi x := by
    intro x
    unfold saO
    split
    · rename_i h
      split at h
      · rename_i root H' 
        injection h with h
        injection h with h1 h2
        injection h2 with h2 h3
        injection h3 with h3 h4
        subst h1 h2 h3 h4
        exact (mSliceArr_p (H := H') (v := root) (path := path) (off := off) (lo := lo) (hi := hi) (n := n) ▸ rfl)
      · cases h
    · rename_i h
      split at h
      · cases h
      · rename_i hn
        first
        | rfl
        | (split
           · rename_i v H'; exact absurd rfl (hn v H')
           · rfl)
  exact key _
theorem saO_s {lo hi : Option AV} : saO n off path lo hi (some (.ptr v [] 0, H)) = sa n off lo hi H (getC v path) (offC v path) := (rfl)
theorem sa_s {lo hi : Option AV} : sa n off lo hi H (some (.arr m k ns)) (some o) = if o = off ∧ m = n ∧ ns.length = n ∧ n ≤ maxLen then sa1 k ns lo H (natOf hi n n) else none := (rfl)
theorem sa1_s {lo : Option AV} : sa1 k ns lo H (some m) = sa2 k ns m H (natOf lo 0 m) := (rfl)
theorem sa2_s : sa2 k ns m H (some i) = some (.c (.sl 1 (((ns.map (CV.int k)).drop i).take (m - i))), H) := (rfl)
def fd2 (A : Bool) (n : Nat) (ns : List Nat) (l : List AV) (H : Heap) : Option AV → Option (AV × Heap)
  | some v => if sizesR ns l = true ∧ fitsR A n v.size v.isAgg = true then some (v, H) else none
  | none => none
theorem mField_agg {q : List Nat} : mField q A n f (.agg l) H = fd2 A n q l H l[f]? := by
  simp only [mField, AV.fields]
  cases l[f]? with
  | none => rfl
  | some v => simp only [fd2, true_and]; split <;> rfl
theorem mField_c {q : List Nat} : mField q A n f (.c (.agg fs)) H = fd2 A n q (fs.map .c) H (fs.map .c)[f]? := by
  simp only [mField, AV.fields]
  cases (fs.map AV.c)[f]? with
  | none => rfl
  | some v => simp only [fd2, true_and]; split <;> rfl
theorem fd2_s {q : List Nat} : fd2 A n q l H (some a) = if sizesR q l = true ∧ fitsR A n a.size a.isAgg = true then some (a, H) else none := (rfl)
theorem sizesR_nil : sizesR [] [] = true := (rfl)
theorem sizesR_cons {q : List Nat} : sizesR (n :: q) (a :: l) = (a.size == n && sizesR q l) := (rfl)
def xo (H : Heap) : Option AV → Option (AV × Heap)
  | some v => some (v, H)
  | none => none
theorem mExtract_t : mExtract i (.tup l) H = xo H l[i]? := by simp only [mExtract]; cases l[i]? <;> rfl
theorem xo_s : xo H (some a) = some (a, H) := (rfl)
def lno (H : Heap) : Option Nat → Option (AV × Heap)
  | some n => some (.c (.int .i64 (n : Nat)), H)
  | none => none
theorem mLenSl_e : mLenSl a H = lno H (lenOf H a) := by simp only [mLenSl]; cases lenOf H a <;> rfl
theorem lno_s : lno H (some n) = some (.c (.int .i64 n), H) := (rfl)
def lenR : Option (TypeId × Nat × List CV) → Option Nat
  | some (_, _, es) => some es.length
  | none => none
theorem lenOf_sl : lenOf H (.c (.sl n es)) = some es.length := (rfl)
theorem lenOf_nil : lenOf H (.c .nilsl) = some 0 := (rfl)
theorem lenOf_os : lenOf H (.os i) = lenR (rowOf H i) := by simp only [lenOf]; cases rowOf H i <;> rfl
theorem lenR_s : lenR (some (t, n, es)) = some es.length := (rfl)
theorem mLenStr_e : mLenStr (.c (.str s)) H = some (.c (.int .i64 s.size), H) := (rfl)
def apB (e : TypeId) (sz bytes : Nat) (id : Nat) (xs : List CV) (H : Heap) : Option Blk → Option (AV × Heap)
  | some (.row u n es) => if (n = sz ∧ u = e) ∧ (es.length + xs.length) * bytes ≤ 140737488355328 ∧ es.length + xs.length ≤ maxLen then some (.os H.length, H.set id .dead ++ [.row e sz (es ++ xs)]) else none
  | _ => none
def ap (e : TypeId) (sz bytes : Nat) (s : AV) (H : Heap) : Option (List CV) → Option (AV × Heap)
  | some xs => match s with
    | .c .nilsl => if xs.length * bytes ≤ 140737488355328 ∧ xs.length ≤ maxLen then some (.os H.length, H ++ [.row e sz xs]) else none
    | .os id => apB e sz bytes id xs H H[id]?
    | _ => none
  | none => none
theorem apB_of {xs : List CV} : (match H[i]? with
      | some (.row u sz' es) => if sz' = sz ∧ u = e then
          if (es.length + xs.length) * bytes ≤ 140737488355328 ∧ es.length + xs.length ≤ maxLen then some (AV.os H.length, H.set i .dead ++ [.row e sz (es ++ xs)]) else none
        else none
      | _ => none) = apB e sz bytes i xs H H[i]? := by
  cases H[i]? with
  | none => rfl
  | some b => cases b with
    | row u n es =>
      simp only [apB]
      by_cases h1 : n = sz ∧ u = e
      · rw [if_pos h1]; simp only [h1, and_self, true_and]
      · rw [if_neg h1, if_neg (fun h => h1 h.1)]
    | _ => rfl
theorem mAppend_e : mAppend e sz bytes false a b H = ap e sz bytes a H (elemsOf H sz b) := by
  unfold mAppend ap
  cases elemsOf H sz b with
  | none => rfl
  | some xs =>
    simp only []
    split
    · rfl
    · exact apB_of
    · rename_i h1 h2
      split
      · exact absurd rfl h1
      · exact absurd rfl (h2 _)
      · rfl
theorem mAppend_str : mAppend e 1 bytes true a (.c (.str s)) H = ap e 1 bytes a H (some (bytesAV s.data.toList)) := by
  unfold mAppend ap
  simp only [if_true]
  split
  · rfl
  · exact apB_of
  · rename_i h1 h2
    split
    · exact absurd rfl h1
    · exact absurd rfl (h2 _)
    · rfl
theorem ap_nil : ap e sz bytes (.c .nilsl) H (some xs) = if xs.length * bytes ≤ 140737488355328 ∧ xs.length ≤ maxLen then some (.os H.length, H ++ [.row e sz xs]) else none := (rfl)
theorem ap_os : ap e sz bytes (.os i) H (some xs) = apB e sz bytes i xs H H[i]? := (rfl)
theorem apB_r : apB e sz bytes i xs H (some (.row u n es)) = if (n = sz ∧ u = e) ∧ (es.length + xs.length) * bytes ≤ 140737488355328 ∧ es.length + xs.length ≤ maxLen then some (.os H.length, H.set i .dead ++ [.row e sz (es ++ xs)]) else none := (rfl)
theorem mMin_2 : mMin [.c (.int k c), .c (.int k' d)] H = some (.c (.int k (if d < c then d else c)), H) := (rfl)
theorem mMax_2 : mMax [.c (.int k c), .c (.int k' d)] H = some (.c (.int k (if d > c then d else c)), H) := (rfl)
theorem mCallV_f {cf : CallFn} : mCallV cf (.c (.fn g)) l H = cf g l H := (rfl)
theorem mCallV_fn {cf : CallFn} : mCallV cf (.fn g as) l H = cf g (l ++ as) H := (rfl)
end
end Go.Fm

/-
  A part of the proof: Fm44.
-/
import Derived.Test.YtjmjijgnbjkpnaaFm43
set_option linter.all false
set_option autoImplicit true
/-
  The words for simp, second part: heaps, calls; and which of them simp takes by itself.
-/
set_option linter.unusedSimpArgs false
set_option linter.unusedVariables false
namespace Go.Fm
open Go
section
variable {C : Cfg} {An : FuncId → Ann} {H F : Heap} {k : IntKind} {x y v : CV} {a b : AV} {i j n m o off f sz d : Nat} {t e u : TypeId} {A keep : Bool} {p path : List Nat} {l as vs : List AV} {es xs fs : List CV} {ns : List Int} {g : FuncId} {ρ σ : Nat → Nat} {q : Nat → Bool} {ids : List Nat} {B : Blk} {es2 : List (CV × CV)}
/-! ### Sizes -/
theorem csz_bool {c : Bool} : CV.size (.bool c) = 1 := (rfl)
theorem csz_int {c : Int} : CV.size (.int k c) = 1 := (rfl)
theorem csz_str {s : ByteArray} : CV.size (.str s) = 1 := (rfl)
theorem csz_nilp : CV.size .nilp = 1 := (rfl)
theorem csz_nilsl : CV.size .nilsl = 1 := (rfl)
theorem csz_nilmap : CV.size .nilmap = 1 := (rfl)
theorem csz_nilif : CV.size .nilif = 1 := (rfl)
theorem csz_nilfn : CV.size .nilfn = 1 := (rfl)
theorem csz_ptr : CV.size (.ptr v p o) = 1 := (rfl)
theorem csz_sl : CV.size (.sl n es) = 1 := (rfl)
theorem csz_agg : CV.size (.agg fs) = CV.sizes fs := (rfl)
theorem csz_arr : CV.size (.arr n k ns) = n := (rfl)
theorem csz_iface : CV.size (.iface t v) = 1 := (rfl)
theorem csz_fn : CV.size (.fn g) = 1 := (rfl)
theorem csz_nil : CV.sizes [] = 0 := (rfl)
theorem csz_cons : CV.sizes (v :: fs) = v.size + CV.sizes fs := (rfl)
theorem asz_c : AV.size (.c v) = v.size := (rfl)
theorem asz_ov : AV.size (.ov i p o) = 1 := (rfl)
theorem asz_os : AV.size (.os i) = 1 := (rfl)
theorem asz_oe : AV.size (.oe i j p o) = 1 := (rfl)
theorem asz_mp : AV.size (.mp i) = 1 := (rfl)
theorem asz_fn : AV.size (.fn g l) = 1 := (rfl)
theorem asz_agg : AV.size (.agg l) = AV.sizes l := (rfl)
theorem asz_nil : AV.sizes [] = 0 := (rfl)
theorem asz_cons : AV.sizes (a :: l) = a.size + AV.sizes l := (rfl)
theorem cag_bool {c : Bool} : CV.isAgg (.bool c) = false := (rfl)
theorem cag_int {c : Int} : CV.isAgg (.int k c) = false := (rfl)
theorem cag_str {s : ByteArray} : CV.isAgg (.str s) = false := (rfl)
theorem cag_nilp : CV.isAgg .nilp = false := (rfl)
theorem cag_nilsl : CV.isAgg .nilsl = false := (rfl)
theorem cag_nilmap : CV.isAgg .nilmap = false := (rfl)
theorem cag_nilif : CV.isAgg .nilif = false := (rfl)
theorem cag_nilfn : CV.isAgg .nilfn = false := (rfl)
theorem cag_ptr : CV.isAgg (.ptr v p o) = false := (rfl)
theorem cag_sl : CV.isAgg (.sl n es) = false := (rfl)
theorem cag_agg : CV.isAgg (.agg fs) = true := (rfl)
theorem cag_arr : CV.isAgg (.arr n k ns) = true := (rfl)
theorem cag_iface : CV.isAgg (.iface t v) = false := (rfl)
theorem cag_fn : CV.isAgg (.fn g) = false := (rfl)
theorem aag_c : AV.isAgg (.c v) = v.isAgg := (rfl)
theorem aag_ov : AV.isAgg (.ov i p o) = false := (rfl)
theorem aag_os : AV.isAgg (.os i) = false := (rfl)
theorem aag_oe : AV.isAgg (.oe i j p o) = false := (rfl)
theorem aag_mp : AV.isAgg (.mp i) = false := (rfl)
theorem aag_fn : AV.isAgg (.fn g l) = false := (rfl)
theorem aag_agg : AV.isAgg (.agg l) = true := (rfl)
theorem fitsR_t {c : Bool} : fitsR true n m c = (c && (m == n)) := by simp [fitsR]
theorem fitsR_f {c : Bool} : fitsR false n m c = (!c && (m == 1)) := by simp [fitsR]
/-! ### Blocks -/
theorem ball_var : Blk.all q (.var t a) = a.all q := (rfl)
theorem ball_row : Blk.all q (.row t n es) = true := (rfl)
theorem ball_frow : Blk.all q (.frow t n es) = true := (rfl)
theorem ball_fvar : Blk.all q (.fvar t v) = true := (rfl)
theorem ball_dead : Blk.all q .dead = true := (rfl)
theorem ball_mp : Blk.all q (.mp es2) = true := (rfl)
theorem bok_var : Blk.ok (.var t a) = false := (rfl)
theorem bok_row : Blk.ok (.row t n es) = false := (rfl)
theorem bok_mp : Blk.ok (.mp es2) = false := (rfl)
theorem bok_frow : Blk.ok (.frow t n es) = true := (rfl)
theorem bok_fvar : Blk.ok (.fvar t v) = true := (rfl)
theorem bok_dead : Blk.ok .dead = true := (rfl)
theorem bmap_var : Blk.map ρ (.var t a) = .var t (a.map ρ) := (rfl)
theorem bmap_row : Blk.map ρ (.row t n es) = .row t n es := (rfl)
theorem bmap_frow : Blk.map ρ (.frow t n es) = .frow t n es := (rfl)
theorem bmap_fvar : Blk.map ρ (.fvar t v) = .fvar t v := (rfl)
theorem bmap_dead : Blk.map ρ .dead = .dead := (rfl)
theorem bmap_mp : Blk.map ρ (.mp es2) = .mp es2 := (rfl)
theorem bids_var : Blk.ids (.var t a) = a.ids := (rfl)
theorem bids_row : Blk.ids (.row t n es) = [] := (rfl)
theorem bids_frow : Blk.ids (.frow t n es) = [] := (rfl)
theorem bids_fvar : Blk.ids (.fvar t v) = [] := (rfl)
theorem bids_dead : Blk.ids .dead = [] := (rfl)
theorem bids_mp : Blk.ids (.mp es2) = [] := (rfl)
def aliveB : Option Blk → Bool
  | some b => !b.ok
  | none => false
theorem aliveAt_e : aliveAt H i = aliveB H[i]? := by unfold aliveAt; cases H[i]? <;> rfl
theorem aliveB_s : aliveB (some B) = !B.ok := (rfl)
def reachB (d : Nat) (H : Heap) : Option Blk → List Nat
  | some (.var _ v) => reachV d H v
  | _ => []
theorem reachB_var : reachB d H (some (.var t a)) = reachV d H a := (rfl)
theorem reachB_row : reachB d H (some (.row t n es)) = [] := (rfl)
theorem reachB_frow : reachB d H (some (.frow t n es)) = [] := (rfl)
theorem reachB_fvar : reachB d H (some (.fvar t v)) = [] := (rfl)
theorem reachB_dead : reachB d H (some .dead) = [] := (rfl)
theorem reachB_mp : reachB d H (some (.mp es2)) = [] := (rfl)
theorem reachV_c : reachV (d + 1) H (.c v) = [] := (rfl)
theorem reachV_ov : reachV (d + 1) H (.ov i p o) = i :: reachB d H H[i]? := by
  simp only [reachV]
  cases H[i]? with
  | none => rfl
  | some b => cases b <;> rfl
theorem reachV_os : reachV (d + 1) H (.os i) = [i] := (rfl)
theorem reachV_oe : reachV (d + 1) H (.oe i j p o) = [i] := (rfl)
theorem reachV_mp : reachV (d + 1) H (.mp i) = [i] := (rfl)
theorem reachV_agg : reachV (d + 1) H (.agg l) = reachVs d H l := (rfl)
theorem reachV_tup : reachV (d + 1) H (.tup l) = reachVs d H l := (rfl)
theorem reachV_fn : reachV (d + 1) H (.fn g l) = reachVs d H l := (rfl)
theorem reachV_any : reachV (d + 1) H .any = [] := (rfl)
theorem reachVs_nil : reachVs (d + 1) H [] = [] := (rfl)
theorem reachVs_cons : reachVs (d + 1) H (a :: l) = reachV d H a ++ reachVs d H l := (rfl)
/-! ### What is come to -/
def growB (H : Heap) (n : Nat) (todo seen : List Nat) (id : Nat) : Option Blk → Option (List Nat)
  | some b => grow H n (todo ++ b.ids) (seen ++ [id])
  | none => none
theorem grow_nil {seen : List Nat} : grow H n [] seen = some seen := by cases n <;> rfl
theorem grow_cons {todo seen : List Nat} : grow H (n + 1) (i :: todo) seen = if seen.contains i = true then grow H n todo seen else growB H n todo seen i H[i]? := by
  simp only [grow]
  cases H[i]? <;> rfl
theorem growB_s {todo seen : List Nat} : growB H n todo seen i (some B) = grow H n (todo ++ B.ids) (seen ++ [i]) := (rfl)
theorem gcIds_e : gcIds n vs H = grow H 4096 (List.range n ++ AV.idss vs) [] := (rfl)
theorem range0 : List.range 0 = [] := (rfl)
theorem range1 : List.range 1 = [0] := (rfl)
theorem range2 : List.range 2 = [0, 1] := (rfl)
theorem range3 : List.range 3 = [0, 1, 2] := (rfl)
theorem range4 : List.range 4 = [0, 1, 2, 3] := (rfl)
theorem range5 : List.range 5 = [0, 1, 2, 3, 4] := (rfl)
theorem range6 : List.range 6 = [0, 1, 2, 3, 4, 5] := (rfl)
def selW (ρ : Nat → Nat) (H : Heap) : List Nat → Heap
  | [] => []
  | id :: r => (((H[id]?).getD .dead).map ρ) :: selW ρ H r
theorem selH_e : selH ids H = selW (fun j => ids.idxOf j) H ids := by
  unfold selH
  generalize (fun j => ids.idxOf j) = ρ
  induction ids with
  | nil => rfl
  | cons id r ih => simp only [List.map_cons, selW, ih]
theorem selW_nil : selW ρ H [] = [] := (rfl)
theorem selW_cons : selW ρ H (i :: ids) = (((H[i]?).getD .dead).map ρ) :: selW ρ H ids := (rfl)
def gcLI (vs : List AV) (H : Heap) : Option (List Nat) → Option (List AV × Heap)
  | some ids => some (AV.maps (fun j => ids.idxOf j) vs, selH ids H)
  | none => none
theorem gcL_e : gcL n vs H = gcLI vs H (gcIds n vs H) := by unfold gcL; cases gcIds n vs H <;> rfl
theorem gcLI_s : gcLI vs H (some ids) = some (AV.maps (fun j => ids.idxOf j) vs, selH ids H) := (rfl)
def viewF (H : Heap) (ids : List Nat) : Option (AV × Heap) → Option (AV × Heap)
  | some (v, F) => some (v.map (outer ids H.length), putBack (outer ids H.length) ids F H)
  | none => none
def viewI (G : List AV → Heap → Option (AV × Heap)) (as : List AV) (H : Heap) : Option (List Nat) → Option (AV × Heap)
  | some ids => viewF H ids (G (AV.maps (fun j => ids.idxOf j) as) (selH ids H))
  | none => none
theorem viewC_e {G : List AV → Heap → Option (AV × Heap)} : viewC G as H = viewI G as H (gcIds 0 as H) := by
  unfold viewC viewI
  cases gcIds 0 as H with
  | none => rfl
  | some ids =>
    simp only [viewF]
    cases G (AV.maps (fun j => ids.idxOf j) as) (selH ids H) <;> rfl
theorem viewI_s {G : List AV → Heap → Option (AV × Heap)} : viewI G as H (some ids) = viewF H ids (G (AV.maps (fun j => ids.idxOf j) as) (selH ids H)) := (rfl)
theorem viewF_s : viewF H ids (some (a, F)) = some (a.map (outer ids H.length), putBack (outer ids H.length) ids F H) := (rfl)
theorem putBack_nil : putBack σ [] F H = H ++ F.map (Blk.map σ) := by cases F <;> rfl
theorem putBack_cons : putBack σ (i :: ids) (B :: F) H = putBack σ ids F (H.set i (B.map σ)) := (rfl)
theorem outer_e : outer ids n i = if i < ids.length then ids.getD i 0 else n + (i - ids.length) := (rfl)
/-! ### Handing on -/
def hc : Option (CV × Heap) → Option (AV × Heap)
  | some (v, H) => some (.c v, H)
  | none => none
theorem hc_s : hc (some (v, H)) = some (.c v, H) := (rfl)
def hcov (C : Cfg) (off id : Nat) (H : Heap) : Option Blk → Option (AV × Heap)
  | some (.var t _) => if C.frz t = true then hc (toC 8 H (.ov id [] off)) else some (.ov id [] off, H)
  | some (.fvar _ _) => hc (toC 8 H (.ov id [] off))
  | _ => some (.ov id [] off, H)
theorem handC_c : handC C keep H (.c v) = some (.c v, H) := (rfl)
theorem handC_ost : handC C true H (.os i) = some (.os i, H) := (rfl)
theorem handC_osf : handC C false H (.os i) = hc (toC 2 H (.os i)) := by simp only [handC]; cases toC 2 H (.os i) <;> rfl
theorem handC_ov : handC C keep H (.ov i [] off) = hcov C off i H H[i]? := by
  simp only [handC]
  cases H[i]? with
  | none => rfl
  | some b => cases b with
    | var t v =>
      simp only [hcov]
      split
      · cases toC 8 H (.ov i [] off) <;> rfl
      · rfl
    | fvar t v => simp only [hcov]; cases toC 8 H (.ov i [] off) <;> rfl
    | _ => rfl
theorem hcov_v : hcov C off i H (some (.var t a)) = if C.frz t = true then hc (toC 8 H (.ov i [] off)) else some (.ov i [] off, H) := (rfl)
theorem hcov_f : hcov C off i H (some (.fvar t v)) = hc (toC 8 H (.ov i [] off)) := (rfl)
theorem handC_ovp : handC C keep H (.ov i (j :: p) off) = some (.ov i (j :: p) off, H) := (rfl)
theorem handC_agg : handC C keep H (.agg l) = hc (toC 8 H (.agg l)) := by simp only [handC]; cases toC 8 H (.agg l) <;> rfl
theorem handC_tup : handC C keep H (.tup l) = some (.tup l, H) := (rfl)
theorem handC_fn : handC C keep H (.fn g l) = some (.fn g l, H) := (rfl)
theorem handC_mp : handC C keep H (.mp i) = some (.mp i, H) := (rfl)
theorem handC_oe : handC C keep H (.oe i j p o) = some (.oe i j p o, H) := (rfl)
def hcs2 (v : AV) : Option (List AV × Heap) → Option (List AV × Heap)
  | some (vs, H) => some (v :: vs, H)
  | none => none
def hcs1 (C : Cfg) (keep : Bool) (vs : List AV) : Option (AV × Heap) → Option (List AV × Heap)
  | some (v, H) => hcs2 v (handCs C keep H vs)
  | none => none
theorem handCs_nil : handCs C keep H [] = some ([], H) := (rfl)
theorem handCs_cons : handCs C keep H (a :: l) = hcs1 C keep l (handC C keep H a) := by
  simp only [handCs]
  cases handC C keep H a with
  | none => rfl
  | some x => obtain ⟨v, H'⟩ := x; simp only [hcs1]; cases handCs C keep H' l <;> rfl
theorem hcs1_s : hcs1 C keep l (some (a, H)) = hcs2 a (handCs C keep H l) := (rfl)
theorem hcs2_s : hcs2 a (some (l, H)) = some (a :: l, H) := (rfl)
theorem tupOf_1 : tupOf [a] = a := (rfl)
theorem tupOf_0 : tupOf [] = .tup [] := (rfl)
theorem tupOf_2 : tupOf (a :: b :: l) = .tup (a :: b :: l) := (rfl)
def endG : Option (List AV × Heap) → Option (AV × Heap)
  | some ([v], H) => some (v, H)
  | _ => none
def endH (k : Nat) : Option (List AV × Heap) → Option (AV × Heap)
  | some (vs, H) => endG (gcL k [tupOf vs] H)
  | none => none
theorem endQ_s : endQ C keep n (some l) H = endH n (handCs C keep H l) := by
  simp only [endQ]
  cases handCs C keep H l with
  | none => rfl
  | some x =>
    obtain ⟨vs, H'⟩ := x
    simp only [endH]
    cases gcL n [tupOf vs] H' with
    | none => rfl
    | some y =>
      obtain ⟨ws, H''⟩ := y
      cases ws with
      | nil => rfl
      | cons w ws => cases ws <;> rfl
theorem endH_s : endH n (some (l, H)) = endG (gcL n [tupOf l] H) := (rfl)
theorem endG_s : endG (some ([a], H)) = some (a, H) := (rfl)
theorem resC1_s : resC1 (some a) (some l) = some (a :: l) := (rfl)
def fstO : Option (AV × Heap) → Option AV
  | some (v, _) => some v
  | none => none
theorem fstO_s : fstO (some (a, H)) = some a := (rfl)
theorem mld_e : mld A n H a = fstO (mLoad A n a H) := by unfold mLoad; cases mld A n H a <;> rfl
def cvw (G : List AV → Heap → Option (AV × Heap)) : Option (List AV × Heap) → Option (AV × Heap)
  | some (as, H) => viewC G as H
  | none => none
theorem cvw_s {G : List AV → Heap → Option (AV × Heap)} : cvw G (some (as, H)) = viewC G as H := (rfl)
/-- A call that is given what is owned. -/
theorem callX_v (hp : C.prim g = none) : callX C An g as H = cvw (fnX C An g) (handCs C (C.keepA g) H as) := by
  rw [callX_view hp]
  cases handCs C (C.keepA g) H as <;> rfl
end
attribute [simp] bindE_s condR_t condR_f guardR_t guardR_f guardD_t guardD_f wantR_b wantR_u un_c un0_n afterL_e afterL_r afterD_s drawQ_nil0 drawQ_f drawF_e drawE_s twiceE_s
  ev1R_c ev1R_ov ev1R_os ev1R_oe ev1R_agg ev1R_fn ev1R_mp
attribute [simp ↓] drawR_q twice_e bindE_s condR_t condR_f guardR_t guardR_f guardD_t guardD_f un_c un0_n afterL_e afterL_r afterD_s
attribute [simp] getC_nil getC_agg getCo_s getC_arr addo_s offC_nil offC_agg offCo_s offC_arr mapc_s getA_cc getA_nil getA_agg getAo_s offA_cc offA_nil offA_agg offAo_s mkAgg_o mkAggO_s mkAggO_n consO_s consO_n allC_nil allC_c allC_ov allC_os allC_oe allC_mp allC_fn allC_agg allC_map
  setAm_s setA_nil setA_agg setA_cagg setAo_s setA_arr setNth_nil setNth_cons setNthO_s setInts_nil setInts_cons consP_s partsR_nil partsR_c partsR_ov partsR_os partsR_agg partsR_fn partsR_mp mPick_b mAlloc_e mBox_c mBox_ov mBox_os mBox_agg mBox_fn bldS2_s bldS_s mBuildS_e bldA2_s bldA_s mBuildA_e
  toCpo_s toCp1_s toCparts_nil toCparts_cons toC_c toC_os toCos_r toCos_f toC_ov toCov_v toCov_f toCov1_s toCov2_s toC_agg toCag_s toCsW_nil toCsW_cons toCs1_s toCs2_s setCs_nil setCs_cons mBuildSl_e bsl_s bsl1_s bslE_s
  mLoad_p mLoad_ov ldB_v ldB_f ldC_s ldA_s mLoad_oe ldR_s rowOf_e rowB_r rowB_f mStore_ovc mStore_ovos mStore_ovov mStore_ovagg mStore_ovmp stB_v stA_s mStore_oec stR_r stR2_s mNil_p mNil_ov mNil_oe mNil_i mNil_f mNil_fn mFA_p mFA_ov mFA_oe mIdxA_p mIdxA_ov mIdxA_oe mIdxS_s mIdxS_os ixR_s mIndexA_e mIndexStr_e
  aic_s mBin_add mBin_sub mBin_mul mBin_quo mBin_rem mBin_and mBin_or mBin_xor mBin_eql mBin_neq mBin_lss mBin_leq mBin_gtr mBin_geq mBin_shl mBin_shr mBin_streq mBin_strne mBin_strlt mBin_strle mBin_strgt mBin_strge eqH_t eqH_f mUn_not mUn_neg mUn_xor mConvI_e mConvBS_e cbs_s cbs2_s bytesC_av mConvSB_e mConvSS_e mConv0_os cv0_r
  elemsOf_sl elemsOf_nil elemsOf_os eo_s mArrAt_e arr1_s arr2_s mIface_c mIface_ov ifc_s mMakeSl_e natOf_none natOf_s cutE_s cutE2_s mSliceSl_sl mSliceSl_nil mSliceSl_tail mSliceSl_os mSliceSl_os0 mSliceArr_p mSliceArr_ov saO_s sa_s sa1_s sa2_s mField_agg mField_c fd2_s sizesR_nil sizesR_cons mExtract_t xo_s mLenSl_e lno_s lenOf_sl lenOf_nil lenOf_os lenR_s mLenStr_e mAppend_e mAppend_str ap_nil ap_os apB_r mMin_2 mMax_2 mCallV_f mCallV_fn
attribute [simp] csz_bool csz_int csz_str csz_nilp csz_nilsl csz_nilmap csz_nilif csz_nilfn csz_ptr csz_sl csz_agg csz_arr csz_iface csz_fn csz_nil csz_cons asz_c asz_ov asz_os asz_oe asz_mp asz_fn asz_agg asz_nil asz_cons cag_bool cag_int cag_str cag_nilp cag_nilsl cag_nilmap cag_nilif cag_nilfn cag_ptr cag_sl cag_agg cag_arr cag_iface cag_fn aag_c aag_ov aag_os aag_oe aag_mp aag_fn aag_agg fitsR_t fitsR_f
  ball_var ball_row ball_frow ball_fvar ball_dead ball_mp bok_var bok_row bok_mp bok_frow bok_fvar bok_dead bmap_var bmap_row bmap_frow bmap_fvar bmap_dead bmap_mp bids_var bids_row bids_frow bids_fvar bids_dead bids_mp aliveAt_e aliveB_s reachB_var reachB_row reachB_frow reachB_fvar reachB_dead reachB_mp reachV_c reachV_ov reachV_os reachV_oe reachV_mp reachV_agg reachV_tup reachV_fn reachV_any reachVs_nil reachVs_cons
  grow_nil grow_cons growB_s gcIds_e range0 range1 range2 range3 range4 range5 range6 selH_e selW_nil selW_cons gcL_e gcLI_s viewC_e viewI_s viewF_s putBack_nil putBack_cons outer_e
  hc_s handC_c handC_ost handC_osf handC_ov hcov_v hcov_f handC_ovp handC_agg handC_tup handC_fn handC_mp handC_oe handCs_nil handCs_cons hcs1_s hcs2_s tupOf_1 tupOf_0 tupOf_2 endQ_s endH_s endG_s resC1_s fstO_s mld_e cvw_s
attribute [simp] AV.map AV.maps AV.ids AV.idss AV.all AV.alls killFrom restFrom own live blksAll AV.isC resC List.idxOf_cons cond
end Go.Fm

/-
  A part of the proof: PRfG.
-/
import Derived.Test.YtjmjijgnbjkpnaaPRfF
set_option linter.all false
set_option autoImplicit true
/-
  Decode, of the program and of the document, as one function; SameNode (the plain seat).
-/
set_option autoImplicit false
set_option maxRecDepth 100000
set_option linter.unusedVariables false
set_option linter.unusedSimpArgs false
namespace Go.Fm
open Go Go.Proofs
theorem rdec_loop (b : Bool) (o : Option (List UInt8)) (its : List It) (hm : its.length ≤ 1000000) (hi : ∀ p ∈ its, 0 < p.2.length ∧ p.2.length ≤ 1000000) : ∀ (rest pre : List It) (n : Nd), its = pre ++ rest → n.l.length = 32 → n.r.length = 32 →
    ((decF n rest).2 = 0 ∧ (decF n rest).1.l.length = 32 ∧ (decF n rest).1.r.length = 32 ∧ loopX 0 (p11_l0 b (callX (cfg b) An) 0) (rS o (its.map itC) (pre.length : Int)) (dH n) = some (.exit 0 [.c (pV o), .ov 0 [] 0, .any, .ov 1 [] 0], dH (decF n rest).1)) ∨
    ((decF n rest).2 ≠ 0 ∧ ∃ n' B, n'.l.length = 32 ∧ n'.r.length = 32 ∧ loopX 0 (p11_l0 b (callX (cfg b) An) 0) (rS o (its.map itC) (pre.length : Int)) (dH n) = some (.ret [.c (pV o), .ov 0 [] 0, .c (.int .i64 (decF n rest).2), .ov 1 [] 0], dH n' ++ B))
  | [], pre, n, h, hl, hr => by
    refine .inl ⟨rfl, hl, hr, ?_⟩
    have e : (decF n []).1 = n := rfl
    rw [List.append_nil] at h
    rw [e, ← h, loopX_eq]
    have ll : (dI n.l).length = 32 := by rw [len_dI, hl]
    have lr : (dI n.r).length = 32 := by rw [len_dI, hr]
    simp only [rS, dH, Nd.cv, List.reduceReplicate]
    simp [p11_l0]
  | (t, v) :: rest, pre, n, h, hl, hr => by
    have hlt : pre.length < (its.map itC).length := by rw [h]; simp
    have hml : (its.map itC).length ≤ 1000000 := by simpa using hm
    have hn : nthC (its.map itC) pre.length = itC (t, v) := by rw [h]; simp [nthC, List.getD_eq_getElem?_getD]
    obtain ⟨h0, hv⟩ := hi (t, v) (by rw [h]; simp)
    simp only at h0 hv
    have ih := fun m => rdec_loop b o its hm hi rest (pre ++ [(t, v)]) m (by rw [h]; simp)
    have e : (((pre ++ [(t, v)]).length : Nat) : Int) = (pre.length : Int) + 1 := by simp
    rw [e] at ih
    by_cases t1 : t = 1
    · subst t1
      have ed : decF n ((1, v) :: rest) = decF { n with k := some v } rest := by simp only [decF, if_true]
      rw [ed, rdst_1 b o _ pre.length hlt hml n hl hr v h0 hv hn]
      exact ih _ hl hr
    by_cases t2 : t = 2
    · subst t2
      have ed : decF n ((2, v) :: rest) = decF { n with v := some v } rest := rfl
      rw [ed, rdst_2 b o _ pre.length hlt hml n hl hr v h0 hv hn]
      exact ih _ hl hr
    by_cases t3 : t = 3
    · subst t3
      by_cases hc : (valL v).2 = 0
      · have ed : decF n ((3, v) :: rest) = decF { n with h := IntKind.i64.wrap (if 65 < (valL v).1 then 65 else (valL v).1) } rest := if_pos hc
        rw [ed, rdst_3 b o _ pre.length hlt hml n hl hr v h0 hv hc hn]
        exact ih _ hl hr
      · have h7 := (valL_01 v).resolve_left hc
        have ed : decF n ((3, v) :: rest) = (n, 7) := by have e : decF n ((3, v) :: rest) = (n, (valL v).2) := if_neg hc
                                                         rw [e, h7]
        rw [ed]
        obtain ⟨n', B, hl', hr', hB⟩ := rdbd_3 b o _ pre.length hlt hml n hl hr v h0 hv hc hn
        exact .inr ⟨by simp, n', B, hl', hr', by simpa using hB⟩
    by_cases t4 : t = 4
    · subst t4
      by_cases hc : (valL v).2 = 0
      · have ed : decF n ((4, v) :: rest) = decF { n with z := (valL v).1 } rest := if_pos hc
        rw [ed, rdst_4 b o _ pre.length hlt hml n hl hr v h0 hv hc hn]
        exact ih _ hl hr
      · have h7 := (valL_01 v).resolve_left hc
        have ed : decF n ((4, v) :: rest) = (n, 7) := by have e : decF n ((4, v) :: rest) = (n, (valL v).2) := if_neg hc
                                                         rw [e, h7]
        rw [ed]
        obtain ⟨n', B, hl', hr', hB⟩ := rdbd_4 b o _ pre.length hlt hml n hl hr v h0 hv hc hn
        exact .inr ⟨by simp, n', B, hl', hr', by simpa using hB⟩
    by_cases t5 : t = 5
    · subst t5
      by_cases hc : v.length = 32
      · have ed : decF n ((5, v) :: rest) = decF { n with l := v } rest := if_pos hc
        rw [ed, rdst_5 b o _ pre.length hlt hml n hl hr v h0 hv hc hn]
        exact ih _ hc hr
      · have ed : decF n ((5, v) :: rest) = (n, 7) := if_neg hc
        rw [ed]
        obtain ⟨n', B, hl', hr', hB⟩ := rdbd_5 b o _ pre.length hlt hml n hl hr v h0 hv hc hn
        exact .inr ⟨by simp, n', B, hl', hr', by simpa using hB⟩
    by_cases t6 : t = 6
    · subst t6
      by_cases hc : v.length = 32
      · have ed : decF n ((6, v) :: rest) = decF { n with r := v } rest := if_pos hc
        rw [ed, rdst_6 b o _ pre.length hlt hml n hl hr v h0 hv hc hn]
        exact ih _ hl hc
      · have ed : decF n ((6, v) :: rest) = (n, 7) := if_neg hc
        rw [ed]
        obtain ⟨n', B, hl', hr', hB⟩ := rdbd_6 b o _ pre.length hlt hml n hl hr v h0 hv hc hn
        exact .inr ⟨by simp, n', B, hl', hr', by simpa using hB⟩
    have ed : decF n ((t, v) :: rest) = (n, 8) := by simp only [decF, if_neg t1, if_neg t2, if_neg t3, if_neg t4, if_neg t5, if_neg t6]
    rw [ed]
    obtain ⟨B, hB⟩ := rdbd_x b o _ pre.length hlt n hl hr t v t1 t2 t3 t4 t5 t6 hn
    exact .inr ⟨by simp, n, B, hl, hr, hB⟩
/-- What both answer. -/
noncomputable def tailV (o : Option (List UInt8)) (n : Nd) : CV × Int := if n.encE = 0 then (if pB n.encO = pB o then (n.cv, 0) else (apiZ, 7)) else (apiZ, n.encE)
noncomputable def decV (o : Option (List UInt8)) : CV × Int :=
  if (parseL (pB o)).2 = 0 then
    (if (decF nd0 (parseL (pB o)).1).2 = 0 then tailV o (decF nd0 (parseL (pB o)).1).1 else (apiZ, (decF nd0 (parseL (pB o)).1).2))
  else (apiZ, (parseL (pB o)).2)
/-! CF -/
set_option maxHeartbeats 16000000 in
theorem dec_tailx (b : Bool) (o : Option (List UInt8)) (M : List CV) (I : CV) (hI : ∀ H, lenOf H (.c I) = some M.length) (n : Nd) (hl : n.l.length = 32) (hr : n.r.length = 32)
    (pc : ∀ H, callX (cfg b) An 30 [.c (pV o)] H = some (.tup [.c I, .c (.int .i64 0)], H))
    (lp : loopX 0 (p10_l0 b (callX (cfg b) An) 0) [.c (pV o), .ov 0 [] 0, .ov 1 [] 0, .c I, .c (.int .i64 (M.length : Int)), .c (.int .i64 0)] (dH nd0) = some (.exit 0 [.c (pV o), .ov 0 [] 0, .any, .ov 1 [] 0], dH n)) :
    fnX (cfg b) An 10 [.c (pV o)] [] = some (.tup [.c (tailV o n).1, .c (.int .i64 (tailV o n).2)], []) := by
  have ec := enc_call b n hl hr
  have ll : (dI n.l).length = 32 := by rw [len_dI, hl]
  have lr : (dI n.r).length = 32 := by rw [len_dI, hr]
  have kz := csz_pV n.k
  have kg := cag_pV n.k
  have vz := csz_pV n.v
  have vg := cag_pV n.v
  have ea := fun H => elemsOf_pV H n.encO
  have eb := fun H => elemsOf_pV H o
  have zz : dI zeroL = [0, 0, 0, 0, 0, 0, 0, 0, 0, 0, 0, 0, 0, 0, 0, 0, 0, 0, 0, 0, 0, 0, 0, 0, 0, 0, 0, 0, 0, 0, 0, 0] := by decide
  have e1 : pV none = .nilsl := rfl
  simp only [dH, nd0, Nd.cv, e1, zz, List.reduceReplicate] at lp
  by_cases he : n.encE = 0
  · by_cases hb : pB n.encO = pB o
    · have et : tailV o n = (n.cv, 0) := by unfold tailV; rw [if_pos he, if_pos hb]
      rw [et, fnX_eq, p10_eq]
      rw [he] at ec
      simp only [Nd.cv] at ec lp ⊢
      simp (maxSteps := 1000000) [p10, pc, hI, lp, ec, ll, lr, kz, kg, vz, vg, ea, eb, hb, frzA, BA_toList]
    · have et : tailV o n = (apiZ, 7) := by unfold tailV; rw [if_pos he, if_neg hb]
      rw [et, fnX_eq, p10_eq]
      rw [he] at ec
      have hb2 : (pB n.encO == pB o) = false := by simpa using hb
      simp only [Nd.cv] at ec lp ⊢
      simp (maxSteps := 1000000) [p10, pc, hI, lp, ec, ll, lr, kz, kg, vz, vg, ea, eb, hb2, frzA, BA_toList, apiZ]
  · have et : tailV o n = (apiZ, n.encE) := by unfold tailV; rw [if_neg he]
    rw [et, fnX_eq, p10_eq]
    have he2 : (n.encE != 0) = true := by simpa using he
    simp only [Nd.cv] at ec lp ⊢
    simp (maxSteps := 1000000) [p10, pc, hI, lp, ec, ll, lr, kz, kg, vz, vg, he2, frzA, apiZ]
theorem renc_call (b : Bool) (n : Nd) (hl : n.l.length = 32) (hr : n.r.length = 32) : ∀ H, callX (cfg b) An 8 [.c n.cv] H = some (.tup [.c (pV n.rencO), .c (.int .i64 n.encE)], H) := by
  refine callX_pure (renc_any b n hl hr).1 rfl ?_ (prim_none' (by decide))
  rfl
set_option maxHeartbeats 16000000 in
theorem rdec_tailx (b : Bool) (o : Option (List UInt8)) (I : CV) (n : Nd) (hl : n.l.length = 32) (hr : n.r.length = 32)
    (pc : ∀ H, callX (cfg b) An 32 [.c (pV o)] H = some (.tup [.c I, .c (.int .i64 0)], H))
    (lp : loopX 0 (p11_l0 b (callX (cfg b) An) 0) [.c (pV o), .ov 0 [] 0, .c I, .ov 1 [] 0, .c (.int .i64 0)] (dH nd0) = some (.exit 0 [.c (pV o), .ov 0 [] 0, .any, .ov 1 [] 0], dH n)) :
    fnX (cfg b) An 11 [.c (pV o)] [] = some (.tup [.c (tailV o n).1, .c (.int .i64 (tailV o n).2)], []) := by
  have ec := renc_call b n hl hr
  have eB := (renc_any b n hl hr).2
  have ll : (dI n.l).length = 32 := by rw [len_dI, hl]
  have lr : (dI n.r).length = 32 := by rw [len_dI, hr]
  have kz := csz_pV n.k
  have kg := cag_pV n.k
  have vz := csz_pV n.v
  have vg := cag_pV n.v
  have ea := fun H => elemsOf_pV H n.rencO
  have eb := fun H => elemsOf_pV H o
  have zz : dI zeroL = [0, 0, 0, 0, 0, 0, 0, 0, 0, 0, 0, 0, 0, 0, 0, 0, 0, 0, 0, 0, 0, 0, 0, 0, 0, 0, 0, 0, 0, 0, 0, 0] := by decide
  have e1 : pV none = .nilsl := rfl
  simp only [dH, nd0, Nd.cv, e1, zz, List.reduceReplicate] at lp
  by_cases he : n.encE = 0
  · by_cases hb : pB n.encO = pB o
    · have et : tailV o n = (n.cv, 0) := by unfold tailV; rw [if_pos he, if_pos hb]
      rw [et, fnX_eq, p11_eq]
      rw [he] at ec
      have hb3 : pB n.rencO = pB o := by rw [eB, hb]
      simp only [Nd.cv] at ec lp ⊢
      simp (maxSteps := 1000000) [p11, pc, lp, ec, ll, lr, kz, kg, vz, vg, ea, eb, hb3, frzA, BA_toList]
    · have et : tailV o n = (apiZ, 7) := by unfold tailV; rw [if_pos he, if_neg hb]
      rw [et, fnX_eq, p11_eq]
      rw [he] at ec
      have hb3 : ¬ pB n.rencO = pB o := by rw [eB]; exact hb
      have hb2 : (pB n.rencO == pB o) = false := by simpa using hb3
      simp only [Nd.cv] at ec lp ⊢
      simp (maxSteps := 1000000) [p11, pc, lp, ec, ll, lr, kz, kg, vz, vg, ea, eb, hb2, hb3, frzA, BA_toList, apiZ]
  · have et : tailV o n = (apiZ, n.encE) := by unfold tailV; rw [if_neg he]
    rw [et, fnX_eq, p11_eq]
    have he2 : (n.encE != 0) = true := by simpa using he
    simp only [Nd.cv] at ec lp ⊢
    simp (maxSteps := 1000000) [p11, pc, lp, ec, ll, lr, kz, kg, vz, vg, he2, frzA, apiZ]
theorem rdec_perr (b : Bool) (o : Option (List UInt8)) (I : CV) (e : Int) (he : e ≠ 0) (pc : ∀ H, callX (cfg b) An 32 [.c (pV o)] H = some (.tup [.c I, .c (.int .i64 e)], H)) :
    fnX (cfg b) An 11 [.c (pV o)] [] = some (.tup [.c apiZ, .c (.int .i64 e)], []) := by
  rw [fnX_eq, p11_eq]
  have he2 : (e != 0) = true := by simpa using he
  simp [p11, pc, he2, frzA, apiZ]
theorem rdec_lerr (b : Bool) (o : Option (List UInt8)) (M : List CV) (e : Int) (n : Nd) (B : Heap) (hl : n.l.length = 32) (hr : n.r.length = 32)
    (pc : ∀ H, callX (cfg b) An 32 [.c (pV o)] H = some (.tup [.c (.sl 2 M), .c (.int .i64 0)], H))
    (lp : loopX 0 (p11_l0 b (callX (cfg b) An) 0) (rS o M 0) (dH nd0) = some (.ret [.c (pV o), .ov 0 [] 0, .c (.int .i64 e), .ov 1 [] 0], dH n ++ B)) :
    fnX (cfg b) An 11 [.c (pV o)] [] = some (.tup [.c apiZ, .c (.int .i64 e)], []) := by
  rw [fnX_eq, p11_eq]
  have zz : dI zeroL = [0, 0, 0, 0, 0, 0, 0, 0, 0, 0, 0, 0, 0, 0, 0, 0, 0, 0, 0, 0, 0, 0, 0, 0, 0, 0, 0, 0, 0, 0, 0, 0] := by decide
  have e1 : pV none = .nilsl := rfl
  have ll : (dI n.l).length = 32 := by rw [len_dI, hl]
  have lr : (dI n.r).length = 32 := by rw [len_dI, hr]
  simp only [rS, dH, nd0, Nd.cv, e1, zz, List.reduceReplicate] at lp
  simp (maxSteps := 1000000) [p11, pc, lp, ll, lr, frzA, apiZ]
/-- What a decoded node is. -/
inductive DecN : CV → Prop
  | z : DecN apiZ
  | n (n : Nd) (hl : n.l.length = 32) (hr : n.r.length = 32) : DecN n.cv
theorem tailV_N (o : Option (List UInt8)) (n : Nd) (hl : n.l.length = 32) (hr : n.r.length = 32) : DecN (tailV o n).1 := by
  unfold tailV
  split
  · split
    · exact .n n hl hr
    · exact .z
  · exact .z
theorem dec_both (b : Bool) (o : Option (List UInt8)) (hL : (pB o).length ≤ 9223372036854775807) :
    fnX (cfg b) An 10 [.c (pV o)] [] = some (.tup [.c (decV o).1, .c (.int .i64 (decV o).2)], []) ∧ fnX (cfg b) An 11 [.c (pV o)] [] = some (.tup [.c (decV o).1, .c (.int .i64 (decV o).2)], []) ∧ DecN (decV o).1 := by
  have pc := parse_call b o
  have rc := rparse_call b o hL
  obtain ⟨f1, f2⟩ := parseF_ok ((pB o).length + 1) [] (pB o) (by simp) (by intro q hq; cases hq)
  have hP : parseF ((pB o).length + 1) [] (pB o) = parseL (pB o) := rfl
  rw [hP] at f1 f2
  unfold decV
  generalize (parseL (pB o)).1 = its at *
  generalize (parseL (pB o)).2 = e at *
  by_cases he : e = 0
  · subst he
    rw [if_pos rfl]
    cases its with
    | nil =>
      have e0 : decF nd0 [] = (nd0, 0) := rfl
      rw [e0, if_pos rfl]
      refine ⟨dec_tailx b o [] .nilsl (fun H => by simp) nd0 rfl rfl pc ?_, rdec_tailx b o .nilsl nd0 rfl rfl rc ?_, tailV_N o nd0 rfl rfl⟩
      · rw [loopX_eq]
        have zz : dI zeroL = [0, 0, 0, 0, 0, 0, 0, 0, 0, 0, 0, 0, 0, 0, 0, 0, 0, 0, 0, 0, 0, 0, 0, 0, 0, 0, 0, 0, 0, 0, 0, 0] := by decide
        simp only [dH, nd0, Nd.cv, zz, List.reduceReplicate]
        simp [p10_l0]
      · rw [loopX_eq]
        have zz : dI zeroL = [0, 0, 0, 0, 0, 0, 0, 0, 0, 0, 0, 0, 0, 0, 0, 0, 0, 0, 0, 0, 0, 0, 0, 0, 0, 0, 0, 0, 0, 0, 0, 0] := by decide
        simp only [dH, nd0, Nd.cv, zz, List.reduceReplicate]
        simp [p11_l0]
    | cons p r =>
      have lp := dec_loop b o (p :: r) (by omega) f1 (p :: r) [] nd0 rfl rfl rfl
      have lq := rdec_loop b o (p :: r) (by omega) f1 (p :: r) [] nd0 rfl rfl rfl
      have z0 : ((([] : List It).length : Nat) : Int) = 0 := rfl
      rw [z0] at lp lq
      have ic : itsC (p :: r) = .sl 2 ((p :: r).map itC) := rfl
      rw [ic] at pc rc
      by_cases hd : (decF nd0 (p :: r)).2 = 0
      · rw [if_pos hd]
        rcases lp with ⟨_, hl, hr, lp⟩ | ⟨h1, _⟩
        · rcases lq with ⟨_, _, _, lq⟩ | ⟨h1, _⟩
          · exact ⟨dec_tailx b o ((p :: r).map itC) (.sl 2 ((p :: r).map itC)) (fun H => by simp) _ hl hr pc lp, rdec_tailx b o (.sl 2 ((p :: r).map itC)) _ hl hr rc lq, tailV_N o _ hl hr⟩
          · exact absurd hd h1
        · exact absurd hd h1
      · rw [if_neg hd]
        rcases lp with ⟨h1, _⟩ | ⟨_, n', B, hl, hr, lp⟩
        · exact absurd h1 hd
        · rcases lq with ⟨h1, _⟩ | ⟨_, n2, B2, hl2, hr2, lq⟩
          · exact absurd h1 hd
          · exact ⟨dec_lerr b o _ _ n' B hl hr pc lp, rdec_lerr b o _ _ n2 B2 hl2 hr2 rc lq, .z⟩
  · rw [if_neg he]
    exact ⟨dec_perr b o _ e he pc, rdec_perr b o _ e he rc, .z⟩
end Go.Fm

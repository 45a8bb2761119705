/-
  A part of the proof: PLaw12c.
-/
import Derived.Test.YtjmjijgnbjkpnaaDoorPLaw12b
set_option linter.all false
set_option autoImplicit true
/-
  Law 12, TreePlays: a call.
-/
set_option maxRecDepth 100000
set_option linter.unusedVariables false
set_option linter.unusedSimpArgs false
namespace Go.Fm
open Go Go.Proofs

theorem Put_key (b : Bool) (key : List UInt8) (w : CV) (hw : CV.size w = 1) (h2 : 96 < key.length) (t : Option Tn) :
    fnX (cfg b) An 36 [.c (tC t), .c (.sl 1 (bytesAV key)), .c w] [] = some (.tup [.c .nilp, .c (.int .i64 10)], []) := by
  rw [fnX_eq, p36_eq]
  have l1 : ((key.length : Int) == 0) = false := by simp only [beq_eq_false_iff_ne, ne_eq]; omega
  have l2 : (96 : Int) < (key.length : Int) := by omega
  simp only [tC]
  simp [p36, be28, l1, l2, h2]
theorem Put_val (b : Bool) (key : List UInt8) (v : Option (List UInt8)) (h1 : key ≠ []) (h2 : key.length ≤ 96) (hv : 256 < (pB v).length) (t : Option Tn) :
    fnX (cfg b) An 36 [.c (tC t), .c (.sl 1 (bytesAV key)), .c (pV v)] [] = some (.tup [.c .nilp, .c (.int .i64 3)], []) := by
  rw [fnX_eq, p36_eq]
  have l1 : ((key.length : Int) == 0) = false := by
    have := List.length_pos_iff.2 h1
    simp only [beq_eq_false_iff_ne, ne_eq]; omega
  have l2 : ¬ (96 : Int) < (key.length : Int) := by omega
  have l3 : (256 : Int) < ((pB v).length : Int) := by omega
  simp only [tC]
  simp [p36, be28, l1, l2, l3, hv]
def plG (a : ActL) (s : GS) : GS := if a.puts = true then (if 96 < a.key.length ∨ 256 < (pB a.val).length then s else gput a.key a.val s) else gcut a.key s
def brk (a : ActL) (n : Nat) : Prop := 60 < n ∨ (1000 : Int) < iAdd .i64 ((pB a.raw).length : Int) ((pB a.val).length : Int)
theorem pl_end (cf : CallFn) (o : Option (List ActL)) (t : Option Tn) : loopX 0 (p12_l0 true cf 0) (plS t o ((actsL o).length : Int)) [] = some (.exit 0 [.any, .c (tC t), .c (Tn.rpto (t.map Tn.norm))], []) := by
  rw [loopX_eq]
  simp [plS, p12_l0]
theorem pl_break (cf : CallFn) (o : Option (List ActL)) (pre rest : List ActL) (a : ActL) (h : actsL o = pre ++ a :: rest) (t : Option Tn) (hc : brk a pre.length) :
    loopX 0 (p12_l0 true cf 0) (plS t o (pre.length : Int)) [] = some (.exit 0 [.any, .c (tC t), .c (Tn.rpto (t.map Tn.norm))], [.var 48 (.c a.cv)]) := by
  have hl : pre.length < (actsL o).length := by rw [h]; simp
  have hi := mIdxS_acts o pre.length hl
  have hg : (actsL o).getD pre.length default = a := by rw [h]; simp [List.getD_eq_getElem?_getD]
  rw [hg] at hi
  unfold brk at hc
  generalize pre.length = n at *
  rw [loopX_eq]
  by_cases h1 : 60 < n
  · have h1I : (60 : Int) < (n : Int) := by omega
    simp [plS, p12_l0, hl, hi, h1I]
  · have h1I : ¬ (60 : Int) < (n : Int) := by omega
    have h2 := hc.resolve_left h1
    simp [plS, p12_l0, hl, hi, h1I, h2]

/-- Whatever follows a call. -/
theorem tail_any (key : List UInt8) (t : Option Tn) (hf : ∀ u, t = some u → u.fit) (hr : Rise (Tn.leaveso t)) (hs : Tn.szo t ≤ 10000) (o : Option (List ActL)) (n : Nat) (hn : n < 4000000000) (x : CV) (y z : List CV) (H : Heap) (hH : plH x y z H) :
    ∃ Hx, p12_t true (callX (cfg true) An) 0 (.c (tC t)) (.c (Tn.rpto (t.map Tn.norm))) (.c (.sl 1 (bytesAV key))) (.c (actsC o)) (.c (.int .i64 ((actsL o).length : Int))) (.c (.int .i64 (n : Int))) H =
      some (.cont (plS t o ((n : Int) + 1)), Hx) ∧ Away (plS t o ((n : Int) + 1)) Hx := by
  cases t with
  | none => exact tail_none key o n hn x y z H hH
  | some t => exact tail_some key t (hf t rfl) hr hs o n hn x y z H hH
theorem rput_norm (key : List UInt8) (v : Option (List UInt8)) (t : Option Tn) (ht : ∀ u, t = some u → u.sz ≤ 100000000000) :
    fnX (cfg true) An 41 [.c (Tn.rpto (t.map Tn.norm)), .c (.sl 1 (bytesAV key)), .c (.sl 1 (bytesAV (pB v)))] [] = some (.c (Tn.rpto ((some (Tn.puto key v t)).map Tn.norm)), []) := by
  have : Tn.rpto ((some (Tn.puto key v t)).map Tn.norm) = (Tn.puto key (some (pB v)) (t.map Tn.norm)).rpt := by rw [Option.map_some, Tn.norm_puto]; rfl
  rw [this]
  cases t with
  | none => exact rput_nil true key (some (pB v))
  | some u => exact rput_fn true key (some (pB v)) u.norm (by rw [Tn.norm_sz]; exact ht u rfl)
theorem v41 {b : Bool} {H : Heap} {vs : List AV} : callX (cfg b) An 41 vs H = cvw (fnX (cfg b) An 41) (handCs (cfg b) false H vs) := callX_v (prim_none (by decide))
end Go.Fm


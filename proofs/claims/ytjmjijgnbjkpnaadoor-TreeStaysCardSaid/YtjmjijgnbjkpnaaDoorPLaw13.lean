/-
  A part of the proof: PLaw13.
-/
import Derived.Test.YtjmjijgnbjkpnaaDoorPLaw14
import Derived.Test.YtjmjijgnbjkpnaaDoorPRefs
import Derived.Test.YtjmjijgnbjkpnaaDoorPFr
import Derived.Test.YtjmjijgnbjkpnaaDoorDLaw13
set_option linter.all false
set_option autoImplicit true
/-
  TreeStays: its loops.
-/
set_option maxRecDepth 100000
set_option linter.unusedVariables false
set_option linter.unusedSimpArgs false
namespace Go.Fm
open Go Go.Proofs
def u8C (ns : List Int) : List CV := ns.map (CV.int .u8)
theorem u8C_len (ns : List Int) : (u8C ns).length = ns.length := by simp [u8C]
theorem u8C_nth {ns : List Int} {i : Nat} (h : i < ns.length) : nthC (u8C ns) i = .int .u8 (ns.getD i 0) := by
  unfold u8C
  rw [nthC_map 0 h]
theorem u8C_set (ns : List Int) (i : Nat) (x : Int) : (u8C ns).set i (.int .u8 x) = u8C (ns.set i x) := by simp [u8C, List.map_set]
theorem u8C_bytes (l : List UInt8) : bytesAV l = u8C (dI l) := by simp [u8C, dI, bytesAV]
theorem pr25 {α : Type} {v : CV} {x : AV} {r : Option α} (h : okRow 51 2 0 [.c v]) : pieceR pc13_25 [.c v, x] r = r := pieceR_ok h
theorem pr34 {α : Type} {v : CV} {x : AV} {r : Option α} (h : okRow 66 68 0 [.c v]) : pieceR pc13_34 [.c v, x] r = r := pieceR_ok h
/-! CF -/
theorem x2_loop (b : Bool) (cf : CallFn) (T L U M : CV) (N I : Int) (R W : CV) (V : List CV) : ∀ (r : Nat) (ns : List Int) (j : Nat), j + r = ns.length → ns.length ≤ 1000000 →
    ∃ ms : List Int, ms.length = ns.length ∧ loopX 0 (p13_l2 b cf 0) [.c T, .c L, .ov 0 [] 0, .c U, .os 1, .os 2, .ov 3 [] 0, .c M, .c (.int .i64 N), .c (.int .i64 I), .c (.int .i64 (ns.length : Int)), .c (.int .i64 (j : Int))] [.var 41 (.c R), .row 5 1 (u8C ns), .row 5 1 V, .var 41 (.c W)] =
      some (.exit 2 [.c T, .c L, .ov 0 [] 0, .c U, .os 2, .ov 3 [] 0, .c M, .c (.int .i64 N), .c (.int .i64 I)], [.var 41 (.c R), .row 5 1 (u8C ms), .row 5 1 V, .var 41 (.c W)])
  | 0, ns, j, h, hm => by
    refine ⟨ns, rfl, ?_⟩
    have hj : ns.length = j := by omega
    rw [loopX_eq]
    simp [p13_l2, hj]
  | r + 1, ns, j, h, hm => by
    have hj : j < ns.length := by omega
    have ha := idx_add j (by omega)
    obtain ⟨ms, h1, h2⟩ := x2_loop b cf T L U M N I R W V r (ns.set j (iXor .u8 (ns.getD j 0) 255)) (j + 1) (by simp; omega) (by simpa using hm)
    refine ⟨ms, by simpa using h1, ?_⟩
    have hn := u8C_nth hj
    have hs := u8C_set ns j (iXor .u8 (ns.getD j 0) 255)
    have hl := u8C_len ns
    rw [List.length_set, ← hs] at h2
    rw [show ((j + 1 : Nat) : Int) = (j : Int) + 1 from rfl] at h2
    rw [loopX_eq]
    generalize u8C ns = E at *
    generalize ns.getD j 0 = x at *
    generalize ns.length = n at *
    simp [p13_l2, hj, hn, hl, ha]
    exact h2
theorem x4_loop (b : Bool) (cf : CallFn) (T L U M : CV) (N I : Int) (R W : CV) : ∀ (r : Nat) (ns : List Int) (j : Nat), j + r = ns.length → ns.length ≤ 1000000 →
    ∃ ms : List Int, ms.length = ns.length ∧ loopX 0 (p13_l4 b cf 0) [.c T, .c L, .ov 0 [] 0, .c U, .os 1, .ov 2 [] 0, .c M, .c (.int .i64 N), .c (.int .i64 I), .c (.int .i64 (ns.length : Int)), .c (.int .i64 (j : Int))] [.var 41 (.c R), .row 5 1 (u8C ns), .var 41 (.c W)] =
      some (.exit 4 [.c T, .c L, .ov 0 [] 0, .c U, .ov 2 [] 0, .c M, .c (.int .i64 N), .c (.int .i64 I)], [.var 41 (.c R), .row 5 1 (u8C ms), .var 41 (.c W)])
  | 0, ns, j, h, hm => by
    refine ⟨ns, rfl, ?_⟩
    have hj : ns.length = j := by omega
    rw [loopX_eq]
    simp [p13_l4, hj]
  | r + 1, ns, j, h, hm => by
    have hj : j < ns.length := by omega
    have ha := idx_add j (by omega)
    obtain ⟨ms, h1, h2⟩ := x4_loop b cf T L U M N I R W r (ns.set j (iXor .u8 (ns.getD j 0) 255)) (j + 1) (by simp; omega) (by simpa using hm)
    refine ⟨ms, by simpa using h1, ?_⟩
    have hn := u8C_nth hj
    have hs := u8C_set ns j (iXor .u8 (ns.getD j 0) 255)
    have hl := u8C_len ns
    rw [List.length_set, ← hs] at h2
    rw [show ((j + 1 : Nat) : Int) = (j : Int) + 1 from rfl] at h2
    rw [loopX_eq]
    generalize u8C ns = E at *
    generalize ns.getD j 0 = x at *
    generalize ns.length = n at *
    simp [p13_l4, hj, hn, hl, ha]
    exact h2
end Go.Fm

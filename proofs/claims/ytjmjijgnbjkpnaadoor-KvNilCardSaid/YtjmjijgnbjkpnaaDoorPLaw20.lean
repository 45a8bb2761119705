/-
  A part of the proof: PLaw20.
-/
import Derived.Test.YtjmjijgnbjkpnaaDoorPKv
import Derived.Test.YtjmjijgnbjkpnaaDoorDMisc2
set_option linter.all false
set_option autoImplicit true
/-
  Law 20, KvNil.
-/
set_option maxRecDepth 100000
set_option linter.unusedVariables false
set_option linter.unusedSimpArgs false
namespace Go.Fm
open Go Go.Proofs

theorem kvget_none (b : Bool) (x : CV) : fnX (cfg b) An 80 [.c .nilp, .c x] [] = some (.tup [.c .nilsl, .c (.bool false)], []) := by
  rw [fnX_eq, p80_eq]
  simp [p80, be115]
theorem kvput_none (b : Bool) (x y : CV) : fnX (cfg b) An 76 [.c .nilp, .c x, .c y] [] = some (.c (.int .i64 1), []) := by
  rw [fnX_eq, p76_eq]
  simp [p76, be115]
theorem kvcut_none (b : Bool) (x : CV) : fnX (cfg b) An 81 [.c .nilp, .c x] [] = some (.c (.bool false), []) := by
  rw [fnX_eq, p81_eq]
  simp [p81, be115]
theorem kvNil_fn (b : Bool) (k v : Option (List UInt8)) : fnX (cfg b) An 20 [.c (pV k), .c (pV v)] [] = some (.c (.bool true), []) := by
  rw [fnX_eq, p20_eq]
  have c0 := awake16_call b
  have g : ∀ H, callX (cfg b) An 80 [.c .nilp, .c (pV k)] H = _ := callX_pure (kvget_none b (pV k)) rfl rfl (prim_none (by decide))
  have p : ∀ H, callX (cfg b) An 76 [.c .nilp, .c (pV k), .c (pV v)] H = _ := callX_pure (kvput_none b (pV k) (pV v)) rfl rfl (prim_none (by decide))
  have c : ∀ H, callX (cfg b) An 81 [.c .nilp, .c (pV k)] H = _ := callX_pure (kvcut_none b (pV k)) rfl rfl (prim_none (by decide))
  have l : ∀ H, callX (cfg b) An 77 [.c .nilp, .c (pV k)] H = _ := callX_pure (klist_none b k) rfl rfl (prim_none (by decide))
  have t : ∀ H, callX (cfg b) An 79 [.c .nilp] H = _ := callX_pure (ktree_none b) rfl rfl (prim_none (by decide))
  have r := Root_call b none
  have ec := empty_call b
  have hn : Tn.hasho none = shaW [] := rfl
  rw [← hn] at ec
  have hl : (dI (Tn.hasho none)).length = 32 := by rw [len_dI]; exact shaW_len _
  generalize Tn.hasho none = R at *
  simp [p20, c0, g, p, c, l, t, r, ec, be41, hl]
end Go.Fm


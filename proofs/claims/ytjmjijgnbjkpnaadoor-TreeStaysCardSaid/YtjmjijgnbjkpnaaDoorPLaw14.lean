/-
  A part of the proof: PLaw14.
-/
import Derived.Test.YtjmjijgnbjkpnaaDoorPGrow
import Derived.Test.YtjmjijgnbjkpnaaDoorPTreeO
set_option linter.all false
set_option autoImplicit true
/-
  TreeNil: what the law's function gives.
-/
set_option maxRecDepth 100000
set_option linter.unusedVariables false
set_option linter.unusedSimpArgs false
namespace Go.Fm
open Go Go.Proofs
section
variable {b lit : Bool} {x y : AV} {H : Heap}
theorem eqg41 : (cfg b).P.eqGuardType (cfg b).P.depth 41 = false := by kernel_rfl
theorem aeq41 : aeq (cfg b).P 12 41 x y = arrEq 32 .u8 x y := aeq_arr (e := 5) (by kernel_rfl) (by kernel_rfl) (by kernel_rfl) (by kernel_rfl) (by decide)
theorem be41 (h : isIS x y = false) : mBin (cfg b) 41 lit .eql x y H = eqH H false (arrEq 32 .u8 x y) := by rw [mBin_eqg eqg41 h, aeq41]
theorem bne41 (h : isIS x y = false) : mBin (cfg b) 41 lit .neq x y H = eqH H true (arrEq 32 .u8 x y) := by rw [mBin_neg eqg41 h, aeq41]
end
/-- A node of the document's. -/
def ndC (k v : Option (List UInt8)) (h s : Int) (x y : List Int) : CV := .agg [pV k, pV v, .int .i64 h, .int .u64 s, .arr 32 .u8 x, .arr 32 .u8 y]
theorem api_nd (t : Tn) : t.api = ndC (some t.key) t.val (t.ht : Int) (t.sz : Int) (dI t.lh) (dI t.rh) := rfl
/-! ### Awake -/
theorem new_call (b : Bool) (H : Heap) : callX (cfg b) An 26 [] H = some (.c (tC none), H) := callX_pure (new_tree b) rfl rfl (prim_none (by decide)) H
section
variable {b : Bool} {H : Heap} {vs : List AV}
theorem cx36 : callX (cfg b) An 36 vs H = cvw (fnX (cfg b) An 36) (handCs (cfg b) true H vs) := callX_v (prim_none (by decide))
theorem cx45 : callX (cfg b) An 45 vs H = cvw (fnX (cfg b) An 45) (handCs (cfg b) false H vs) := callX_v (prim_none (by decide))
theorem cx47 : callX (cfg b) An 47 vs H = cvw (fnX (cfg b) An 47) (handCs (cfg b) false H vs) := callX_v (prim_none (by decide))
theorem cx61 : callX (cfg b) An 61 vs H = cvw (fnX (cfg b) An 61) (handCs (cfg b) true H vs) := callX_v (prim_none (by decide))
theorem cx63 : callX (cfg b) An 63 vs H = cvw (fnX (cfg b) An 63) (handCs (cfg b) false H vs) := callX_v (prim_none (by decide))
end
def aw1 : Tn := .leaf [97] none
def aw2 : Tn := Tn.put [98] none aw1
def aw3 : Tn := Tn.put [99] none aw2
def aw4 : Tn := Tn.put [100] none aw3
theorem awake05 (b : Bool) : fnX (cfg b) An 38 [] [] = some (.c (.bool true), []) := by
  rw [fnX_eq, p38_eq]
  have n := new_call b
  have small : ∀ t : Tn, t.sz ≤ 100 → ∀ u, some t = some u → u.sz ≤ 100000000000 := fun t ht u hu => by obtain rfl := Option.some.inj hu; omega
  have q1 := PutN_fn b [97] (by simp) (by simp) none (by simp)
  have q2 := PutN_fn b [98] (by simp) (by simp) (some aw1) (small _ (by decide))
  have q3 := PutN_fn b [99] (by simp) (by simp) (some aw2) (small _ (by decide))
  have q4 := PutN_fn b [100] (by simp) (by simp) (some aw3) (small _ (by decide))
  have e1 : Tn.puto [97] none none = aw1 := rfl
  have e2 : Tn.puto [98] none (some aw1) = aw2 := rfl
  have e3 : Tn.puto [99] none (some aw2) = aw3 := rfl
  have e4 : Tn.puto [100] none (some aw3) = aw4 := rfl
  rw [e1] at q1
  rw [e2] at q2
  rw [e3] at q3
  rw [e4] at q4
  have hf : aw4.fit := by
    have h1 : aw1.fit := ⟨by decide, by decide⟩
    exact Tn.fit_put (by decide) (by decide) _ (Tn.fit_put (by decide) (by decide) _ (Tn.fit_put (by decide) (by decide) _ h1))
  have hN := Node_root b aw4 hf
  have hG := Get_fn b [100] (some aw4) (fun u hu => by obtain rfl := Option.some.inj hu; exact hf)
  have g1 : Tn.get [100] (some aw4) = some none := by decide
  have hL := Len_fn b (some aw4) (by decide)
  have l1 : Tn.szo (some aw4) = 4 := by decide
  have a1 : aw4.ht = 2 := by decide
  have a2 : aw4.sz = 4 := by decide
  have a3 : aw4.key = [99] := by decide
  rw [g1] at hG
  rw [l1] at hL
  rw [api_nd, a1, a2, a3] at hN
  have i1 : iAdd .i64 0 1 = 1 := by decide
  have i2 : iAdd .i64 1 1 = 2 := by decide
  have i3 : iAdd .i64 2 1 = 3 := by decide
  have i4 : iAdd .i64 3 1 = 4 := by decide
  generalize aw1 = A1 at *
  generalize aw2 = A2 at *
  generalize aw3 = A3 at *
  generalize hA : aw4 = A4 at *
  have h1m : ∀ x : UInt8, (⟨#[x]⟩ : ByteArray).size ≤ maxLen := fun x => big_max (n := 1) (by decide)
  have e : loopX 0 (p38_l0 b (callX (cfg b) An) 0) [.c (tC none), .os 0, .c (.int .i64 4), .c (.int .i64 0)] [.row 9 1 [.str ⟨#[97]⟩, .str ⟨#[98]⟩, .str ⟨#[99]⟩, .str ⟨#[100]⟩]] = some (.exit 0 [.c (tC (some A4))], [.row 9 1 [.str ⟨#[97]⟩, .str ⟨#[98]⟩, .str ⟨#[99]⟩, .str ⟨#[100]⟩]]) := by
    have q1' : fnX (cfg b) An 36 [.c (tC none), .os 0, .c .nilsl] [.row 5 1 [.int .u8 97]] = some (.tup [.c (tC (some A1)), .c (.int .i64 0)], [.row 5 1 [.int .u8 97]]) := q1
    have q2' : fnX (cfg b) An 36 [.c (tC (some A1)), .os 0, .c .nilsl] [.row 5 1 [.int .u8 98]] = some (.tup [.c (tC (some A2)), .c (.int .i64 0)], [.row 5 1 [.int .u8 98]]) := q2
    have q3' : fnX (cfg b) An 36 [.c (tC (some A2)), .os 0, .c .nilsl] [.row 5 1 [.int .u8 99]] = some (.tup [.c (tC (some A3)), .c (.int .i64 0)], [.row 5 1 [.int .u8 99]]) := q3
    have q4' : fnX (cfg b) An 36 [.c (tC (some A3)), .os 0, .c .nilsl] [.row 5 1 [.int .u8 100]] = some (.tup [.c (tC (some A4)), .c (.int .i64 0)], [.row 5 1 [.int .u8 100]]) := q4
    rw [loopX_eq]
    simp [p38_l0, nthC, bytesAV, cx36, q1', i1, h1m]
    rw [loopX_eq]
    simp [p38_l0, nthC, bytesAV, cx36, q2', i2, h1m]
    rw [loopX_eq]
    simp [p38_l0, nthC, bytesAV, cx36, q3', i3, h1m]
    rw [loopX_eq]
    simp [p38_l0, nthC, bytesAV, cx36, q4', i4, h1m]
    rw [loopX_eq]
    simp [p38_l0]
  have hG' : fnX (cfg b) An 63 [.c (tC (some A4)), .c (.sl 1 [.int .u8 100])] [] = some (.tup [.c .nilsl, .c (.bool true)], []) := hG
  have hk : ∀ H : Heap, elemsOf H 1 (.c (pV (some [99]))) = some (bytesAV [99]) := fun H => elemsOf_pV H _
  simp only [ndC] at hN
  simp [p38, n, e, cx45, hN, cx63, hG', cx47, hL, BA_toList, pB]
theorem awake05_call (b : Bool) (H : Heap) : callX (cfg b) An 38 [] H = some (.c (.bool true), H) := callX_pure (awake05 b) rfl rfl (prim_none (by decide)) H
end Go.Fm

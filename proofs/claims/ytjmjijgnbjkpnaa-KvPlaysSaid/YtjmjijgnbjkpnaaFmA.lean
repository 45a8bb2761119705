/-
  A part of the proof: FmA.
-/
import Derived.Calls
import Derived.Orders
import Derived.Laws.Sem
import Derived.Laws.World
import Derived.Laws.Rows
import Derived.Laws.Build
import Derived.Below
import Derived.Laws.CopyRow
import Derived.ChangeKeysEq
import Derived.Laws.BytesArg
import Derived.Laws.BytesString
import Derived.Lib.ConvBytes
import Derived.Laws.AppendOwn
/-
  The abstract values of my interpreter, and what they say of a world. (Definitions, and that what they say lives on.)
-/
set_option linter.unusedSimpArgs false
set_option linter.unusedVariables false
namespace Go.Fm
open Go
/-- A value by its content: what can't change any more. -/
inductive CV where
  | bool (b : Bool)
  | int (k : IntKind) (n : Int)
  | str (s : ByteArray)
  | nilp | nilsl | nilmap | nilif | nilfn
  | ptr (root : CV) (path : List Nat) (off : Nat)
  | sl (sz : Nat) (es : List CV)
  | agg (fs : List CV)
  | arr (n : Nat) (k : IntKind) (ns : List Int)
  | iface (t : TypeId) (v : CV)
  | fn (f : FuncId)
  | frs (es : List CV)
  deriving Inhabited
/-- A value of a running call: content, or what it owns. -/
inductive AV where
  | c (v : CV)
  | ov (id : Nat) (path : List Nat) (off : Nat)
  | os (id : Nat)
  | oe (id i : Nat) (path : List Nat) (off : Nat)
  | agg (l : List AV)
  | tup (l : List AV)
  | fn (f : FuncId) (cap : List AV)
  | mp (id : Nat)
  | any
  deriving Inhabited
/-- A block that a call owns, or owned. -/
inductive Blk where
  | var (t : TypeId) (v : AV)
  | fvar (t : TypeId) (v : CV)
  | row (t : TypeId) (sz : Nat) (es : List CV)
  | frow (t : TypeId) (sz : Nat) (es : List CV)
  | mp (es : List (CV × CV))
  | dead
  deriving Inhabited
/-- Are such a block's cells there to stay? -/
def Blk.ok : Blk → Bool
  | .var .. | .row .. | .mp .. => false
  | _ => true
mutual
def CV.size : CV → Nat
  | .agg fs => CV.sizes fs
  | .arr n _ _ => n
  | _ => 1
def CV.sizes : List CV → Nat
  | [] => 0
  | f :: fs => f.size + CV.sizes fs
end
mutual
def AV.size : AV → Nat
  | .c v => v.size
  | .agg l => AV.sizes l
  | _ => 1
def AV.sizes : List AV → Nat
  | [] => 0
  | f :: fs => f.size + AV.sizes fs
end
def CV.isAgg : CV → Bool
  | .agg _ | .arr .. => true
  | _ => false
def AV.isAgg : AV → Bool
  | .c v => v.isAgg
  | .agg _ => true
  | _ => false
/-- These cells lie here, to stay. -/
def Here (w : World) (S : Nat → Nat → Prop) (b o : Nat) (cs : List Value) : Prop :=
  ∀ i v, cs[i]? = some v → w.cell? ⟨b, o + i, none⟩ = some v ∧ S b (o + i)
mutual
/-- Cells that hold a content. -/
inductive RC (w : World) (S : Nat → Nat → Prop) : List Value → CV → Prop
  | bool (b : Bool) : RC w S [.bool b] (.bool b)
  | int (k : IntKind) (n : Int) : RC w S [.int k n] (.int k n)
  | str (s : ByteArray) : RC w S [.string s] (.str s)
  | nilp : RC w S [.pointer none] .nilp
  | nilsl : RC w S [.slice none 0 0] .nilsl
  | nilmap : RC w S [.map none] .nilmap
  | nilif : RC w S [.nilIface] .nilif
  | nilfn : RC w S [.nilFunc] .nilfn
  | ptr (b o off : Nat) (path : List Nat) (root : CV) (cs : List Value) (h : Here w S b o cs) (hr : RC w S cs root) :
      RC w S [.pointer (some ⟨b, o + off, none⟩)] (.ptr root path off)
  | sl (b o cap sz : Nat) (es : List CV) (cs : List Value) (h : Here w S b o cs) (hr : RL w S sz cs es) (hc : es.length ≤ cap) (hm : cap ≤ maxLen) :
      RC w S [.slice (some ⟨b, o, none⟩) es.length cap] (.sl sz es)
  | sl0 (sz : Nat) (a : Option Addr) (cap : Nat) (hm : cap ≤ maxLen) : RC w S [.slice a 0 cap] (.sl sz [])
  | frs (b o cap : Nat) (es : List CV) (cs : List Value) (h : Here w S b o cs) (hr : RL w S 1 cs es) (hc : es.length ≤ cap) (hm : cap ≤ maxLen)
      (hu : ∀ i, i < es.length → w.frozen? ⟨b, o + i, none⟩ = false) (hs : ∀ q, S b q) : RC w S [.slice (some ⟨b, o, none⟩) es.length cap] (.frs es)
  | frs0 (a : Option Addr) (cap : Nat) (hm : cap ≤ maxLen) : RC w S [.slice a 0 cap] (.frs [])
  | agg (cs : List Value) (fs : List CV) (h : RF w S cs fs) : RC w S cs (.agg fs)
  | arr (n : Nat) (k : IntKind) (ns : List Int) (h : ns.length = n) : RC w S (ns.map (.int k)) (.arr n k ns)
  | iface (t : TypeId) (v : Value) (cv : CV) (h : RC w S v.cells.toList cv) (hg : (∃ cs, v = .agg cs) ↔ cv.isAgg = true) : RC w S [.iface t v] (.iface t cv)
  | fn (f : FuncId) : RC w S [.func (.func f) #[] #[]] (.fn f)
/-- Fields, one behind the other. -/
inductive RF (w : World) (S : Nat → Nat → Prop) : List Value → List CV → Prop
  | nil : RF w S [] []
  | cons (c cs : List Value) (f : CV) (fs : List CV) (h : RC w S c f) (hs : RF w S cs fs) : RF w S (c ++ cs) (f :: fs)
/-- Elements of one size. -/
inductive RL (w : World) (S : Nat → Nat → Prop) : Nat → List Value → List CV → Prop
  | nil (sz : Nat) : RL w S sz [] []
  | cons (sz : Nat) (c cs : List Value) (f : CV) (fs : List CV) (hl : c.length = sz) (h : RC w S c f) (hs : RL w S sz cs fs) : RL w S sz (c ++ cs) (f :: fs)
end
/-- From the one world to the other what was to stay has stayed. -/
def Stays (w : World) (S : Nat → Nat → Prop) (w' : World) (S' : Nat → Nat → Prop) : Prop :=
  ∀ b o v, w.cell? ⟨b, o, none⟩ = some v → S b o → w'.cell? ⟨b, o, none⟩ = some v ∧ S' b o ∧ (w.frozen? ⟨b, o, none⟩ = false → w'.frozen? ⟨b, o, none⟩ = false) ∧ ((∀ q, S b q) → ∀ q, S' b q)
theorem Stays.refl (w : World) (S : Nat → Nat → Prop) : Stays w S w S := fun _ _ _ h hs => ⟨h, hs, fun h => h, fun h => h⟩
theorem Stays.trans {w w' w'' : World} {S S' S'' : Nat → Nat → Prop} (h : Stays w S w' S') (k : Stays w' S' w'' S'') : Stays w S w'' S'' :=
  fun b o v hc hs => let ⟨h1, h2, h3, h4⟩ := h b o v hc hs; let ⟨k1, k2, k3, k4⟩ := k b o v h1 h2; ⟨k1, k2, fun x => k3 (h3 x), fun x => k4 (h4 x)⟩
theorem Here.stays {w w' : World} {S S' : Nat → Nat → Prop} {b o : Nat} {cs : List Value} (h : Here w S b o cs) (k : Stays w S w' S') : Here w' S' b o cs :=
  fun i v hv => let ⟨h1, h2⟩ := h i v hv; let ⟨k1, k2, _, _⟩ := k _ _ _ h1 h2; ⟨k1, k2⟩
theorem RL.length' {w : World} {S : Nat → Nat → Prop} {cs : List Value} {v : List CV} (h : RL w S 1 cs v) : cs.length = v.length := by
  induction v generalizing cs with
  | nil => cases h; simp
  | cons f fs ih => cases h with | cons _ c cs _ _ hl h hs => simp [hl, ih hs, Nat.add_comm]
mutual
theorem RC.stays {w w' : World} {S S' : Nat → Nat → Prop} (k : Stays w S w' S') {cs : List Value} {v : CV} (h : RC w S cs v) : RC w' S' cs v := by
  cases h with
  | bool b => exact .bool b
  | int k n => exact .int k n
  | str s => exact .str s
  | nilp => exact .nilp
  | nilsl => exact .nilsl
  | nilmap => exact .nilmap
  | nilif => exact .nilif
  | nilfn => exact .nilfn
  | ptr b o off path root cs h hr => exact .ptr b o off path root cs (h.stays k) (RC.stays k hr)
  | sl b o cap sz es cs h hr hc hm => exact .sl b o cap sz es cs (h.stays k) (RL.stays k hr) hc hm
  | sl0 sz a cap hm => exact .sl0 sz a cap hm
  | frs b o cap es cs h hr hc hm hu hs =>
    cases es with
    | nil => exact .frs0 _ cap hm
    | cons e es =>
      have hl := RL.length' hr
      have h0 : 0 < cs.length := by rw [hl]; simp
      obtain ⟨k1, k2⟩ := h 0 cs[0] (List.getElem?_eq_getElem h0)
      refine .frs b o cap (e :: es) cs (h.stays k) (RL.stays k hr) hc hm (fun i hi => ?_) ((k _ _ _ k1 k2).2.2.2 hs)
      have hi2 : i < cs.length := by rw [hl]; simpa using hi
      obtain ⟨m1, m2⟩ := h i cs[i] (List.getElem?_eq_getElem hi2)
      exact (k _ _ _ m1 m2).2.2.1 (hu i hi)
  | frs0 a cap hm => exact .frs0 a cap hm
  | agg cs fs h => exact .agg _ fs (RF.stays k h)
  | arr n kk ns h => exact .arr n kk ns h
  | iface t v cv h hg => exact .iface t v cv (RC.stays k h) hg
  | fn f => exact .fn f
theorem RF.stays {w w' : World} {S S' : Nat → Nat → Prop} (k : Stays w S w' S') {cs : List Value} {v : List CV} (h : RF w S cs v) : RF w' S' cs v := by
  cases h with
  | nil => exact .nil
  | cons c cs f fs h hs => exact .cons c cs f fs (RC.stays k h) (RF.stays k hs)
theorem RL.stays {w w' : World} {S S' : Nat → Nat → Prop} (k : Stays w S w' S') {sz : Nat} {cs : List Value} {v : List CV} (h : RL w S sz cs v) : RL w' S' sz cs v := by
  cases h with
  | nil => exact .nil _
  | cons _ c cs f fs hl h hs => exact .cons _ c cs f fs hl (RC.stays k h) (RL.stays k hs)
end
mutual
theorem RC.length {w : World} {S : Nat → Nat → Prop} {cs : List Value} {v : CV} (h : RC w S cs v) : cs.length = v.size := by
  cases h with
  | agg cs fs h => simp only [CV.size]; exact RF.length h
  | arr n k ns h => simpa [CV.size] using h
  | _ => simp [CV.size]
theorem RF.length {w : World} {S : Nat → Nat → Prop} {cs : List Value} {v : List CV} (h : RF w S cs v) : cs.length = CV.sizes v := by
  cases h with
  | nil => simp [CV.sizes]
  | cons c cs f fs h hs => simp [CV.sizes, RC.length h, RF.length hs]
end
theorem RL.length {w : World} {S : Nat → Nat → Prop} {sz : Nat} {cs : List Value} {v : List CV} (h : RL w S sz cs v) : cs.length = v.length * sz := by
  induction v generalizing cs with
  | nil => cases h; simp
  | cons f fs ih => cases h with | cons _ c cs _ _ hl h hs => simp [hl, ih hs, Nat.add_mul, Nat.add_comm]
end Go.Fm
/-
  The abstract interpreter: what the loaded code does to abstract values. (Definitions alone.)
-/
set_option linter.unusedSimpArgs false
set_option linter.unusedVariables false
namespace Go.Fm
open Go
abbrev Heap := List Blk
abbrev Env := List AV
def AV.undef : AV := .tup []
/-- What the interpreter is told of a program besides its text. -/
structure Cfg where
  P : Program
  gl : Nat → Option CV
  frz : TypeId → Bool
  keepA : FuncId → Bool
  keepR : FuncId → Bool
  prim : FuncId → Option (List AV → Heap → Option (AV × Heap))
/-- Content out of a literal of one cell. -/
def abs1 : Value → Option CV
  | .bool b => some (.bool b)
  | .int k n => some (.int k n)
  | .string s => some (.str s)
  | .pointer none => some .nilp
  | .slice none 0 0 => some .nilsl
  | .map none => some .nilmap
  | .nilIface => some .nilif
  | .nilFunc => some .nilfn
  | _ => none
def absInts (k : IntKind) : List Value → Option (List Int)
  | [] => some []
  | .int k' n :: vs => if k' = k then (absInts k vs).map (n :: ·) else none
  | _ => none
/-- A struct's fields, one behind the other, each by its type. -/
def absFields (P : Program) (rec : TypeId → List Value → Option CV) : List Field → List Value → Option (List CV)
  | [], [] => some []
  | [], _ :: _ => none
  | f :: fs, cs =>
    match rec f.type (cs.take (P.cellsOf f.type)), absFields P rec fs (cs.drop (P.cellsOf f.type)) with
    | some v, some vs => some (v :: vs)
    | _, _ => none
/-- Content out of literal cells, by a type. -/
def absT (P : Program) : Nat → TypeId → List Value → Option CV
  | 0, _, _ => none
  | d + 1, t, cs =>
    match P.underlying t with
    | some (.struct fields) => (absFields P (absT P d) fields.toList cs).map .agg
    | some (.array n e) =>
      match P.underlying e with
      | some (.int k) => match absInts k cs with
        | some ns => if ns.length = n then some (.arr n k ns) else none
        | none => none
      | _ => none
    | some _ => match cs with
      | [v] => abs1 v
      | _ => none
    | none => none
def absV (P : Program) (t : TypeId) : Value → Option AV
  | .agg cs => match absT P 12 t cs.toList with
    | some (.agg l) => some (.c (.agg l))
    | some (.arr n k ns) => some (.c (.arr n k ns))
    | _ => none
  | .tuple vs => if vs.size = 0 then some AV.undef else none
  | v => (abs1 v).map .c
def ev (C : Cfg) (e : Env) (t : TypeId) : Operand → Option AV
  | .tmp i => e[i]?
  | .const v => absV C.P t v
  | .global g => (C.gl g).map fun v => .c (.ptr v [] 0)
  | .func f => some (.c (.fn f))
/-! ### Lists of values that are all content -/
def allC : List AV → Option (List CV)
  | [] => some []
  | .c v :: l => match allC l with
    | some vs => some (v :: vs)
    | none => none
  | _ :: _ => none
def mkAgg (l : List AV) : AV := match allC l with
  | some vs => .c (.agg vs)
  | none => .agg l
/-! ### Ways into a value -/
def getC : CV → List Nat → Option CV
  | v, [] => some v
  | .agg fs, i :: p => match fs[i]? with
    | some f => getC f p
    | none => none
  | .arr _ k ns, [i] => if i < ns.length then some (.int k (ns.getD i 0)) else none
  | _, _ :: _ => none
def offC : CV → List Nat → Option Nat
  | _, [] => some 0
  | .agg fs, i :: p => match fs[i]? with
    | some f => (offC f p).map (CV.sizes (fs.take i) + ·)
    | none => none
  | .arr _ _ ns, [i] => if i < ns.length then some i else none
  | _, _ :: _ => none
def AV.fields : AV → Option (List AV)
  | .agg l => some l
  | .c (.agg fs) => some (fs.map .c)
  | _ => none
def getA : AV → List Nat → Option AV
  | .c v, p => (getC v p).map .c
  | v, [] => some v
  | .agg l, i :: p => match l[i]? with
    | some f => getA f p
    | none => none
  | _, _ :: _ => none
def offA : AV → List Nat → Option Nat
  | .c v, p => offC v p
  | _, [] => some 0
  | .agg l, i :: p => match l[i]? with
    | some f => (offA f p).map (AV.sizes (l.take i) + ·)
    | none => none
  | _, _ :: _ => none
/-- Another value at the end of a way. -/
def setA : List Nat → AV → AV → Option AV
  | [], _, x => some x
  | i :: p, .agg l, x => match l[i]? with
    | some f => (setA p f x).map fun y => mkAgg (l.set i y)
    | none => none
  | i :: p, .c (.agg fs), x => match fs[i]? with
    | some f => (setA p (.c f) x).map fun y => mkAgg ((fs.map .c).set i y)
    | none => none
  | [i], .c (.arr n k ns), .c (.int k' x) => if k' = k ∧ i < ns.length then some (.c (.arr n k (ns.set i x))) else none
  | _ :: _, _, _ => none
/-- Does a value fit a type's variable? -/
def fits (P : Program) (t : TypeId) (sz : Nat) (agg : Bool) : Bool :=
  match P.underlying t with
  | some (.struct _) | some (.array _ _) => agg && (P.info? t).isSome && sz == P.cellsOf t
  | some _ => !agg && (P.info? t).isSome && sz == 1 && P.cellsOf t == 1
  | none => false
/-! ### What an operation leaves -/
inductive Dl where
  | same
  | new (b : Blk)
  | set (id : Nat) (b : Blk)
  | setNew (id : Nat) (b b' : Blk)
  | all (H : Heap)
def Dl.on (H : Heap) : Dl → Heap
  | .same => H
  | .new b => H ++ [b]
  | .set id b => H.set id b
  | .setNew id b b' => H.set id b ++ [b']
  | .all H' => H'
def elemOf (P : Program) (t : TypeId) : Option TypeId := match P.underlying t with
  | some (.slice e) => some e
  | _ => none
/-- A row that can be read. -/
def rowOf (H : Heap) (id : Nat) : Option (TypeId × Nat × List CV) := match H[id]? with
  | some (.row t sz es) => some (t, sz, es)
  | some (.frow t sz es) => some (t, sz, es)
  | _ => none
/-- The elements that a slice's value reads. -/
def elemsOf (H : Heap) (sz : Nat) : AV → Option (List CV)
  | .c (.sl s es) => if s = sz then some es else none
  | .c .nilsl => some []
  | .os id => match rowOf H id with
    | some (_, s, es) => if s = sz then some es else none
    | none => none
  | _ => none
def intOf : AV → Option (IntKind × Int)
  | .c (.int k n) => some (k, n)
  | _ => none
def aload (C : Cfg) (H : Heap) (t : TypeId) : AV → Option AV
  | .c (.ptr root path off) =>
    match getC root path, offC root path with
    | some v, some o => if o = off ∧ fits C.P t v.size v.isAgg = true then some (.c v) else none
    | _, _ => none
  | .ov id path off =>
    match H[id]? with
    | some (.var _ v) => match getA v path, offA v path with
      | some x, some o => if o = off ∧ fits C.P t x.size x.isAgg = true then some x else none
      | _, _ => none
    | some (.fvar _ v) => match getC v path, offC v path with
      | some x, some o => if o = off ∧ fits C.P t x.size x.isAgg = true then some (.c x) else none
      | _, _ => none
    | _ => none
  | .oe id i path off =>
    match rowOf H id with
    | some (_, _, es) => match getC (es.getD i .nilp) path, offC (es.getD i .nilp) path with
      | some x, some o => if o = off ∧ i < es.length ∧ fits C.P t x.size x.isAgg = true then some (.c x) else none
      | _, _ => none
    | none => none
  | _ => none
def astore (C : Cfg) (H : Heap) (t : TypeId) (a x : AV) : Option Dl :=
  match a with
  | .ov id path off =>
    match H[id]? with
    | some (.var u v) => match getA v path, offA v path, setA path v x with
      | some old, some o, some v' => if o = off ∧ fits C.P t x.size x.isAgg = true ∧ old.size = x.size then some (.set id (.var u v')) else none
      | _, _, _ => none
    | _ => none
  | .oe id i path off =>
    match H[id]? with
    | some (.row u sz es) => match offC (es.getD i .nilp) path, setA path (.c (es.getD i .nilp)) x, getC (es.getD i .nilp) path with
      | some o, some (.c v'), some old => if o = off ∧ i < es.length ∧ fits C.P t x.size x.isAgg = true ∧ old.size = x.size then some (.set id (.row u sz (es.set i v'))) else none
      | _, _, _ => none
    | _ => none
  | _ => none
def afieldAddr (C : Cfg) (s : TypeId) (f : Nat) (x : AV) : Option AV :=
  match C.P.underlying s with
    | some (.struct fields) => match fields[f]? with
      | some fd => if (C.P.info? fd.type).isSome ∧ C.P.cellsOf fd.type ≠ 0 then
          match x with
          | .c (.ptr root path off) => some (.c (.ptr root (path ++ [f]) (off + fd.offset)))
          | .ov id path off => some (.ov id (path ++ [f]) (off + fd.offset))
          | .oe id i path off => some (.oe id i (path ++ [f]) (off + fd.offset))
          | _ => none
        else none
      | none => none
    | _ => none
def aindexAddr (C : Cfg) (H : Heap) (t : TypeId) (x ix : AV) : Option AV :=
  match intOf ix, C.P.underlying t with
  | some (_, i), some (.array n e) =>
    if 0 ≤ i ∧ i < n then
      if C.P.cellsOf e = 1 ∧ (C.P.info? e).isSome then
        match x with
        | .c (.ptr root path off) => some (.c (.ptr root (path ++ [i.toNat]) (off + i.toNat)))
        | .ov id path off => some (.ov id (path ++ [i.toNat]) (off + i.toNat))
        | .oe id j path off => some (.oe id j (path ++ [i.toNat]) (off + i.toNat))
        | _ => none
      else none
    else none
  | some (_, i), some (.slice e) =>
    match x with
    | .c (.sl sz es) => if 0 ≤ i ∧ i < es.length then
        if (C.P.info? e).isSome ∧ C.P.cellsOf e = sz then some (.c (.ptr (es.getD i.toNat .nilp) [] 0)) else none
      else none
    | .os id => match rowOf H id with
      | some (_, sz, es) => if 0 ≤ i ∧ i < es.length then
          if (C.P.info? e).isSome ∧ C.P.cellsOf e = sz then some (.oe id i.toNat [] 0) else none
        else none
      | none => none
    | _ => none
  | _, _ => none
/-! ### Numbers, strings, equality -/
def aint (op : BinOp) (k : IntKind) (a b : Int) : Option CV :=
  match op with
  | .add => some (.int k (k.wrap (a + b)))
  | .sub => some (.int k (k.wrap (a - b)))
  | .mul => some (.int k (k.wrap (a * b)))
  | .quo => if b = 0 then none else some (.int k (k.wrap (a.tdiv b)))
  | .rem => if b = 0 then none else some (.int k (a.tmod b))
  | .and => some (.int k (k.wrap (BitVec.ofInt k.bits a &&& BitVec.ofInt k.bits b).toNat))
  | .or => some (.int k (k.wrap (BitVec.ofInt k.bits a ||| BitVec.ofInt k.bits b).toNat))
  | .xor => some (.int k (k.wrap (BitVec.ofInt k.bits a ^^^ BitVec.ofInt k.bits b).toNat))
  | .andNot => some (.int k (k.wrap (BitVec.ofInt k.bits a &&& ~~~BitVec.ofInt k.bits b).toNat))
  | .eql => some (.bool (a == b))
  | .neq => some (.bool (a != b))
  | .lss => some (.bool (decide (a < b)))
  | .leq => some (.bool (decide (a ≤ b)))
  | .gtr => some (.bool (decide (a > b)))
  | .geq => some (.bool (decide (a ≥ b)))
  | _ => none
def ashift (op : BinOp) (k : IntKind) (a b : Int) : Option CV :=
  if b < 0 then none else
  match op with
  | .shl => some (.int k (k.wrap (a * 2 ^ (min b.toNat k.bits))))
  | .shr => some (.int k (a.fdiv (2 ^ (min b.toNat k.bits))))
  | _ => none
def astr (op : BinOp) (x y : ByteArray) : Option CV :=
  match op with
  | .add => if ((x.size + y.size : Nat) : Int) > IntKind.i64.max then none else some (.str (x ++ y))
  | .eql => some (.bool (x.toList == y.toList))
  | .neq => some (.bool (!(x.toList == y.toList)))
  | .lss => some (.bool (Op.bytesLess x.toList y.toList))
  | .leq => some (.bool (Op.bytesLess x.toList y.toList || x.toList == y.toList))
  | .gtr => some (.bool (!(Op.bytesLess x.toList y.toList || x.toList == y.toList)))
  | .geq => some (.bool (!Op.bytesLess x.toList y.toList))
  | _ => none
def aeqFields (P : Program) (rec : TypeId → AV → AV → Option Bool) : Nat → List Field → List CV → List CV → Option Bool
  | _, [], [], [] => some true
  | o, f :: fs, x :: xs, y :: ys =>
    if f.name ≠ "_" ∧ f.offset = o ∧ fits P f.type x.size x.isAgg = true ∧ fits P f.type y.size y.isAgg = true then
      match rec f.type (.c x) (.c y) with
      | some true => aeqFields P rec (o + P.cellsOf f.type) fs xs ys
      | some false => some false
      | none => none
    else none
  | _, _, _, _ => none
/-- '==' of two values of a type that are told apart by content. -/
def aeq (P : Program) : Nat → TypeId → AV → AV → Option Bool
  | 0, _, _, _ => none
  | d + 1, t, x, y =>
    match P.underlying t, x, y with
    | some .bool, .c (.bool a), .c (.bool b) => some (a == b)
    | some (.int _), .c (.int k a), .c (.int k' b) => if k = k' then some (a == b) else none
    | some .string, .c (.str a), .c (.str b) => some (a == b)
    | some (.pointer _), .c .nilp, .c .nilp => some true
    | some (.pointer _), .c .nilp, .c (.ptr _ _ _) => some false
    | some (.pointer _), .c (.ptr _ _ _), .c .nilp => some false
    | some (.pointer _), .c .nilp, .ov _ _ _ => some false
    | some (.pointer _), .ov _ _ _, .c .nilp => some false
    | some (.interface _), .c .nilif, .c (.iface _ _) => some false
    | some (.interface _), .c (.iface _ _), .c .nilif => some false
    | some (.slice _), .c .nilsl, .c .nilsl => some true
    | some (.slice _), .c (.sl _ (_ :: _)), .c .nilsl => some false
    | some (.map _ _), .c .nilmap, .c .nilmap => some true
    | some (.map _ _), .mp _, .c .nilmap => some false
    | some (.array n e), .c (.arr m k a), .c (.arr m' k' b) =>
      match P.underlying e with
      | some (.int k'') => if m = n ∧ m' = n ∧ k = k'' ∧ k' = k'' ∧ P.cellsOf e = 1 ∧ (P.info? e).isSome = true ∧ 0 < d then some (a == b) else none
      | _ => none
    | some (.struct fields), .c (.agg a), .c (.agg b) =>
      if P.stoodInHeld t then none else aeqFields P (aeq P d) 0 fields.toList a b
    | _, _, _ => none
def ifaceT (P : Program) (t : TypeId) : Bool := match P.underlying t with
  | some (.interface _) => true
  | _ => false
def abin (P : Program) (lit : Bool) (op : BinOp) (t : TypeId) (x y : AV) : Option AV :=
  match x, y with
  | .c (.int k a), .c (.int k' b) =>
    match op with
    | .shl | .shr => (ashift op k a b).map .c
    | _ => if k = k' then (aint op k a b).map .c else none
  | .c (.str a), .c (.str b) => (astr op a b).map .c
  | x, y => match op with
    | .eql => if P.eqGuardType P.depth t = false then (aeq P 12 t x y).map fun r => .c (.bool r) else
        match x, y with
        | .c .nilif, .c (.iface _ _) => if ifaceT P t = true then some (.c (.bool false)) else none
        | .c (.iface _ _), .c .nilif => if ifaceT P t = true then some (.c (.bool false)) else none
        | .c .nilif, .c .nilif => if ifaceT P t = true ∧ lit = true then some (.c (.bool true)) else none
        | _, _ => none
    | .neq => if P.eqGuardType P.depth t = false then (aeq P 12 t x y).map fun r => .c (.bool !r) else
        match x, y with
        | .c .nilif, .c (.iface _ _) => if ifaceT P t = true then some (.c (.bool true)) else none
        | .c (.iface _ _), .c .nilif => if ifaceT P t = true then some (.c (.bool true)) else none
        | .c .nilif, .c .nilif => if ifaceT P t = true ∧ lit = true then some (.c (.bool false)) else none
        | _, _ => none
    | _ => none
def aun (op : UnOp) : AV → Option AV
  | .c (.bool b) => match op with
    | .not => some (.c (.bool !b))
    | _ => none
  | .c (.int k n) => match op with
    | .neg => some (.c (.int k (k.wrap (0 - n))))
    | .xor => some (.c (.int k (k.wrap (BitVec.ofInt k.bits (if k.signed then -1 else k.max) ^^^ BitVec.ofInt k.bits n).toNat)))
    | _ => none
  | _ => none
/-- The bytes that elements are. -/
def bytesC : List CV → Option (List UInt8)
  | [] => some []
  | .int .u8 n :: es => match bytesC es with
    | some bs => some (UInt8.ofNat n.toNat :: bs)
    | none => none
  | _ => none
def bytesAV (bs : List UInt8) : List CV := bs.map fun b => .int .u8 b.toNat
def aconvert (C : Cfg) (H : Heap) (src dst : TypeId) (x : AV) : Option AV :=
  match C.P.underlying src, C.P.underlying dst with
  | some s, some (.int k) => match x with
    | .c (.int _ n) => (match s with | .unsafePointer => none | _ => some (.c (.int k (k.wrap n))))
    | _ => none
  | some s, some .string => match s with
    | .string => match x with
      | .c (.str b) => some (.c (.str b))
      | _ => none
    | .slice e => match C.P.underlying e with
      | some (.int .u8) => match elemsOf H 1 x with
        | some es => match bytesC es with
          | some bs => some (.c (.str ⟨bs.toArray⟩))
          | none => none
        | none => none
      | _ => none
    | _ => none
  | _, _ => none
/-! ### Building -/
end Go.Fm
/-
  The abstract interpreter, second part: operations, code, calls. (Definitions alone.)
-/
set_option linter.unusedSimpArgs false
set_option linter.unusedVariables false
namespace Go.Fm
open Go
def toCsW (rec : Heap → AV → Option (CV × Heap)) : Heap → List AV → Option (List CV × Heap)
  | H, [] => some ([], H)
  | H, v :: vs => match rec H v with
    | some (c, H') => match toCsW rec H' vs with
      | some (cs, H'') => some (c :: cs, H'')
      | none => none
    | none => none
/-- A value as content: what was owned is let go (it can be read for ever, and is written no more). -/
def toC : Nat → Heap → AV → Option (CV × Heap)
  | 0, _, _ => none
  | d + 1, H, v => match v with
    | .c v => some (v, H)
    | .os id => match H[id]? with
      | some (.row t sz es) => some (.sl sz es, H.set id (.frow t sz es))
      | some (.frow _ sz es) => some (.sl sz es, H)
      | _ => none
    | .ov id [] off => if off = 0 then
        match H[id]? with
        | some (.var t v) => match toC d H v with
          | some (cv, H') => match H'[id]? with
            | some (.var _ _) => some (.ptr cv [] 0, H'.set id (.fvar t cv))
            | _ => none
          | none => none
        | some (.fvar _ cv) => some (.ptr cv [] 0, H)
        | _ => none
      else none
    | .agg l => match toCsW (toC d) H l with
      | some (vs, H') => some (.agg vs, H')
      | none => none
    | _ => none
def setNth (l : List AV) : List (Nat × AV) → Option (List AV)
  | [] => some l
  | (i, v) :: r => match l[i]? with
    | some old => if old.size = v.size then setNth (l.set i v) r else none
    | none => none
def offsFit (P : Program) : Nat → List Field → Bool
  | _, [] => true
  | o, f :: fs => f.offset == o && (P.info? f.type).isSome && offsFit P (o + P.cellsOf f.type) fs
def sizesFit (P : Program) : List Field → List AV → Bool
  | [], [] => true
  | f :: fs, v :: vs => v.size == P.cellsOf f.type && sizesFit P fs vs
  | _, _ => false
def setInts (k : IntKind) (ns : List Int) : List (Nat × AV) → Option (List Int)
  | [] => some ns
  | (i, .c (.int k' n)) :: r => if k' = k ∧ i < ns.length then setInts k (ns.set i n) r else none
  | _ => none
def zeroOf (P : Program) (t : TypeId) : Option CV := match P.info? t with
  | some i => match i.zero with
    | some z => match absV P t z with
      | some (.c v) => if z.cells.size = i.size then some v else none
      | _ => none
    | none => none
  | none => none
def abuild (C : Cfg) (t : TypeId) (parts : List (Nat × AV)) : Option AV :=
  match C.P.underlying t, zeroOf C.P t with
  | some (.struct fields), some (.agg zs) =>
    if offsFit C.P 0 fields.toList = true ∧ sizesFit C.P fields.toList (zs.map .c) = true then (setNth (zs.map .c) parts).map mkAgg else none
  | some (.array n e), some (.arr m k ns) =>
    if m = n ∧ C.P.cellsOf e = 1 ∧ (C.P.info? e).isSome then (setInts k ns parts).map fun ns' => .c (.arr m k ns') else none
  | _, _ => none
def setCs (sz : Nat) (es : List CV) : List (Nat × CV) → Option (List CV)
  | [] => some es
  | (i, v) :: r => if i < es.length ∧ v.size = sz then setCs sz (es.set i v) r else none
def toCparts (H : Heap) : List (Nat × AV) → Option (List (Nat × CV) × Heap)
  | [] => some ([], H)
  | (i, v) :: r => match toC 6 H v with
    | some (c, H') => match toCparts H' r with
      | some (cs, H'') => some ((i, c) :: cs, H'')
      | none => none
    | none => none
def abuildSlice (C : Cfg) (H : Heap) (t : TypeId) (len : Nat) (parts : List (Nat × AV)) : Option (AV × Heap) :=
  match elemOf C.P t with
  | some e =>
    match zeroOf C.P e, toCparts H parts with
    | some z, some (ps, H') => if len * C.P.cellsOf e ≤ 16777216 ∧ z.size = C.P.cellsOf e ∧ C.P.cellsOf e ≠ 0 then
        match setCs (C.P.cellsOf e) (List.replicate len z) ps with
        | some es => some (.os H'.length, H' ++ [.row e (C.P.cellsOf e) es])
        | none => none
      else none
    | _, _ => none
  | none => none
def lenOf (H : Heap) : AV → Option Nat
  | .c (.sl _ es) => some es.length
  | .c .nilsl => some 0
  | .os id => (rowOf H id).map fun r => r.2.2.length
  | _ => none
def alen (C : Cfg) (H : Heap) (t : TypeId) (x : AV) : Option AV :=
  match C.P.underlying t with
  | some .string => match x with
    | .c (.str s) => some (.c (.int .i64 s.size))
    | _ => none
  | some (.array n _) => some (.c (.int .i64 n))
  | some (.slice _) => (lenOf H x).map fun n => .c (.int .i64 (n : Nat))
  | some (.map _ _) => match x with
    | .c .nilmap => some (.c (.int .i64 0))
    | .mp id => match H[id]? with
      | some (.mp es) => some (.c (.int .i64 es.length))
      | _ => none
    | _ => none
  | _ => none
def afold (f : Int → Int → Int) (k : IntKind) : Int → List AV → Option AV
  | a, [] => some (.c (.int k a))
  | a, .c (.int _ b) :: r => afold f k (f a b) r
  | _, _ => none
def aminmax (f : Int → Int → Int) : List AV → Option AV
  | .c (.int k a) :: r => afold f k a r
  | _ => none
/-- What is appended. -/
def srcOf (C : Cfg) (H : Heap) (tx : TypeId) (sz : Nat) (x : AV) : Option (List CV) :=
  match C.P.underlying tx with
  | some (.slice _) => elemsOf H sz x
  | some .string => match x with
    | .c (.str b) => if sz = 1 then some (bytesAV b.data.toList) else none
    | _ => none
  | _ => none
def aappend (C : Cfg) (H : Heap) (t tx : TypeId) (s x : AV) : Option (AV × Heap) :=
  match elemOf C.P t with
  | some e =>
    match C.P.info? e with
    | some i =>
      match i.zero, srcOf C H tx i.size x with
      | some z, some xs =>
        if z.cells.size = i.size ∧ i.size ≠ 0 then
          match s with
          | .c .nilsl => if xs.length * i.bytes ≤ 140737488355328 ∧ xs.length ≤ maxLen then some (.os H.length, H ++ [.row e i.size xs]) else none
          | .os id => match H[id]? with
            | some (.row u sz es) => if sz = i.size ∧ u = e then
                if (es.length + xs.length) * i.bytes ≤ 140737488355328 ∧ es.length + xs.length ≤ maxLen then some (.os H.length, H.set id .dead ++ [.row e i.size (es ++ xs)]) else none
              else none
            | _ => none
          | _ => none
        else none
      | _, _ => none
    | none => none
  | none => none
def natOf (H : Option AV) (d : Nat) (hi : Nat) : Option Nat := match H with
  | none => some d
  | some (.c (.int _ i)) => if 0 ≤ i ∧ i ≤ (hi : Int) then some i.toNat else none
  | _ => none
/-- 'x[lo:]' of a row of one's own stays one's own. -/
def tailOf (C : Cfg) (H : Heap) (e : TypeId) (x : AV) (lo hi : Option AV) : Option (AV × Heap) :=
  match x, lo, hi with
  | .os id, some (.c (.int _ i)), none => match H[id]? with
    | some (.row u sz es) => if sz = C.P.cellsOf e ∧ (C.P.info? e).isSome then
        if 0 ≤ i ∧ i ≤ (es.length : Int) then some (.os H.length, H.set id .dead ++ [.row u sz (es.drop i.toNat)]) else none
      else none
    | _ => none
  | _, _, _ => none
/-- 'x[lo:hi]' (no third index). -/
def aslice (C : Cfg) (H : Heap) (t : TypeId) (x : AV) (lo hi : Option AV) : Option (AV × Heap) :=
  match C.P.underlying t with
  | some .string => match x with
    | .c (.str s) => match natOf hi s.size s.size with
      | some h => match natOf lo 0 h with
        | some l => some (.c (.str (s.extract l h)), H)
        | none => none
      | none => none
    | _ => none
  | some (.slice e) => match tailOf C H e x lo hi with
   | some r => some r
   | none => match toC 2 H x with
    | some (.sl sz es, H') => match natOf hi es.length es.length with
      | some h => match natOf lo 0 h with
        | some l => if sz = C.P.cellsOf e ∧ (C.P.info? e).isSome then some (.c (.sl sz ((es.drop l).take (h - l))), H') else none
        | none => none
      | none => none
    | some (.nilsl, H') => match natOf hi 0 0 with
      | some h => match natOf lo 0 h with
        | some _ => if (C.P.info? e).isSome then some (.c .nilsl, H') else none
        | none => none
      | none => none
    | _ => none
  | some (.array n e) =>
    match (match x with
      | .c (.ptr root path off) => some (root, path, off, H)
      | .ov id path off => match toC 6 H (.ov id [] 0) with
        | some (.ptr root [] 0, H') => some (root, path, off, H')
        | _ => none
      | _ => none) with
    | some (root, path, off, H') => match getC root path, offC root path with
      | some (.arr m k ns), some o => if o = off ∧ m = n ∧ ns.length = n ∧ C.P.cellsOf e = 1 ∧ (C.P.info? e).isSome ∧ n ≤ maxLen then
          match natOf hi n n with
          | some h => match natOf lo 0 h with
            | some l => some (.c (.sl 1 (((ns.map (CV.int k)).drop l).take (h - l))), H')
            | none => none
          | none => none
        else none
      | _, _ => none
    | none => none
  | _ => none
/-- An element of an array's value; a string's byte. -/
def aindex (C : Cfg) (t : TypeId) (x ix : AV) : Option AV :=
  match intOf ix, C.P.underlying t with
  | some (_, i), some (.array n e) => match x with
    | .c (.arr m k ns) => if 0 ≤ i ∧ i < n then
        if m = n ∧ ns.length = n ∧ fits C.P e 1 false = true then some (.c (.int k (ns.getD i.toNat 0))) else none
      else none
    | _ => none
  | some (_, i), some .string => match x with
    | .c (.str s) => if 0 ≤ i ∧ i < s.size then some (.c (.int .u8 (s.data.toList.getD i.toNat 0).toNat)) else none
    | _ => none
  | _, _ => none
def afield (C : Cfg) (t : TypeId) (x : AV) (f : Nat) : Option AV :=
  match C.P.underlying t, x.fields with
  | some (.struct fields), some l => match fields[f]?, l[f]? with
    | some fd, some v => if offsFit C.P 0 fields.toList = true ∧ sizesFit C.P fields.toList l = true ∧ fits C.P fd.type v.size v.isAgg = true then some v else none
    | _, _ => none
  | _, _ => none
def intsC (k : IntKind) : List CV → Option (List Int)
  | [] => some []
  | .int k' n :: r => if k' = k then (match intsC k r with
    | some ns => some (n :: ns)
    | none => none) else none
  | _ => none
/-- A slice's first elements as an array. -/
def aarrayAt (C : Cfg) (H : Heap) (arr : TypeId) (x : AV) : Option (AV × Heap) :=
  match C.P.underlying arr, toC 2 H x with
  | some (.array n e), some (.sl 1 es, H') => match C.P.underlying e with
    | some (.int k) => if n ≤ es.length ∧ 0 < n then
        match intsC k (es.take n) with
        | some ns => some (.c (.ptr (.arr n k ns) [] 0), H')
        | none => none
      else none
    | _ => none
  | _, _ => none
def evs (C : Cfg) (e : Env) : List Operand → List TypeId → Option (List AV)
  | [], _ => some []
  | x :: xs, t :: ts => match ev C e t x, evs C e xs ts with
    | some v, some vs => some (v :: vs)
    | _, _ => none
  | _ :: _, [] => none
abbrev CallFn := FuncId → List AV → Heap → Option (AV × Heap)
def partT (P : Program) (t : TypeId) (i : Nat) : TypeId := match P.underlying t with
  | some (.struct fields) => ((fields[i]?).map (·.type)).getD 0
  | some (.array _ e) => e
  | some (.slice e) => e
  | _ => 0
/-- No tuple. -/
def ev1 (C : Cfg) (e : Env) (t : TypeId) (x : Operand) : Option AV := match ev C e t x with
  | some (.tup _) => none
  | some .any => none
  | r => r
def evp (C : Cfg) (e : Env) (t : TypeId) : List (Nat × Operand) → Option (List (Nat × AV))
  | [] => some []
  | (i, x) :: r => match ev1 C e (partT C.P t i) x, evp C e t r with
    | some v, some vs => some ((i, v) :: vs)
    | _, _ => none
def amakeSlice (C : Cfg) (H : Heap) (t : TypeId) (l c : Int) : Option (AV × Heap) :=
  match elemOf C.P t with
  | some e => match zeroOf C.P e, C.P.info? e with
    | some z, some i => if l = c ∧ 0 ≤ c then
        if c * i.bytes ≤ 140737488355328 ∧ c ≤ maxLen ∧ z.size = i.size ∧ i.size ≠ 0 then some (.os H.length, H ++ [.row e i.size (List.replicate c.toNat z)]) else none
      else none
    | _, _ => none
  | none => none
def keyT (P : Program) (t : TypeId) : TypeId := match P.underlying t with
  | some (.map k _) => k
  | _ => 0
def valT (P : Program) (t : TypeId) : TypeId := match P.underlying t with
  | some (.map _ v) => v
  | _ => 0
/-- Where a key stands. -/
def findE (P : Program) (kt : TypeId) (k : CV) : List (CV × CV) → Option (Option CV)
  | [] => some none
  | (a, v) :: r => match aeq P 12 kt (.c k) (.c a) with
    | some true => some (some v)
    | some false => findE P kt k r
    | none => none
def putM (P : Program) (kt : TypeId) (k v : CV) : List (CV × CV) → Option (List (CV × CV))
  | [] => some [(k, v)]
  | (a, u) :: r => match aeq P 12 kt (.c k) (.c a) with
    | some true => some ((k, v) :: r)
    | some false => (putM P kt k v r).map ((a, u) :: ·)
    | none => none
/-- Keys are arrays of numbers. -/
def keyOk (P : Program) (kt : TypeId) : CV → Bool
  | .arr n k _ => match P.underlying kt with
    | some (.array m e) => match P.underlying e with
      | some (.int k') => decide (m = n) && decide (k = k') && decide (P.cellsOf e = 1) && (P.info? e).isSome
      | _ => false
    | _ => false
  | _ => false
def entsOf (H : Heap) : AV → Option (List (CV × CV))
  | .c .nilmap => some []
  | .mp id => match H[id]? with
    | some (.mp es) => some es
    | _ => none
  | _ => none
def foundA (z : CV) (ok : Bool) (H : Heap) : Option (Option CV) → Option (AV × Heap)
  | some (some v) => some (if ok then .tup [.c v, .c (.bool true)] else .c v, H)
  | some none => some (if ok then .tup [.c z, .c (.bool false)] else .c z, H)
  | none => none
def alookupK (C : Cfg) (kt : TypeId) (z : CV) (ok : Bool) (m k : AV) (H : Heap) : Option (AV × Heap) := match k with
  | .c kv => match entsOf H m with
    | some es => if keyOk C.P kt kv = true then foundA z ok H (findE C.P kt kv es) else none
    | none => none
  | _ => none
def alookup (C : Cfg) (H : Heap) (t : TypeId) (m k : AV) (ok : Bool) : Option (AV × Heap) := match C.P.underlying t with
  | some (.map kt vt) => match zeroOf C.P vt with
    | some z => alookupK C kt z ok m k H
    | none => none
  | _ => none
def putA (id : Nat) (H : Heap) : Option (List (CV × CV)) → Option (AV × Heap)
  | some es => some (AV.undef, H.set id (.mp es))
  | none => none
def amapUpdateK (C : Cfg) (kt : TypeId) (m k v : AV) (H : Heap) : Option (AV × Heap) := match k with
  | .c kv => match m with
    | .mp id => match toC 4 H v with
      | some (cv, H') => match H'[id]? with
        | some (.mp es) => if keyOk C.P kt kv = true then putA id H' (putM C.P kt kv cv es) else none
        | _ => none
      | none => none
    | _ => none
  | _ => none
def amapUpdate (C : Cfg) (H : Heap) (t : TypeId) (m k v : AV) : Option (AV × Heap) := match C.P.underlying t with
  | some (.map kt _) => amapUpdateK C kt m k v H
  | _ => none
/-- One operation: what it yields, and the heap behind it. -/
def astep (C : Cfg) (cf : CallFn) (e : Env) (H : Heap) (o : Oper) : Option (AV × Heap) :=
  match o.op with
  | .move x | .assign x => (ev C e o.type x).map fun v => (v, H)
  | .pick c a b => match ev C e o.type c with
    | some (.c (.bool t)) => match ev C e o.type a, ev C e o.type b with
      | some x, some y => some (if t then x else y, H)
      | _, _ => none
    | _ => none
  | .alloc t => (zeroOf C.P t).map fun z => (.ov H.length [] 0, H ++ [.var t (.c z)])
  | .box t x => match ev1 C e t x with
    | some v => some (.ov H.length [] 0, H ++ [.var t v])
    | none => none
  | .build t parts => match evp C e t parts.toList with
    | some ps => (abuild C t ps).map fun v => (v, H)
    | none => none
  | .buildSlice t len parts => match evp C e t parts.toList with
    | some ps => abuildSlice C H t len ps
    | none => none
  | .load t a => match ev C e 0 a with
    | some x => (aload C H t x).map fun v => (v, H)
    | none => none
  | .store t a x => match ev C e 0 a, ev1 C e t x with
    | some p, some v => (astore C H t p v).map fun d => (AV.undef, d.on H)
    | _, _ => none
  | .nilCheck x => match ev C e 0 x with
    | some (.c (.ptr r p f)) => some (.c (.ptr r p f), H)
    | some (.ov i p f) => some (.ov i p f, H)
    | some (.oe i j p f) => some (.oe i j p f, H)
    | some (.c (.iface t v)) => some (.c (.iface t v), H)
    | some (.c (.fn f)) => some (.c (.fn f), H)
    | some (.fn f cap) => some (.fn f cap, H)
    | _ => none
  | .binOp op t x y ty => match ev C e t x, ev C e ty y with
    | some a, some b => (abin C.P (Region.isConst x || Region.isConst y) op t a b).map fun v => (v, H)
    | _, _ => none
  | .unOp op t x => match ev C e t x with
    | some a => (aun op a).map fun v => (v, H)
    | none => none
  | .convert s d x => match ev C e s x with
    | some a => if s = d then
        (match elemOf C.P s with
        | some el => match C.P.underlying el, a with
          | some (.int .u8), .os id => match H[id]? with
            | some (.row _ sz (_ :: _)) => if sz = 1 then some (.os id, H) else none
            | _ => none
          | _, _ => none
        | none => (aconvert C H s d a).map fun v => (v, H))
      else match C.P.underlying s, elemOf C.P d with
        | some .string, some el => match C.P.underlying el, a with
          | some (.int .u8), .c (.str b) => if C.P.cellsOf el = 1 ∧ b.size ≤ maxLen then some (.os H.length, H ++ [.row el 1 (bytesAV b.data.toList)]) else none
          | _, _ => none
        | _, _ => (aconvert C H s d a).map fun v => (v, H)
    | none => none
  | .makeSlice t l c => match ev C e 3 l, ev C e 3 c with
    | some (.c (.int _ l)), some (.c (.int _ c)) => amakeSlice C H t l c
    | _, _ => none
  | .index t x i => match ev C e t x, ev C e 3 i with
    | some a, some ix => (aindex C t a ix).map fun v => (v, H)
    | _, _ => none
  | .field t x f => match ev C e t x with
    | some a => (afield C t a f).map fun v => (v, H)
    | none => none
  | .sliceToArrayPointer t x => match ev C e 0 x with
    | some a => (aarrayAt C H t a)
    | none => none
  | .makeFunc (.func f) first cap => match first.toList, evs C e cap.toList (cap.toList.map fun _ => 0) with
    | [], some [] => some (.c (.fn f), H)
    | [], some l => some (.fn f l, H)
    | _, _ => none
  | .makeInterface t x => match ev1 C e t x with
    | some a => if C.P.concrete t = true then (match toC 6 H a with
      | some (v, H') => some (.c (.iface t v), H')
      | none => none) else none
    | none => none
  | .slice t x lo hi none => match ev C e t x with
    | some a =>
      match (match lo with
        | some l => (ev C e 3 l).map some
        | none => some none), (match hi with
        | some l => (ev C e 3 l).map some
        | none => some none) with
      | some l, some h => aslice C H t a l h
      | _, _ => none
    | none => none
  | .fieldAddr s x f => match ev C e 0 x with
    | some a => (afieldAddr C s f a).map fun v => (v, H)
    | none => none
  | .indexAddr t x ix => match ev C e t x, ev C e 3 ix with
    | some a, some i => (aindexAddr C H t a i).map fun v => (v, H)
    | _, _ => none
  | .extract t i => match ev C e 0 t with
    | some (.tup l) => (l[i]?).map fun v => (v, H)
    | _ => none
  | .makeMap _ none => some (.mp H.length, H ++ [.mp []])
  | .lookup t x i ok => match ev C e t x, ev C e (keyT C.P t) i with
    | some m, some k => alookup C H t m k ok
    | _, _ => none
  | .mapUpdate t m k x => match ev C e t m, ev C e (keyT C.P t) k, ev1 C e (valT C.P t) x with
    | some m, some k, some v => amapUpdate C H t m k v
    | _, _, _ => none
  | .call c => match c.callee with
    | .builtin b => match evs C e c.args.toList c.argTypes.toList with
      | some args => match b, args, c.argTypes.toList with
        | .len, [x], [t] => (alen C H t x).map fun v => (v, H)
        | .append, [s, x], [t, tx] => aappend C H t tx s x
        | .min, l, _ => (aminmax (fun x y => if y < x then y else x) l).map fun v => (v, H)
        | .max, l, _ => (aminmax (fun x y => if y > x then y else x) l).map fun v => (v, H)
        | _, _, _ => none
      | none => none
    | .value f => match ev C e 0 f, evs C e c.args.toList c.argTypes.toList with
      | some (.c (.fn g)), some args => cf g args H
      | some (.fn g cap), some args => cf g (args ++ cap) H
      | _, _ => none
    | _ => none
  | _ => none
inductive AExit where
  | normal
  | exit (id : Nat)
  | ret
def putE (e : Env) : Option Tmp → AV → Env
  | some d, v => e.set d v
  | none, _ => e
def dstOf (ops : List Oper) (j : Nat) : Option Tmp := (ops[j]?).bind (·.dst)
def wantedA (ops : List Oper) (e : Env) (o : Oper) : Option Bool :=
  match o.guard with
  | none => some true
  | some (j, want) => match dstOf ops j with
    | some d => match e[d]? with
      | some (.c (.bool b)) => some (b == want)
      | some (.tup []) => some false
      | _ => none
    | none => none
def resultsOf (C : Cfg) (e : Env) (H : Heap) : List ResultVar → Option (List AV)
  | [] => some []
  | .tmp t :: r => match e[t]?, resultsOf C e H r with
    | some v, some vs => some (v :: vs)
    | _, _ => none
  | .cell a t :: r => match e[a]? with
    | some p => match aload C H t p, resultsOf C e H r with
      | some v, some vs => some (v :: vs)
      | _, _ => none
    | none => none
def tupOf : List AV → AV
  | [v] => v
  | l => .tup l
/-- What is handed on as content, and what stays owned. -/
def handC (C : Cfg) (keep : Bool) (H : Heap) : AV → Option (AV × Heap)
  | .c v => some (.c v, H)
  | .os id => if keep then some (.os id, H) else match toC 2 H (.os id) with
    | some (v, H') => some (.c v, H')
    | none => none
  | .ov id path off => match path, H[id]? with
    | [], some (.var t _) => if C.frz t = true then (match toC 8 H (.ov id [] off) with
        | some (v, H') => some (.c v, H')
        | none => none) else some (.ov id [] off, H)
    | [], some (.fvar _ _) => (match toC 8 H (.ov id [] off) with
        | some (v, H') => some (.c v, H')
        | none => none)
    | _, _ => some (.ov id path off, H)
  | .agg l => match toC 8 H (.agg l) with
    | some (v, H') => some (.c v, H')
    | none => none
  | .tup l => some (.tup l, H)
  | .fn f cap => some (.fn f cap, H)
  | .mp id => some (.mp id, H)
  | .oe id i p o => some (.oe id i p o, H)
  | .any => none
def handCs (C : Cfg) (keep : Bool) : Heap → List AV → Option (List AV × Heap)
  | H, [] => some ([], H)
  | H, v :: vs => match handC C keep H v with
    | some (v', H') => match handCs C keep H' vs with
      | some (vs', H'') => some (v' :: vs', H'')
      | none => none
    | none => none
mutual
def AV.shift (n : Nat) : AV → AV
  | .c v => .c v
  | .ov id p o => .ov (id + n) p o
  | .os id => .os (id + n)
  | .oe id i p o => .oe (id + n) i p o
  | .agg l => .agg (AV.shifts n l)
  | .tup l => .tup (AV.shifts n l)
  | .fn f cap => .fn f (AV.shifts n cap)
  | .mp id => .mp (id + n)
  | .any => .any
def AV.shifts (n : Nat) : List AV → List AV
  | [] => []
  | v :: vs => v.shift n :: AV.shifts n vs
end
def Blk.shift (n : Nat) : Blk → Blk
  | .var t v => .var t (v.shift n)
  | b => b
def AV.isC : AV → Bool
  | .c _ => true
  | _ => false
def resC : AV → Bool
  | .c _ => true
  | .tup l => l.all AV.isC
  | _ => false
end Go.Fm
/-
  What the interpreter's values and heap say of a world; that it lives on from step to step.
-/
set_option linter.unusedSimpArgs false
set_option linter.unusedVariables false
namespace Go.Fm
open Go
/-- Where the interpreter's blocks lie. -/
structure Gh where
  φ : Nat → Nat
  β : Nat → Nat
  κ : Nat → Nat
  vt : Nat → Bool
  G : Nat → Option Blk
def Blk.len? : Blk → Option Nat
  | .row _ _ es => some es.length
  | .frow _ _ es => some es.length
  | _ => none
def Blk.sz? : Blk → Option Nat
  | .row _ sz _ => some sz
  | .frow _ sz _ => some sz
  | _ => none
/-- No block that is written lies here. -/
def Gh.free (g : Gh) (b : Nat) : Prop := ∀ id blk, g.G id = some blk → blk.ok = false → g.vt id = false → g.φ id ≠ b
def Gh.St (g : Gh) (S0 : Nat → Nat → Prop) (b o : Nat) : Prop := S0 b o ∧ g.free b
def Gh.rowVal (g : Gh) (id n : Nat) : Value := if g.vt id = true then .slice none 0 0 else .slice (some ⟨g.φ id, g.β id, none⟩) n (g.κ id)
mutual
inductive RA (g : Gh) (w : World) (S : Nat → Nat → Prop) : List Value → AV → Prop
  | c (cs : List Value) (v : CV) (h : RC w S cs v) : RA g w S cs (.c v)
  | ov (id : Nat) (path : List Nat) (off : Nat) (hs : (g.G id).isSome = true) : RA g w S [.pointer (some ⟨g.φ id, off, none⟩)] (.ov id path off)
  | os (id : Nat) (a : Option Addr) (n c : Nat) (hs : (g.G id).isSome = true) (h : ∀ m, (g.G id).bind Blk.len? = some m → Value.slice a n c = g.rowVal id m) : RA g w S [.slice a n c] (.os id)
  | oe (id i : Nat) (path : List Nat) (off : Nat) (ad : Addr) (hs : (g.G id).isSome = true) (h : ∀ sz, (g.G id).bind Blk.sz? = some sz → ad = ⟨g.φ id, g.β id + i * sz + off, none⟩) : RA g w S [.pointer (some ad)] (.oe id i path off)
  | mp (id : Nat) (hs : (g.G id).isSome = true) : RA g w S [.map (some (g.φ id))] (.mp id)
  | fn (f : FuncId) (vs : List Value) (cap : List AV) (h : RVs g w S vs cap) : RA g w S [.func (.func f) #[] vs.toArray] (.fn f cap)
  | agg (cs : List Value) (l : List AV) (h : RAF g w S cs l) : RA g w S cs (.agg l)
inductive RAF (g : Gh) (w : World) (S : Nat → Nat → Prop) : List Value → List AV → Prop
  | nil : RAF g w S [] []
  | cons (c cs : List Value) (f : AV) (fs : List AV) (h : RA g w S c f) (hs : RAF g w S cs fs) : RAF g w S (c ++ cs) (f :: fs)
/-- A slot's value. -/
inductive RV (g : Gh) (w : World) (S : Nat → Nat → Prop) : Value → AV → Prop
  | one (v : Value) (a : AV) (h : RA g w S [v] a) (ha : a.isAgg = false) : RV g w S v a
  | agg (cs : List Value) (a : AV) (h : RA g w S cs a) (ha : a.isAgg = true) : RV g w S (.agg cs.toArray) a
  | tup (vs : List Value) (l : List AV) (h : RVs g w S vs l) : RV g w S (.tuple vs.toArray) (.tup l)
  | any (v : Value) : RV g w S v .any
inductive RVs (g : Gh) (w : World) (S : Nat → Nat → Prop) : List Value → List AV → Prop
  | nil : RVs g w S [] []
  | cons (v : Value) (vs : List Value) (a : AV) (as : List AV) (h : RV g w S v a) (hs : RVs g w S vs as) : RVs g w S (v :: vs) (a :: as)
end
/-- No cell of a row is marked. -/
structure FrOk (fr : Nat × Nat) (sz n : Nat) : Prop where
  le : fr.1 ≤ fr.2
  big : sz ≠ 1 → fr = (0, 0)
  out : ∀ o, o < n → (fr.1 ≤ o && o < fr.2) = false
/-- A block of the interpreter's, as it lies in the world. -/
def RB (g : Gh) (w : World) (S : Nat → Nat → Prop) (id : Nat) : Blk → Prop
  | .var t v => ∃ cs : List Value, w.heap[g.φ id]? = some (.cells cs.toArray t (0, 0)) ∧ RA g w S cs v
  | .fvar _ v => ∃ cs : List Value, Here w S (g.φ id) 0 cs ∧ RC w S cs v
  | .row t sz es => (g.vt id = true ∧ es = [] ∧ g.κ id = 0) ∨ (g.vt id = false ∧ ∃ (pre cs post : List Value) (fr : Nat × Nat),
      w.heap[g.φ id]? = some (.cells (pre ++ cs ++ post).toArray t fr) ∧ FrOk fr sz (pre ++ cs ++ post).length ∧ pre.length = g.β id ∧
      g.κ id * sz ≤ (cs ++ post).length ∧ RL w S sz cs es ∧ es.length ≤ g.κ id ∧ g.κ id ≤ maxLen)
  | .frow _ sz es => (g.vt id = true ∧ es = []) ∨ (g.vt id = false ∧ ∃ cs : List Value, Here w S (g.φ id) (g.β id) cs ∧ RL w S sz cs es ∧ es.length ≤ g.κ id ∧ g.κ id ≤ maxLen)
  | .mp es => ∃ (ents : Array MapEntry) (clock : Nat), w.heap[g.φ id]? = some (.map ents clock) ∧ ents.size = es.length ∧
      ∀ (i : Nat) (k v : CV), es[i]? = some (k, v) → ∃ en : MapEntry, ents[i]? = some en ∧ RV g w S en.key (.c k) ∧ RV g w S en.val (.c v)
  | .dead => True
structure Inv (S0 : Nat → Nat → Prop) (g : Gh) (w : World) : Prop where
  blk : ∀ id b, g.G id = some b → RB g w (g.St S0) id b
  lt : ∀ id b, g.G id = some b → g.vt id = false → g.φ id < w.heap.size
  inj : ∀ i bi j bj, g.G i = some bi → g.G j = some bj → bi.ok = false → bj.ok = false → g.vt i = false → g.vt j = false → i ≠ j → g.φ i ≠ g.φ j
  fresh : ∀ b o, w.heap.size ≤ b → S0 b o
  s0 : ∀ id b, g.G id = some b → b.ok = false → g.vt id = false → ∀ o, S0 (g.φ id) o
/-- From step to step. -/
structure Step (g : Gh) (w : World) (g' : Gh) (w' : World) : Prop where
  size : w.heap.size ≤ w'.heap.size
  os : w'.os = w.os
  tape : w'.tape = w.tape
  output : w'.output = w.output
  ids : ∀ id b, g.G id = some b → ∃ b', g'.G id = some b' ∧ g'.φ id = g.φ id ∧ g'.β id = g.β id ∧ g'.κ id = g.κ id ∧ g'.vt id = g.vt id ∧
    (∀ n, b'.len? = some n → b.len? = some n) ∧ (∀ n, b'.sz? = some n → b.sz? = some n)
  keep : ∀ b, b < w.heap.size → g.free b → w'.heap[b]? = w.heap[b]? ∧ g'.free b
theorem Step.refl (g : Gh) (w : World) : Step g w g w :=
  ⟨Nat.le_refl _, rfl, rfl, rfl, fun _ b h => ⟨b, h, rfl, rfl, rfl, rfl, fun _ h => h, fun _ h => h⟩, fun _ _ h => ⟨rfl, h⟩⟩
theorem Step.trans {g g' g'' : Gh} {w w' w'' : World} (h : Step g w g' w') (k : Step g' w' g'' w'') : Step g w g'' w'' where
  size := Nat.le_trans h.size k.size
  os := k.os.trans h.os
  tape := k.tape.trans h.tape
  output := k.output.trans h.output
  ids := fun id b hb => by
    obtain ⟨b', h1, h2, h3, h4, h5, h6, h7⟩ := h.ids id b hb
    obtain ⟨b'', k1, k2, k3, k4, k5, k6, k7⟩ := k.ids id b' h1
    exact ⟨b'', k1, k2.trans h2, k3.trans h3, k4.trans h4, k5.trans h5, fun n hn => h6 n (k6 n hn), fun n hn => h7 n (k7 n hn)⟩
  keep := fun b hb hf => by
    obtain ⟨h1, h2⟩ := h.keep b hb hf
    obtain ⟨k1, k2⟩ := k.keep b (Nat.lt_of_lt_of_le hb h.size) h2
    exact ⟨k1.trans h1, k2⟩
theorem lt_of_cell {w : World} {b o : Nat} {v : Value} (h : w.cell? ⟨b, o, none⟩ = some v) : b < w.heap.size := World.block_lt_of_cell? w ⟨b, o, none⟩ h
theorem Step.stays {g g' : Gh} {w w' : World} (h : Step g w g' w') (S0 : Nat → Nat → Prop) : Stays w (g.St S0) w' (g'.St S0) := by
  intro b o v hc hs
  obtain ⟨h1, h2⟩ := h.keep b (lt_of_cell hc) hs.2
  refine ⟨?_, ⟨hs.1, h2⟩, fun h => ?_, fun h q => ⟨(h q).1, h2⟩⟩
  · rw [← hc]
    simp [World.cell?, h1]
  · rw [← h]
    simp [World.frozen?, h1]
theorem Step.isS {g g' : Gh} {w w' : World} (h : Step g w g' w') {id : Nat} (hs : (g.G id).isSome = true) : (g'.G id).isSome = true := by
  obtain ⟨b, hb⟩ := Option.isSome_iff_exists.1 hs
  obtain ⟨b', h1, _⟩ := h.ids id b hb
  simp [h1]
theorem Step.len {g g' : Gh} {w w' : World} (h : Step g w g' w') {id n : Nat} (hs : (g.G id).isSome = true) (hn : (g'.G id).bind Blk.len? = some n) : (g.G id).bind Blk.len? = some n ∧ g'.rowVal id n = g.rowVal id n := by
  obtain ⟨b, hb⟩ := Option.isSome_iff_exists.1 hs
  obtain ⟨b', h1, h2, h3, h4, h5, h6, h7⟩ := h.ids id b hb
  rw [h1] at hn
  rw [hb]
  exact ⟨h6 n hn, by simp only [Gh.rowVal, h2, h3, h4, h5]⟩
theorem Step.sz {g g' : Gh} {w w' : World} (h : Step g w g' w') {id n : Nat} (hs : (g.G id).isSome = true) (hn : (g'.G id).bind Blk.sz? = some n) : (g.G id).bind Blk.sz? = some n ∧ g'.φ id = g.φ id ∧ g'.β id = g.β id := by
  obtain ⟨b, hb⟩ := Option.isSome_iff_exists.1 hs
  obtain ⟨b', h1, h2, h3, h4, h5, h6, h7⟩ := h.ids id b hb
  rw [h1] at hn
  rw [hb]
  exact ⟨h7 n hn, h2, h3⟩
theorem Step.phi {g g' : Gh} {w w' : World} (h : Step g w g' w') {id : Nat} (hs : (g.G id).isSome = true) : g'.φ id = g.φ id := by
  obtain ⟨b, hb⟩ := Option.isSome_iff_exists.1 hs
  obtain ⟨b', h1, h2, _⟩ := h.ids id b hb
  exact h2
section
variable {g g' : Gh} {w w' : World} {S S' : Nat → Nat → Prop}
theorem RA.step (k : Step g w g' w') (ks : Stays w S w' S') {cs : List Value} {a : AV} (h : RA g w S cs a) : RA g' w' S' cs a :=
  RA.rec (motive_1 := fun cs a _ => RA g' w' S' cs a) (motive_2 := fun cs a _ => RAF g' w' S' cs a) (motive_3 := fun v a _ => RV g' w' S' v a) (motive_4 := fun v a _ => RVs g' w' S' v a)
    (fun cs v h => .c cs v (h.stays ks))
    (fun id path off hs => by rw [← k.phi hs]; exact .ov id path off (k.isS hs))
    (fun id a n c hs h => .os id a n c (k.isS hs) fun m hm => by obtain ⟨h1, h2⟩ := k.len hs hm; rw [h2]; exact h m h1)
    (fun id i path off ad hs h => .oe id i path off ad (k.isS hs) fun sz hm => by obtain ⟨h1, h2, h3⟩ := k.sz hs hm; rw [h2, h3]; exact h sz h1)
    (fun id hs => by rw [← k.phi hs]; exact .mp id (k.isS hs))
    (fun f vs cap _ h => .fn f vs cap h)
    (fun cs l _ h => .agg cs l h)
    .nil (fun c cs f fs _ _ h hs => .cons c cs f fs h hs)
    (fun v a _ ha h => .one v a h ha) (fun cs a _ ha h => .agg cs a h ha) (fun vs l _ h => .tup vs l h) (fun v => .any v)
    .nil (fun v vs a as _ _ h hs => .cons v vs a as h hs) h
theorem RV.step (k : Step g w g' w') (ks : Stays w S w' S') {v : Value} {a : AV} (h : RV g w S v a) : RV g' w' S' v a :=
  RV.rec (motive_1 := fun cs a _ => RA g' w' S' cs a) (motive_2 := fun cs a _ => RAF g' w' S' cs a) (motive_3 := fun v a _ => RV g' w' S' v a) (motive_4 := fun v a _ => RVs g' w' S' v a)
    (fun cs v h => .c cs v (h.stays ks))
    (fun id path off hs => by rw [← k.phi hs]; exact .ov id path off (k.isS hs))
    (fun id a n c hs h => .os id a n c (k.isS hs) fun m hm => by obtain ⟨h1, h2⟩ := k.len hs hm; rw [h2]; exact h m h1)
    (fun id i path off ad hs h => .oe id i path off ad (k.isS hs) fun sz hm => by obtain ⟨h1, h2, h3⟩ := k.sz hs hm; rw [h2, h3]; exact h sz h1)
    (fun id hs => by rw [← k.phi hs]; exact .mp id (k.isS hs))
    (fun f vs cap _ h => .fn f vs cap h)
    (fun cs l _ h => .agg cs l h)
    .nil (fun c cs f fs _ _ h hs => .cons c cs f fs h hs)
    (fun v a _ ha h => .one v a h ha) (fun cs a _ ha h => .agg cs a h ha) (fun vs l _ h => .tup vs l h) (fun v => .any v)
    .nil (fun v vs a as _ _ h hs => .cons v vs a as h hs) h
theorem RVs.step (k : Step g w g' w') (ks : Stays w S w' S') {v : List Value} {a : List AV} (h : RVs g w S v a) : RVs g' w' S' v a := by
  induction a generalizing v with
  | nil => cases h; exact .nil
  | cons a as ih => cases h with | cons v vs _ _ h hs => exact .cons _ _ _ _ (h.step k ks) (ih hs)
theorem RAF.step (k : Step g w g' w') (ks : Stays w S w' S') {v : List Value} {a : List AV} (h : RAF g w S v a) : RAF g' w' S' v a := by
  induction a generalizing v with
  | nil => cases h; exact .nil
  | cons a as ih => cases h with | cons v vs _ _ h hs => exact .cons _ _ _ _ (h.step k ks) (ih hs)
end
theorem RA.length {g : Gh} {w : World} {S : Nat → Nat → Prop} {cs : List Value} {a : AV} (h : RA g w S cs a) : cs.length = a.size :=
  RA.rec (motive_1 := fun cs a _ => cs.length = a.size) (motive_2 := fun cs a _ => cs.length = AV.sizes a) (motive_3 := fun _ _ _ => True) (motive_4 := fun _ _ _ => True)
    (fun cs v h => by simpa [AV.size] using h.length) (fun _ _ _ _ => by simp [AV.size]) (fun _ _ _ _ _ _ => by simp [AV.size]) (fun _ _ _ _ _ _ _ => by simp [AV.size])
    (fun _ _ => by simp [AV.size]) (fun _ _ _ _ _ => by simp [AV.size]) (fun cs l _ h => by simpa [AV.size] using h)
    (by simp [AV.sizes]) (fun c cs f fs _ _ h hs => by simp [AV.sizes, h, hs])
    (fun _ _ _ _ _ => trivial) (fun _ _ _ _ _ => trivial) (fun _ _ _ _ => trivial) (fun _ => trivial) trivial (fun _ _ _ _ _ _ _ _ => trivial) h
theorem RAF.length {g : Gh} {w : World} {S : Nat → Nat → Prop} {cs : List Value} {a : List AV} (h : RAF g w S cs a) : cs.length = AV.sizes a := by
  induction a generalizing cs with
  | nil => cases h; simp [AV.sizes]
  | cons a as ih => cases h with | cons v vs _ _ h hs => simp [AV.sizes, h.length, ih hs]
theorem RVs.length {g : Gh} {w : World} {S : Nat → Nat → Prop} {vs : List Value} {as : List AV} (h : RVs g w S vs as) : vs.length = as.length := by
  induction as generalizing vs with
  | nil => cases h; rfl
  | cons a as ih => cases h with | cons v vs _ _ h hs => simp [ih hs]
theorem RVs.get {g : Gh} {w : World} {S : Nat → Nat → Prop} {vs : List Value} {as : List AV} (h : RVs g w S vs as) : ∀ (i : Nat) (a : AV), as[i]? = some a → ∃ v, vs[i]? = some v ∧ RV g w S v a := by
  induction as generalizing vs with
  | nil => intro i a hi; simp at hi
  | cons a as ih =>
    cases h with
    | cons v vs _ _ h hs =>
      intro i b hi
      cases i with
      | zero => simp at hi; subst hi; exact ⟨v, by simp, h⟩
      | succ i => simp at hi; obtain ⟨v', h1, h2⟩ := ih hs i b hi; exact ⟨v', by simpa using h1, h2⟩
theorem RVs.set {g : Gh} {w : World} {S : Nat → Nat → Prop} {vs : List Value} {as : List AV} (h : RVs g w S vs as) {v : Value} {a : AV} (hv : RV g w S v a) : ∀ i, RVs g w S (vs.set i v) (as.set i a) := by
  induction as generalizing vs with
  | nil => cases h; intro i; exact .nil
  | cons b as ih =>
    cases h with
    | cons u vs _ _ h hs =>
      intro i
      cases i with
      | zero => exact .cons _ _ _ _ hv hs
      | succ i => exact .cons _ _ _ _ h (ih hs i)
theorem RVs.append {g : Gh} {w : World} {S : Nat → Nat → Prop} {vs us : List Value} {as bs : List AV} (h : RVs g w S vs as) (k : RVs g w S us bs) : RVs g w S (vs ++ us) (as ++ bs) := by
  induction as generalizing vs with
  | nil => cases h; exact k
  | cons b as ih => cases h with | cons u vs _ _ h hs => exact .cons _ _ _ _ h (ih hs)
end Go.Fm
/-
  Ways into values, cells read and written.
-/
set_option linter.unusedSimpArgs false
set_option linter.unusedVariables false
namespace Go.Fm
open Go
theorem addr_add (b o i : Nat) : (⟨b, o, none⟩ : Addr).add i = ⟨b, o + i, none⟩ := by unfold Addr.add; split <;> simp_all
theorem getA_c (v : CV) (p : List Nat) : getA (.c v) p = (getC v p).map .c := by cases p <;> simp [getA]
theorem offA_c (v : CV) (p : List Nat) : offA (.c v) p = offC v p := by cases p <;> simp [offA]
section
variable {w : World} {S : Nat → Nat → Prop}
theorem RF.split {cs : List Value} {fs : List CV} (h : RF w S cs fs) : ∀ (i : Nat) (f : CV), fs[i]? = some f →
    ∃ pre xs post, cs = pre ++ xs ++ post ∧ pre.length = CV.sizes (fs.take i) ∧ RC w S xs f := by
  induction fs generalizing cs with
  | nil => intro i f hi; simp at hi
  | cons a fs ih =>
    cases h with
    | cons c cs _ _ h hs =>
      intro i f hi
      cases i with
      | zero => simp at hi; subst hi; exact ⟨[], c, cs, by simp, by simp [CV.sizes], h⟩
      | succ i =>
        simp at hi
        obtain ⟨pre, xs, post, h1, h2, h3⟩ := ih hs i f hi
        exact ⟨c ++ pre, xs, post, by simp [h1], by simp [CV.sizes, h2, h.length], h3⟩
theorem RC.get {cs : List Value} {v : CV} (h : RC w S cs v) : ∀ (p : List Nat) (x : CV) (o : Nat), getC v p = some x → offC v p = some o →
    ∃ xs, RC w S xs x ∧ ∀ (i : Nat) (u : Value), xs[i]? = some u → cs[o + i]? = some u := by
  intro p
  induction p generalizing cs v with
  | nil =>
    intro x o hx ho
    cases v <;> (simp only [getC, Option.some.injEq] at hx; simp only [offC, Option.some.injEq] at ho; subst hx; subst ho; exact ⟨cs, h, fun i u hu => by simpa using hu⟩)
  | cons i p ih =>
    intro x o hx ho
    cases v with
    | agg fs =>
      simp only [getC, offC] at hx ho
      cases hf : fs[i]? with
      | none => simp [hf] at hx
      | some f =>
        simp only [hf, Option.map_eq_some_iff] at hx ho
        obtain ⟨o', ho', rfl⟩ := ho
        cases h with
        | agg _ _ h =>
          obtain ⟨pre, ys, post, rfl, hl, hr⟩ := h.split i f hf
          obtain ⟨xs, h1, h2⟩ := ih hr x o' hx ho'
          refine ⟨xs, h1, fun j u hu => ?_⟩
          have h3 := h2 j u hu
          have hlt : o' + j < ys.length := by
            rcases Nat.lt_or_ge (o' + j) ys.length with h | h
            · exact h
            · simp [List.getElem?_eq_none h] at h3
          rw [List.append_assoc, List.getElem?_append_right (by omega), List.getElem?_append_left (by omega), ← h3]
          congr 1
          omega
    | arr n k ns =>
      cases p with
      | nil =>
        simp only [getC, offC] at hx ho
        split at hx
        · rename_i hlt
          simp only [Option.some.injEq] at hx
          simp only [hlt, if_true, Option.some.injEq] at ho
          subst hx; subst ho
          cases h with
          | arr _ _ _ hn =>
            refine ⟨[.int k (ns.getD i 0)], .int k _, fun j u hu => ?_⟩
            cases j with
            | zero => simp at hu; subst hu; simp [List.getElem?_eq_getElem hlt]
            | succ j => simp at hu
        · simp at hx
      | cons _ _ => simp [getC] at hx
    | _ => simp [getC] at hx
end
section
variable {g : Gh} {w : World} {S : Nat → Nat → Prop}
theorem RF.toA {cs : List Value} {fs : List CV} (h : RF w S cs fs) : RAF g w S cs (fs.map .c) := by
  induction fs generalizing cs with
  | nil => cases h; exact .nil
  | cons f fs ih => cases h with | cons c cs _ _ h hs => exact .cons c cs _ _ (.c c f h) (ih hs)
theorem RAF.toC {cs : List Value} {l : List AV} (h : RAF g w S cs l) : ∀ vs, allC l = some vs → RF w S cs vs := by
  induction l generalizing cs with
  | nil => intro vs hv; cases h; simp only [allC, Option.some.injEq] at hv; subst hv; exact .nil
  | cons a l ih =>
    intro vs hv
    cases h with
    | cons c cs _ _ h hs =>
      cases a with
      | c v =>
        simp only [allC] at hv
        cases hl : allC l with
        | none => simp [hl] at hv
        | some ws =>
          simp only [hl, Option.some.injEq] at hv
          subst hv
          cases h with
          | c _ _ h => exact .cons c cs v ws h (ih hs ws hl)
      | _ => simp [allC] at hv
theorem RAF.mk {cs : List Value} {l : List AV} (h : RAF g w S cs l) : RA g w S cs (mkAgg l) := by
  unfold mkAgg
  cases hl : allC l with
  | none => exact .agg cs l h
  | some vs => exact .c cs _ (.agg cs vs (h.toC vs hl))
theorem mkAgg_isAgg (l : List AV) : (mkAgg l).isAgg = true := by
  unfold mkAgg
  split <;> rfl
theorem RA.fields {cs : List Value} {a : AV} (h : RA g w S cs a) : ∀ l, a.fields = some l → RAF g w S cs l := by
  intro l hl
  cases a with
  | c v =>
    cases v with
    | agg fs =>
      simp only [AV.fields, Option.some.injEq] at hl
      subst hl
      cases h with | c _ _ h => cases h with | agg _ _ h => exact h.toA
    | _ => simp [AV.fields] at hl
  | agg l' => simp only [AV.fields, Option.some.injEq] at hl; subst hl; cases h with | agg _ _ h => exact h
  | _ => simp [AV.fields] at hl
theorem RAF.split {cs : List Value} {fs : List AV} (h : RAF g w S cs fs) : ∀ (i : Nat) (f : AV), fs[i]? = some f →
    ∃ pre xs post, cs = pre ++ xs ++ post ∧ pre.length = AV.sizes (fs.take i) ∧ RA g w S xs f ∧ ∀ ys y, RA g w S ys y → RAF g w S (pre ++ ys ++ post) (fs.set i y) := by
  induction fs generalizing cs with
  | nil => intro i f hi; simp at hi
  | cons a fs ih =>
    cases h with
    | cons c cs _ _ h hs =>
      intro i f hi
      cases i with
      | zero => simp at hi; subst hi; exact ⟨[], c, cs, by simp, by simp [AV.sizes], h, fun ys y hy => .cons _ _ _ _ hy hs⟩
      | succ i =>
        simp at hi
        obtain ⟨pre, xs, post, h1, h2, h3, h4⟩ := ih hs i f hi
        refine ⟨c ++ pre, xs, post, by simp [h1], by simp [AV.sizes, h2, h.length], h3, fun ys y hy => ?_⟩
        have := RAF.cons c _ a _ h (h4 ys y hy)
        simpa using this
theorem CV.sizes_map (fs : List CV) : AV.sizes (fs.map .c) = CV.sizes fs := by
  induction fs with
  | nil => rfl
  | cons f fs ih => simp [AV.sizes, CV.sizes, AV.size, ih]
theorem RA.get {cs : List Value} {v : AV} (h : RA g w S cs v) : ∀ (p : List Nat) (x : AV) (o : Nat), getA v p = some x → offA v p = some o →
    ∃ pre xs post, cs = pre ++ xs ++ post ∧ pre.length = o ∧ RA g w S xs x := by
  intro p
  induction p generalizing cs v with
  | nil =>
    intro x o hx ho
    cases v with
    | c v => simp only [getA, getC, Option.map_some, Option.some.injEq] at hx; simp only [offA, offC, Option.some.injEq] at ho; subst hx; subst ho; exact ⟨[], cs, [], by simp, rfl, by cases v <;> exact h⟩
    | _ => simp only [getA, Option.some.injEq] at hx; simp only [offA, Option.some.injEq] at ho; subst hx; subst ho; exact ⟨[], cs, [], by simp, rfl, h⟩
  | cons i p ih =>
    intro x o hx ho
    cases v with
    | c v =>
      cases v with
      | agg fs =>
        simp only [getA, getC, offA, offC] at hx ho
        cases hf : fs[i]? with
        | none => simp [hf] at hx
        | some f =>
          simp only [hf] at hx ho
          simp only [Option.map_eq_some_iff] at ho
          obtain ⟨o', ho', rfl⟩ := ho
          cases h with
          | c _ _ h =>
            cases h with
            | agg _ _ h =>
              obtain ⟨pre, ys, post, rfl, hl, hr⟩ := h.split i f hf
              obtain ⟨pre', xs, post', rfl, h1, h2⟩ := ih (v := .c f) (.c _ _ hr) x o' (by rw [getA_c]; exact hx) (by rw [offA_c]; exact ho')
              exact ⟨pre ++ pre', xs, post' ++ post, by simp, by simp [hl, h1], h2⟩
      | arr n k ns =>
        cases p with
        | nil =>
          simp only [getA, getC, offA, offC] at hx ho
          split at hx
          · rename_i hlt
            simp only [Option.map_some, Option.some.injEq] at hx
            simp only [hlt, if_true, Option.some.injEq] at ho
            subst hx; subst ho
            cases h with
            | c _ _ h =>
              cases h with
              | arr _ _ _ hn =>
                refine ⟨(ns.take i).map (.int k), [.int k (ns.getD i 0)], (ns.drop (i + 1)).map (.int k), ?_, by simp; omega, .c _ _ (.int k _)⟩
                rw [List.append_assoc, ← List.map_singleton, ← List.map_append, ← List.map_append]
                congr 1
                have h1 : ns.getD i 0 = ns[i] := by simp [List.getD_eq_getElem?_getD, List.getElem?_eq_getElem hlt]
                rw [h1, List.singleton_append, ← List.drop_eq_getElem_cons hlt, List.take_append_drop]
          · simp at hx
        | cons _ _ => simp [getA, getC] at hx
      | _ => simp [getA, getC] at hx
    | agg l =>
      simp only [getA, offA] at hx ho
      cases hf : l[i]? with
      | none => simp [hf] at hx
      | some f =>
        simp only [hf, Option.map_eq_some_iff] at hx ho
        obtain ⟨o', ho', rfl⟩ := ho
        cases h with
        | agg _ _ h =>
          obtain ⟨pre, ys, post, rfl, hl, hr, _⟩ := h.split i f hf
          obtain ⟨pre', xs, post', rfl, h1, h2⟩ := ih hr x o' hx ho'
          exact ⟨pre ++ pre', xs, post' ++ post, by simp, by simp [hl, h1], h2⟩
    | _ => simp [getA] at hx
theorem RA.set {cs : List Value} {v : AV} (h : RA g w S cs v) : ∀ (p : List Nat) (x v' : AV) (o : Nat), setA p v x = some v' → offA v p = some o →
    ∃ pre xs post old, cs = pre ++ xs ++ post ∧ pre.length = o ∧ getA v p = some old ∧ RA g w S xs old ∧ ∀ ys, RA g w S ys x → ys.length = xs.length → RA g w S (pre ++ ys ++ post) v' := by
  intro p
  induction p generalizing cs v with
  | nil =>
    intro x v' o hx ho
    simp only [setA, Option.some.injEq] at hx
    subst hx
    refine ⟨[], cs, [], v, by simp, ?_, ?_, h, fun ys hy _ => by simpa using hy⟩
    · cases v <;> simp [offA, offC] at ho <;> simp [ho]
    · cases v <;> simp [getA, getC]
  | cons i p ih =>
    intro x v' o hx ho
    cases v with
    | c v =>
      cases v with
      | agg fs =>
        simp only [setA, offA, offC] at hx ho
        cases hf : fs[i]? with
        | none => simp [hf] at hx
        | some f =>
          simp only [hf, Option.map_eq_some_iff] at hx ho
          obtain ⟨o', ho', rfl⟩ := ho
          obtain ⟨y, hy, rfl⟩ := hx
          have h' := h.fields (fs.map .c) rfl
          obtain ⟨pre, zs, post, rfl, hl, hr, hset⟩ := h'.split i (.c f) (by simp [hf])
          obtain ⟨pre', xs, post', old, rfl, h1, h2, h3, h4⟩ := ih (v := .c f) hr x y o' hy (by rw [offA_c]; exact ho')
          refine ⟨pre ++ pre', xs, post' ++ post, old, by simp, by rw [List.length_append, hl, h1, ← List.map_take, CV.sizes_map], by simpa [getA_c, getC, hf] using h2, h3, fun ys hy' hlen => ?_⟩
          have := hset _ _ (h4 ys hy' hlen)
          have e : pre ++ pre' ++ ys ++ (post' ++ post) = pre ++ (pre' ++ ys ++ post') ++ post := by simp
          rw [e]
          exact this.mk
      | arr n k ns =>
        cases p with
        | nil =>
          cases x with
          | c xv =>
            cases xv with
            | int k' xn =>
              simp only [setA, offA, offC] at hx ho
              split at hx
              · rename_i hc
                obtain ⟨rfl, hlt⟩ := hc
                simp only [Option.some.injEq] at hx
                simp only [hlt, if_true, Option.some.injEq] at ho
                subst hx; subst ho
                obtain ⟨pre, xs, post, e, hl, hr⟩ := h.get [i] (.c (.int k' (ns.getD i 0))) i (by simp [getA, getC, hlt]) (by simp [offA, offC, hlt])
                refine ⟨pre, xs, post, _, e, hl, by simp [getA, getC, hlt], hr, fun ys hy hlen => ?_⟩
                have hxl := hr.length
                simp only [AV.size, CV.size] at hxl
                cases hy with
                | c _ _ hy =>
                  cases hy
                  cases h with
                  | c _ _ h =>
                    generalize hcs : ns.map (Value.int k') = cs0 at e
                    cases h with
                    | arr _ _ _ hn =>
                      refine .c _ _ ?_
                      have e2 : pre ++ [Value.int k' xn] ++ post = (ns.set i xn).map (.int k') := by
                        rw [List.map_set, e]
                        obtain ⟨x0, rfl⟩ : ∃ x0, xs = [x0] := List.length_eq_one_iff.1 hxl
                        rw [← hl]
                        simp
                      rw [e2]
                      exact .arr n k' _ (by simp [hn])
              · simp at hx
            | _ => simp [setA] at hx
          | _ => simp [setA] at hx
        | cons _ _ => simp [setA] at hx
      | _ => simp [setA] at hx
    | agg l =>
      simp only [setA, offA] at hx ho
      cases hf : l[i]? with
      | none => simp [hf] at hx
      | some f =>
        simp only [hf, Option.map_eq_some_iff] at hx ho
        obtain ⟨o', ho', rfl⟩ := ho
        obtain ⟨y, hy, rfl⟩ := hx
        cases h with
        | agg _ _ h' =>
          obtain ⟨pre, zs, post, rfl, hl, hr, hset⟩ := h'.split i f hf
          obtain ⟨pre', xs, post', old, rfl, h1, h2, h3, h4⟩ := ih hr x y o' hy ho'
          refine ⟨pre ++ pre', xs, post' ++ post, old, by simp, by rw [List.length_append, hl, h1], by simpa [getA, hf] using h2, h3, fun ys hy' hlen => ?_⟩
          have := hset _ _ (h4 ys hy' hlen)
          have e : pre ++ pre' ++ ys ++ (post' ++ post) = pre ++ (pre' ++ ys ++ post') ++ post := by simp
          rw [e]
          exact this.mk
    | _ => simp [setA] at hx
end
end Go.Fm
/-
  Slots, cells: read and written in the world.
-/
set_option linter.unusedSimpArgs false
set_option linter.unusedVariables false
namespace Go.Fm
open Go
mutual
theorem RC.ones {w : World} {S : Nat → Nat → Prop} {cs : List Value} {v : CV} (h : RC w S cs v) : ∀ u ∈ cs, u.oneCell' = true := by
  cases h with
  | agg cs fs h => exact RF.ones h
  | arr n k ns h => intro u hu; simp only [List.mem_map] at hu; obtain ⟨_, _, rfl⟩ := hu; rfl
  | _ => simp [Value.oneCell']
theorem RF.ones {w : World} {S : Nat → Nat → Prop} {cs : List Value} {v : List CV} (h : RF w S cs v) : ∀ u ∈ cs, u.oneCell' = true := by
  cases h with
  | nil => simp
  | cons c cs f fs h hs =>
    intro u hu
    rcases List.mem_append.1 hu with hu | hu
    · exact RC.ones h u hu
    · exact RF.ones hs u hu
end
theorem RL.ones {w : World} {S : Nat → Nat → Prop} {sz : Nat} {cs : List Value} {v : List CV} (h : RL w S sz cs v) : ∀ u ∈ cs, u.oneCell' = true := by
  induction v generalizing cs with
  | nil => cases h; simp
  | cons f fs ih =>
    cases h with
    | cons _ c cs _ _ hl h hs =>
      intro u hu
      rcases List.mem_append.1 hu with hu | hu
      · exact h.ones u hu
      · exact ih hs u hu
theorem RA.ones {g : Gh} {w : World} {S : Nat → Nat → Prop} {cs : List Value} {a : AV} (h : RA g w S cs a) : ∀ u ∈ cs, u.oneCell' = true :=
  RA.rec (motive_1 := fun cs _ _ => ∀ u ∈ cs, u.oneCell' = true) (motive_2 := fun cs _ _ => ∀ u ∈ cs, u.oneCell' = true) (motive_3 := fun _ _ _ => True) (motive_4 := fun _ _ _ => True)
    (fun cs v h => h.ones) (fun _ _ _ _ => by simp [Value.oneCell']) (fun _ _ _ _ _ _ => by simp [Value.oneCell']) (fun _ _ _ _ _ _ _ => by simp [Value.oneCell'])
    (fun _ _ => by simp [Value.oneCell']) (fun _ _ _ _ _ => by simp [Value.oneCell']) (fun cs l _ h => h)
    (by simp) (fun c cs f fs _ _ h hs u hu => by
      rcases List.mem_append.1 hu with hu | hu
      · exact h u hu
      · exact hs u hu)
    (fun _ _ _ _ _ => trivial) (fun _ _ _ _ _ => trivial) (fun _ _ _ _ => trivial) (fun _ => trivial) trivial (fun _ _ _ _ _ _ _ _ => trivial) h
theorem AV.size_one : ∀ a : AV, a.isAgg = false → a.size = 1
  | .c v, h => by cases v <;> simp_all [AV.size, CV.size, AV.isAgg, CV.isAgg]
  | .agg _, h => by simp [AV.isAgg] at h
  | .ov .., _ | .os _, _ | .oe .., _ | .tup _, _ | .fn .., _ | .mp _, _ | .any, _ => by simp [AV.size]
/-- No tuple, and known. -/
@[simp] def NT (v : AV) : Prop := v ≠ .any ∧ ∀ l, v ≠ .tup l
/-- A slot's value that is no tuple: its cells. -/
theorem RV.cells {g : Gh} {w : World} {S : Nat → Nat → Prop} {v : Value} {a : AV} (h : RV g w S v a) (ht : NT a) : RA g w S v.cells.toList a ∧ (a.isAgg = true → ∃ cs, v = .agg cs) ∧ (a.isAgg = false → v.oneCell' = true) := by
  cases h with
  | one v a h ha =>
    have h1 := h.ones v (by simp)
    refine ⟨?_, fun h => by simp [ha] at h, fun _ => h1⟩
    cases v <;> first | exact h | simp [Value.oneCell'] at h1
  | agg cs a h ha => exact ⟨by simpa [Value.cells] using h, fun _ => ⟨_, rfl⟩, fun h => by simp [ha] at h⟩
  | tup vs l h => exact absurd rfl (ht.2 l)
  | any v => exact absurd rfl ht.1
theorem RA.toV {g : Gh} {w : World} {S : Nat → Nat → Prop} {cs : List Value} {a : AV} (h : RA g w S cs a) : (a.isAgg = true → RV g w S (.agg cs.toArray) a) ∧ (a.isAgg = false → ∃ u, cs = [u] ∧ RV g w S u a) := by
  refine ⟨fun ha => .agg cs a h ha, fun ha => ?_⟩
  have hl := h.length
  rw [AV.size_one a ha] at hl
  obtain ⟨u, rfl⟩ := List.length_eq_one_iff.1 hl
  exact ⟨u, rfl, .one u a h ha⟩
section
variable {P : Program}
def isAggD : TypeDesc → Bool
  | .struct _ | .array _ _ => true
  | _ => false
theorem fits_cases {t : TypeId} {sz : Nat} {agg : Bool} (h : fits P t sz agg = true) : ∃ d i, P.underlying t = some d ∧ P.info? t = some i ∧ i.size = sz ∧ agg = isAggD d ∧ (agg = false → sz = 1) := by
  unfold fits at h
  cases hu : P.underlying t with
  | none => simp [hu] at h
  | some d =>
    cases hi : P.info? t with
    | none => cases d <;> simp [hu, hi] at h
    | some i => cases d <;> simp [hu, hi, Program.cellsOf] at h <;> refine ⟨_, i, rfl, rfl, ?_, ?_, ?_⟩ <;> simp_all [isAggD]
theorem run_isAgg {t : TypeId} {d : TypeDesc} (h : P.underlying t = some d) (w : World) : (isAgg t).run P w = .ok (isAggD d) w := by
  unfold isAgg
  rw [Sem.run_bind, run_underlying h w]
  cases d <;> rfl
theorem run_sizeOf {t : TypeId} {i : TypeInfo} (h : P.info? t = some i) (w : World) : (sizeOf t).run P w = .ok i.size w := by simp [sizeOf, typeInfo, h]
theorem run_typeInfo {t : TypeId} {i : TypeInfo} (h : P.info? t = some i) (w : World) : (typeInfo t).run P w = .ok i w := by simp [typeInfo, h]
theorem run_loadVar {w : World} {b o : Nat} {t : TypeId} {cs : List Value} {agg : Bool} (hf : fits P t cs.length agg = true) (h : ∀ (i : Nat) (u : Value), cs[i]? = some u → w.cell? ⟨b, o + i, none⟩ = some u) :
    (loadVar t ⟨b, o, none⟩).run P w = .ok (if agg = true then .agg cs.toArray else cs.headD undef) w := by
  obtain ⟨d, i, hu, hi, hs, ha, h1⟩ := fits_cases hf
  cases agg with
  | true =>
    have hl := run_loadCells_list (P := P) (w := w) ⟨b, o, none⟩ cs (fun j u hj => by rw [addr_add]; exact h j u hj)
    simp only [loadVar, Sem.run_bind, run_isAgg hu, Result.andThen_ok, ← ha, run_sizeOf hi, if_true, hs, hl, Sem.run_pure]
  | false =>
    obtain ⟨u, rfl⟩ := List.length_eq_one_iff.1 (h1 rfl)
    have := h 0 u (by simp)
    simp only [Nat.add_zero] at this
    simp [loadVar, Sem.run_bind, run_isAgg hu, ← ha, this]
/-- Cells stored one behind the other, none of them marked. -/
theorem run_stores {b : Nat} {t : TypeId} {fr : Nat × Nat} : ∀ (xs : List Value) (i : Nat) (o : Nat) (pre ys post : List Value) (w : World), w.heap[b]? = some (.cells (pre ++ ys ++ post).toArray t fr) →
    pre.length = o + i → ys.length = xs.length → (∀ k, k < (pre ++ ys ++ post).length → (fr.1 ≤ k && k < fr.2) = false) → (∀ u ∈ xs, u.oneCell' = true) →
    (storeCells ⟨b, o, none⟩ xs i).run P w = .ok () (w.setRow b (pre ++ xs ++ post).toArray)
  | [], i, o, pre, ys, post, w, hg, hp, hy, hfr, h1 => by
    have : ys = [] := List.eq_nil_of_length_eq_zero hy
    subst this
    simp only [storeCells, Sem.run_pure]
    rw [setRow_self w b _ t fr hg]
  | x :: xs, i, o, pre, ys, post, w, hg, hp, hy, hfr, h1 => by
    cases ys with
    | nil => simp at hy
    | cons y ys =>
      have hc : w.cell? ⟨b, o + i, none⟩ = some y := by
        rw [cell_of_row w b (o + i) _ t fr hg]
        simp [← hp]
      have hz : w.frozen? ⟨b, o + i, none⟩ = false := by
        simp only [World.frozen?, hg]
        exact hfr (o + i) (by simp [← hp])
      have hset : w.setCell ⟨b, o + i, none⟩ x = w.setRow b (pre ++ x :: (ys ++ post)).toArray := by
        rw [setCell_eq_setRow w b (o + i) _ t fr x hg]
        congr 1
        apply Array.ext'
        simp [← hp]
      have hg' : (w.setRow b (pre ++ x :: (ys ++ post)).toArray).heap[b]? = some (.cells ((pre ++ [x]) ++ ys ++ post).toArray t fr) := by
        rw [setRow_heap w b _ _ t fr hg]
        simp
      have ih := run_stores xs (i + 1) o (pre ++ [x]) ys post _ hg' (by simp [hp]; omega) (by simpa using hy) (fun k hk => hfr k (by simpa [Nat.add_assoc, Nat.add_comm 1] using hk)) (fun u hu => h1 u (by simp [hu]))
      simp only [storeCells, Sem.run_bind]
      rw [addr_add, run_store P w _ x _ (h1 x (by simp)), hc, hz]
      simp only [Bool.false_eq_true, if_false, Result.andThen_ok, hset]
      rw [ih, setRow_setRow]
      simp
end
/-! ### Literals -/
theorem abs1_RC {w : World} {S : Nat → Nat → Prop} {v : Value} {c : CV} (h : abs1 v = some c) : RC w S [v] c ∧ c.isAgg = false := by
  unfold abs1 at h
  split at h <;> simp only [Option.some.injEq, reduceCtorEq] at h <;> subst h <;> exact ⟨by constructor, rfl⟩
theorem absInts_eq {k : IntKind} : ∀ (l : List Value) (ns : List Int), absInts k l = some ns → l = ns.map (.int k)
  | [], ns, h => by simp only [absInts, Option.some.injEq] at h; subst h; rfl
  | v :: l, ns, h => by
    cases v with
    | int k' n =>
      simp only [absInts] at h
      split at h
      · rename_i e
        subst e
        simp only [Option.map_eq_some_iff] at h
        obtain ⟨ms, h1, rfl⟩ := h
        simp [absInts_eq l ms h1]
      · simp at h
    | _ => simp [absInts] at h
theorem absFields_RF {P : Program} {w : World} {S : Nat → Nat → Prop} {rec : TypeId → List Value → Option CV} (hrec : ∀ t cs c, rec t cs = some c → RC w S cs c) :
    ∀ (fs : List Field) (cs : List Value) (vs : List CV), absFields P rec fs cs = some vs → RF w S cs vs
  | [], [], vs, h => by simp only [absFields, Option.some.injEq] at h; subst h; exact .nil
  | [], _ :: _, vs, h => by simp [absFields] at h
  | f :: fs, cs, vs, h => by
    simp only [absFields] at h
    cases h1 : rec f.type (cs.take (P.cellsOf f.type)) with
    | none => simp [h1] at h
    | some c =>
      cases h2 : absFields P rec fs (cs.drop (P.cellsOf f.type)) with
      | none => simp [h1, h2] at h
      | some cs' =>
        simp only [h1, h2, Option.some.injEq] at h
        subst h
        have := RF.cons _ _ c cs' (hrec _ _ _ h1) (absFields_RF hrec fs _ cs' h2)
        rwa [List.take_append_drop] at this
theorem absT_RC {P : Program} {w : World} {S : Nat → Nat → Prop} : ∀ (d : Nat) (t : TypeId) (cs : List Value) (c : CV), absT P d t cs = some c → RC w S cs c
  | 0, _, _, _, h => by simp [absT] at h
  | d + 1, t, cs, c, h => by
    simp only [absT] at h
    split at h
    · simp only [Option.map_eq_some_iff] at h
      obtain ⟨vs, h1, rfl⟩ := h
      exact .agg cs vs (absFields_RF (fun t cs c h => absT_RC d t cs c h) _ cs vs h1)
    · split at h
      · split at h
        · rename_i ns hns
          split at h
          · rename_i hn
            simp only [Option.some.injEq] at h
            subst h
            rw [absInts_eq cs ns hns]
            exact .arr _ _ ns hn
          · simp at h
        · simp at h
      · simp at h
    · split at h
      · exact (abs1_RC h).1
      · simp at h
    · simp at h
/-- What package-level variables hold. -/
def GlOK (C : Cfg) (w : World) (S : Nat → Nat → Prop) : Prop := ∀ n v, C.gl n = some v → ∃ cs, Here w S n 0 cs ∧ RC w S cs v
theorem GlOK.stays {C : Cfg} {w w' : World} {S S' : Nat → Nat → Prop} (h : GlOK C w S) (k : Stays w S w' S') : GlOK C w' S' := fun n v hv => by
  obtain ⟨cs, h1, h2⟩ := h n v hv
  exact ⟨cs, h1.stays k, h2.stays k⟩
/-- The slots. -/
def REnv (g : Gh) (w : World) (S : Nat → Nat → Prop) (a : Act) (e : Env) : Prop := RVs g w S a.tmps.toList e
theorem absV_RV {P : Program} {g : Gh} {w : World} {S : Nat → Nat → Prop} {t : TypeId} {v : Value} {x : AV} (h : absV P t v = some x) : RV g w S v x := by
  unfold absV at h
  split at h
  · rename_i cs
    split at h
    · rename_i l h1
      simp only [Option.some.injEq] at h
      subst h
      simpa using RV.agg (g := g) cs.toList (.c (.agg l)) (.c _ _ (absT_RC (w := w) (S := S) 12 t cs.toList _ h1)) rfl
    · rename_i n k ns h1
      simp only [Option.some.injEq] at h
      subst h
      simpa using RV.agg (g := g) cs.toList (.c (.arr n k ns)) (.c _ _ (absT_RC (w := w) (S := S) 12 t cs.toList _ h1)) rfl
    · simp at h
  · rename_i vs
    split at h
    · rename_i h0
      simp only [Option.some.injEq] at h
      subst h
      have : vs = #[] := by simpa using h0
      subst this
      exact .tup [] [] .nil
    · simp at h
  · simp only [Option.map_eq_some_iff] at h
    obtain ⟨c, h1, rfl⟩ := h
    obtain ⟨h2, h3⟩ := abs1_RC (w := w) (S := S) h1
    exact .one v (.c c) (.c _ c h2) h3
theorem ev_RV {C : Cfg} {g : Gh} {w : World} {S : Nat → Nat → Prop} {a : Act} {e : Env} (he : REnv g w S a e) (hg : GlOK C w S) {t : TypeId} {x : Operand} {v : AV} (h : ev C e t x = some v) : RV g w S (a.eval x) v := by
  cases x with
  | tmp i =>
    simp only [ev] at h
    obtain ⟨u, h1, h2⟩ := RVs.get he i v h
    have : a.eval (.tmp i) = u := by simp only [Act.eval, Array.getD_eq_getD_getElem?]; rw [← Array.getElem?_toList, h1]; rfl
    rw [this]
    exact h2
  | const u => exact absV_RV h
  | global n =>
    simp only [ev, Option.map_eq_some_iff] at h
    obtain ⟨c, h1, rfl⟩ := h
    obtain ⟨cs, h2, h3⟩ := hg n c h1
    exact .one _ _ (.c _ _ (by simpa [Act.eval] using RC.ptr n 0 0 [] c cs h2 h3)) rfl
  | func f =>
    simp only [ev, Option.some.injEq] at h
    subst h
    exact .one _ _ (.c _ _ (.fn f)) rfl
theorem REnv.put {g : Gh} {w : World} {S : Nat → Nat → Prop} {a : Act} {e : Env} (he : REnv g w S a e) {v : Value} {x : AV} (hv : RV g w S v x) (d : Option Tmp) : REnv g w S (a.put d v) (putE e d x) := by
  cases d with
  | none => exact he
  | some d =>
    unfold REnv at *
    simp only [Act.put, putE, Array.toList_setIfInBounds]
    exact RVs.set he hv d
theorem RV_undef {g : Gh} {w : World} {S : Nat → Nat → Prop} : RV g w S undef AV.undef := .tup [] [] .nil
end Go.Fm
/-
  What a step does to the interpreter's blocks: a new one, one that is written, one that is let go.
-/
set_option linter.unusedSimpArgs false
set_option linter.unusedVariables false
namespace Go.Fm
open Go
def get (H : Heap) : Nat → Option Blk := fun id => H[id]?
def Gh.new (g : Gh) (id φ β κ : Nat) (vt : Bool) (b : Blk) : Gh :=
  { φ := fun j => if j = id then φ else g.φ j, β := fun j => if j = id then β else g.β j, κ := fun j => if j = id then κ else g.κ j, vt := fun j => if j = id then vt else g.vt j, G := fun j => if j = id then some b else g.G j }
def Gh.set (g : Gh) (id : Nat) (b : Blk) : Gh := { g with G := fun j => if j = id then some b else g.G j }
theorem get_new (H : Heap) (b : Blk) : (fun j => if j = H.length then some b else get H j) = get (H ++ [b]) := by
  funext j
  unfold get
  by_cases h : j = H.length
  · subst h; simp
  · rw [if_neg h]
    rcases Nat.lt_or_ge j H.length with h1 | h1
    · rw [List.getElem?_append_left h1]
    · rw [List.getElem?_append_right h1, List.getElem?_eq_none (by omega), List.getElem?_eq_none (by simp; omega)]
theorem get_set (H : Heap) (id : Nat) (b : Blk) (h : id < H.length) : (fun j => if j = id then some b else get H j) = get (H.set id b) := by
  funext j
  unfold get
  by_cases e : j = id
  · subst e; simp [h]
  · rw [if_neg e, List.getElem?_set_ne (fun h => e h.symm)]
theorem get_lt {H : Heap} {id : Nat} {b : Blk} (h : get H id = some b) : id < H.length := (List.getElem?_eq_some_iff.1 h).1
theorem RB.step {g g' : Gh} {w w' : World} {S S' : Nat → Nat → Prop} (k : Step g w g' w') (ks : Stays w S w' S') {id : Nat} {b : Blk} (h0 : g.G id = some b) (h : RB g w S id b)
    (hm : b.ok = false → g.vt id = false → w'.heap[g.φ id]? = w.heap[g.φ id]?) (hv : b.ok = false → b.len? = none → g.vt id = false) : RB g' w' S' id b := by
  obtain ⟨b', _, h2, h3, h4, h5, _, _⟩ := k.ids id b h0
  cases b with
  | var t v =>
    obtain ⟨cs, h6, h7⟩ := h
    exact ⟨cs, by rw [h2, hm rfl (hv rfl rfl)]; exact h6, h7.step k ks⟩
  | fvar t v =>
    obtain ⟨cs, h6, h7⟩ := h
    exact ⟨cs, by rw [h2]; exact h6.stays ks, h7.stays ks⟩
  | row t sz es =>
    rcases h with ⟨h6, h7, h8⟩ | ⟨h6, pre, cs, post, fr, h7, h8, h9, h10, h11, h12, h13⟩
    · exact .inl ⟨by rw [h5]; exact h6, h7, by rw [h4]; exact h8⟩
    · exact .inr ⟨by rw [h5]; exact h6, pre, cs, post, fr, by rw [h2, hm rfl h6]; exact h7, h8, by rw [h3]; exact h9, by rw [h4]; exact h10, h11.stays ks, by rw [h4]; exact h12, by rw [h4]; exact h13⟩
  | frow t sz es =>
    rcases h with ⟨h6, h7⟩ | ⟨h6, cs, h7, h8, h9, h10⟩
    · exact .inl ⟨by rw [h5]; exact h6, h7⟩
    · exact .inr ⟨by rw [h5]; exact h6, cs, by rw [h2, h3]; exact h7.stays ks, h8.stays ks, by rw [h4]; exact h9, by rw [h4]; exact h10⟩
  | mp es =>
    obtain ⟨ents, clock, h6, h7, h8⟩ := h
    refine ⟨ents, clock, by rw [h2, hm rfl (hv rfl rfl)]; exact h6, h7, fun i kk v hi => ?_⟩
    obtain ⟨en, k1, k2, k3⟩ := h8 i kk v hi
    exact ⟨en, k1, k2.step k ks, k3.step k ks⟩
  | dead => trivial
/-- Variables and maps are never virtual. -/
def Gh.real (g : Gh) : Prop := ∀ id b, g.G id = some b → b.ok = false → b.len? = none → g.vt id = false
theorem Inv.next {S0 : Nat → Nat → Prop} {g g' : Gh} {w w' : World} (hI : Inv S0 g w) (hR : g.real) (k : Step g w g' w')
    (h : ∀ id b, g'.G id = some b → (g.G id = some b ∧ (b.ok = false → g.vt id = false → w'.heap[g.φ id]? = w.heap[g.φ id]?)) ∨ RB g' w' (g'.St S0) id b)
    (lt : ∀ id b, g'.G id = some b → g'.vt id = false → g'.φ id < w'.heap.size)
    (inj : ∀ i bi j bj, g'.G i = some bi → g'.G j = some bj → bi.ok = false → bj.ok = false → g'.vt i = false → g'.vt j = false → i ≠ j → g'.φ i ≠ g'.φ j)
    (s0 : ∀ id b, g'.G id = some b → b.ok = false → g'.vt id = false → ∀ o, S0 (g'.φ id) o) : Inv S0 g' w' where
  blk := fun id b hb => by
    rcases h id b hb with ⟨h1, h2⟩ | h1
    · exact (hI.blk id b h1).step k (k.stays S0) h1 h2 (fun h3 h4 => hR id b h1 h3 h4)
    · exact h1
  lt := lt
  inj := inj
  fresh := fun b o hb => hI.fresh b o (Nat.le_trans k.size hb)
  s0 := s0
/-- All that is known of a running call. -/
structure Ok (C : Cfg) (S0 : Nat → Nat → Prop) (g : Gh) (w : World) (H : Heap) : Prop where
  inv : Inv S0 g w
  real : g.real
  gl : GlOK C w (g.St S0)
  heap : g.G = get H
/-- Worlds that differ in what has been drawn alone. -/
structure Like (w w' : World) : Prop where
  heap : w'.heap = w.heap
  os : w'.os = w.os
  tape : w'.tape = w.tape
  output : w'.output = w.output
theorem Like.refl (w : World) : Like w w := ⟨rfl, rfl, rfl, rfl⟩
theorem Like.drew (w : World) : Like w w.drew := ⟨rfl, rfl, rfl, rfl⟩
theorem Step.like {g : Gh} {w w' : World} (h : Like w w') : Step g w g w' :=
  ⟨by rw [h.heap]; exact Nat.le_refl _, h.os, h.tape, h.output, fun _ b hb => ⟨b, hb, rfl, rfl, rfl, rfl, fun _ h => h, fun _ h => h⟩, fun b _ hf => ⟨by rw [h.heap], hf⟩⟩
theorem Ok.like {C : Cfg} {S0 : Nat → Nat → Prop} {g : Gh} {w w' : World} {H : Heap} (h : Ok C S0 g w H) (hl : Like w w') : Ok C S0 g w' H where
  inv := h.inv.next h.real (Step.like hl) (fun id b hb => .inl ⟨hb, fun _ _ => by rw [hl.heap]⟩) (fun id b hb hv => by rw [hl.heap]; exact h.inv.lt id b hb hv) h.inv.inj h.inv.s0
  real := h.real
  gl := h.gl.stays ((Step.like hl).stays S0)
  heap := h.heap
/-- A new block. -/
theorem Ok.alloc {C : Cfg} {S0 : Nat → Nat → Prop} {g : Gh} {w w1 : World} {H : Heap} (h : Ok C S0 g w H) (hl : Like w w1) (o : Obj) (b : Blk) (κ : Nat)
    (hb : ∀ g', g' = g.new H.length w.heap.size 0 κ false b → Step g w g' (w1.alloc o) → (w1.alloc o).heap[w.heap.size]? = some o → g'.φ H.length = w.heap.size → g'.β H.length = 0 → g'.κ H.length = κ → g'.vt H.length = false → RB g' (w1.alloc o) (g'.St S0) H.length b) :
    ∃ g', Ok C S0 g' (w1.alloc o) (H ++ [b]) ∧ Step g w g' (w1.alloc o) ∧ g'.φ H.length = w.heap.size ∧ g'.β H.length = 0 ∧ g'.κ H.length = κ ∧ g'.vt H.length = false := by
  let g' := g.new H.length w.heap.size 0 κ false b
  have hnone : g.G H.length = none := by rw [h.heap]; simp [get]
  have hne : ∀ id c, g.G id = some c → id ≠ H.length := fun id c hc e => by rw [e, hnone] at hc; cases hc
  have hheap : (w1.alloc o).heap = w.heap.push o := by simp [World.alloc, hl.heap]
  have hsize : (w1.alloc o).heap.size = w.heap.size + 1 := by rw [hheap]; simp
  have hold : ∀ k, k < w.heap.size → (w1.alloc o).heap[k]? = w.heap[k]? := fun k hk => by rw [hheap, Array.getElem?_push, if_neg (by omega)]
  have hnew : (w1.alloc o).heap[w.heap.size]? = some o := by rw [hheap]; simp
  have e1 : g'.φ H.length = w.heap.size := by simp [g', Gh.new]
  have e2 : g'.β H.length = 0 := by simp [g', Gh.new]
  have e3 : g'.κ H.length = κ := by simp [g', Gh.new]
  have e4 : g'.vt H.length = false := by simp [g', Gh.new]
  have hother : ∀ id, id ≠ H.length → g'.φ id = g.φ id ∧ g'.β id = g.β id ∧ g'.κ id = g.κ id ∧ g'.vt id = g.vt id ∧ g'.G id = g.G id := fun id hid => by simp [g', Gh.new, hid]
  have k : Step g w g' (w1.alloc o) := {
    size := by rw [hsize]; omega
    os := hl.os
    tape := hl.tape
    output := hl.output
    ids := fun id c hc => by
      obtain ⟨h1, h2, h3, h4, h5⟩ := hother id (hne id c hc)
      exact ⟨c, by rw [h5]; exact hc, h1, h2, h3, h4, fun _ h => h, fun _ h => h⟩
    keep := fun j hj hf => ⟨hold j hj, fun id c hc hok hv => by
      by_cases hid : id = H.length
      · subst hid; rw [e1]; omega
      · obtain ⟨h1, h2, h3, h4, h5⟩ := hother id hid
        rw [h1]
        exact hf id c (by rw [← h5]; exact hc) hok (by rw [← h4]; exact hv)⟩ }
  have hRB := hb g' rfl k hnew e1 e2 e3 e4
  refine ⟨g', ⟨h.inv.next h.real k (fun id c hc => ?_) (fun id c hc hv => ?_) (fun i bi j bj hi hj oi oj vi vj hij => ?_) (fun id c hc hbk hv o => ?_), fun id c hc hok hlen => ?_, h.gl.stays (k.stays S0), ?_⟩, k, e1, e2, e3, e4⟩
  · by_cases hid : id = H.length
    · subst hid
      have : g'.G H.length = some b := by simp [g', Gh.new]
      rw [this] at hc
      injection hc with hc
      subst hc
      exact .inr hRB
    · obtain ⟨h1, h2, h3, h4, h5⟩ := hother id hid
      rw [h5] at hc
      exact .inl ⟨hc, fun _ hv => hold _ (h.inv.lt id c hc hv)⟩
  · by_cases hid : id = H.length
    · subst hid; rw [e1, hsize]; omega
    · obtain ⟨h1, h2, h3, h4, h5⟩ := hother id hid
      rw [h1, hsize]
      have := h.inv.lt id c (by rw [← h5]; exact hc) (by rw [← h4]; exact hv)
      omega
  · by_cases ii : i = H.length
    · subst ii
      obtain ⟨h1, h2, h3, h4, h5⟩ := hother j (fun e => hij e.symm)
      have := h.inv.lt j bj (by rw [← h5]; exact hj) (by rw [← h4]; exact vj)
      rw [e1, h1]
      omega
    · obtain ⟨h1, h2, h3, h4, h5⟩ := hother i ii
      have h6 := h.inv.lt i bi (by rw [← h5]; exact hi) (by rw [← h4]; exact vi)
      by_cases jj : j = H.length
      · subst jj; rw [e1, h1]; omega
      · obtain ⟨k1, k2, k3, k4, k5⟩ := hother j jj
        rw [h1, k1]
        exact h.inv.inj i bi j bj (by rw [← h5]; exact hi) (by rw [← k5]; exact hj) oi oj (by rw [← h4]; exact vi) (by rw [← k4]; exact vj) hij
  · by_cases hid : id = H.length
    · subst hid; rw [e1]; exact h.inv.fresh _ o (Nat.le_refl _)
    · obtain ⟨h1, h2, h3, h4, h5⟩ := hother id hid
      rw [h1]
      exact h.inv.s0 id c (by rw [← h5]; exact hc) hbk (by rw [← h4]; exact hv) o
  · by_cases hid : id = H.length
    · subst hid; exact e4
    · obtain ⟨h1, h2, h3, h4, h5⟩ := hother id hid
      rw [h4]
      exact h.real id c (by rw [← h5]; exact hc) hok hlen
  · rw [← get_new, ← h.heap]; rfl
/-- A block of one's own turns into another one at the same place (it is written, or let go). -/
theorem Ok.set {C : Cfg} {S0 : Nat → Nat → Prop} {g : Gh} {w w' : World} {H : Heap} (h : Ok C S0 g w H) {id : Nat} {b b' : Blk} (h0 : get H id = some b) (hv : g.vt id = false ∨ w' = w)
    (hal : b.ok = false) (hlen : ∀ n, b'.len? = some n → b.len? = some n) (hsz : ∀ n, b'.sz? = some n → b.sz? = some n) (hreal : b'.ok = false → b'.len? = none → b.len? = none)
    (hw : Like w w' ∨ (w'.heap.size = w.heap.size ∧ w'.os = w.os ∧ w'.tape = w.tape ∧ w'.output = w.output ∧ ∀ k, k ≠ g.φ id → w'.heap[k]? = w.heap[k]?))
    (hb : Step g w (g.set id b') w' → RB (g.set id b') w' ((g.set id b').St S0) id b') :
    Ok C S0 (g.set id b') w' (H.set id b') ∧ Step g w (g.set id b') w' := by
  have h0' : g.G id = some b := by rw [h.heap]; exact h0
  have hother : ∀ j, j ≠ id → (g.set id b').G j = g.G j := fun j hj => by simp [Gh.set, hj]
  have hself : (g.set id b').G id = some b' := by simp [Gh.set]
  have hsize : w'.heap.size = w.heap.size := by
    rcases hw with hw | hw
    · rw [hw.heap]
    · exact hw.1
  have hkeep : ∀ k, (g.vt id = false → k ≠ g.φ id) → w'.heap[k]? = w.heap[k]? := fun k hk => by
    rcases hw with hw | ⟨_, _, _, _, hw⟩
    · rw [hw.heap]
    · rcases hv with hv | hv
      · exact hw k (hk hv)
      · rw [hv]
  have k : Step g w (g.set id b') w' := {
    size := by rw [hsize]; exact Nat.le_refl _
    os := by rcases hw with hw | hw; exact hw.os; exact hw.2.1
    tape := by rcases hw with hw | hw; exact hw.tape; exact hw.2.2.1
    output := by rcases hw with hw | hw; exact hw.output; exact hw.2.2.2.1
    ids := fun j c hc => by
      by_cases hj : j = id
      · subst hj
        rw [h0'] at hc
        injection hc with hc
        subst hc
        exact ⟨b', hself, rfl, rfl, rfl, rfl, hlen, hsz⟩
      · exact ⟨c, by rw [hother j hj]; exact hc, rfl, rfl, rfl, rfl, fun _ h => h, fun _ h => h⟩
    keep := fun j hj hf => ⟨hkeep j (fun hv e => hf id b h0' hal hv e.symm), fun i c hc hok hv => by
      by_cases hi : i = id
      · subst hi; exact hf i b h0' hal hv
      · exact hf i c (by rw [← hother i hi]; exact hc) hok hv⟩ }
  refine ⟨⟨h.inv.next h.real k (fun j c hc => ?_) (fun j c hc hv => ?_) (fun i bi j bj hi hj oi oj vi vj hij => ?_) (fun j c hc hbk hv o => ?_), fun j c hc hok hl => ?_, h.gl.stays (k.stays S0), ?_⟩, k⟩
  · by_cases hj : j = id
    · subst hj
      rw [hself] at hc
      injection hc with hc
      subst hc
      exact .inr (hb k)
    · rw [hother j hj] at hc
      exact .inl ⟨hc, fun ho hvj => hkeep _ (fun hvi => h.inv.inj j c id b hc h0' ho hal hvj hvi hj)⟩
  · rw [hsize]
    by_cases hj : j = id
    · subst hj; exact h.inv.lt j b h0' hv
    · exact h.inv.lt j c (by rw [← hother j hj]; exact hc) hv
  · have f1 : ∃ c, g.G i = some c ∧ c.ok = false := by
      by_cases e : i = id
      · exact ⟨b, by rw [e]; exact h0', hal⟩
      · exact ⟨bi, by rw [← hother i e]; exact hi, oi⟩
    have f2 : ∃ c, g.G j = some c ∧ c.ok = false := by
      by_cases e : j = id
      · exact ⟨b, by rw [e]; exact h0', hal⟩
      · exact ⟨bj, by rw [← hother j e]; exact hj, oj⟩
    obtain ⟨c1, a1, a2⟩ := f1
    obtain ⟨c2, b1, b2⟩ := f2
    exact h.inv.inj i c1 j c2 a1 b1 a2 b2 vi vj hij
  · by_cases hj : j = id
    · subst hj; exact h.inv.s0 j b h0' hal hv o
    · exact h.inv.s0 j c (by rw [← hother j hj]; exact hc) hbk hv o
  · by_cases hj : j = id
    · subst hj
      rw [hself] at hc
      injection hc with hc
      subst hc
      exact h.real j b h0' hal (hreal hok hl)
    · exact h.real j c (by rw [← hother j hj]; exact hc) hok hl
  · rw [← get_set H id b' (get_lt h0), ← h.heap]; rfl
/-- A new row of no elements, which lies nowhere. -/
theorem Ok.virt {C : Cfg} {S0 : Nat → Nat → Prop} {g : Gh} {w : World} {H : Heap} (h : Ok C S0 g w H) (t : TypeId) (sz : Nat) :
    ∃ g', Ok C S0 g' w (H ++ [.row t sz []]) ∧ Step g w g' w ∧ g'.vt H.length = true := by
  let b : Blk := .row t sz []
  let g' := g.new H.length 0 0 0 true b
  have hnone : g.G H.length = none := by rw [h.heap]; simp [get]
  have hne : ∀ id c, g.G id = some c → id ≠ H.length := fun id c hc e => by rw [e, hnone] at hc; cases hc
  have e4 : g'.vt H.length = true := by simp [g', Gh.new]
  have hself : g'.G H.length = some b := by simp [g', Gh.new]
  have hother : ∀ id, id ≠ H.length → g'.φ id = g.φ id ∧ g'.β id = g.β id ∧ g'.κ id = g.κ id ∧ g'.vt id = g.vt id ∧ g'.G id = g.G id := fun id hid => by simp [g', Gh.new, hid]
  have hvne : ∀ id, g'.vt id = false → id ≠ H.length := fun id hv e => by rw [e, e4] at hv; cases hv
  have k : Step g w g' w := {
    size := Nat.le_refl _
    os := rfl
    tape := rfl
    output := rfl
    ids := fun id c hc => by
      obtain ⟨h1, h2, h3, h4, h5⟩ := hother id (hne id c hc)
      exact ⟨c, by rw [h5]; exact hc, h1, h2, h3, h4, fun _ h => h, fun _ h => h⟩
    keep := fun j hj hf => ⟨rfl, fun id c hc hok hv => by
      obtain ⟨h1, h2, h3, h4, h5⟩ := hother id (hvne id hv)
      rw [h1]
      exact hf id c (by rw [← h5]; exact hc) hok (by rw [← h4]; exact hv)⟩ }
  refine ⟨g', ⟨h.inv.next h.real k (fun id c hc => ?_) (fun id c hc hv => ?_) (fun i bi j bj hi hj oi oj vi vj hij => ?_) (fun id c hc hbk hv o => ?_), fun id c hc hok hlen => ?_, h.gl.stays (k.stays S0), ?_⟩, k, e4⟩
  · by_cases hid : id = H.length
    · subst hid
      rw [hself] at hc
      injection hc with hc
      subst hc
      exact .inr (.inl ⟨e4, rfl, by simp [g', Gh.new]⟩)
    · obtain ⟨h1, h2, h3, h4, h5⟩ := hother id hid
      rw [h5] at hc
      exact .inl ⟨hc, fun _ _ => rfl⟩
  · obtain ⟨h1, h2, h3, h4, h5⟩ := hother id (hvne id hv)
    rw [h1]
    exact h.inv.lt id c (by rw [← h5]; exact hc) (by rw [← h4]; exact hv)
  · obtain ⟨h1, h2, h3, h4, h5⟩ := hother i (hvne i vi)
    obtain ⟨k1, k2, k3, k4, k5⟩ := hother j (hvne j vj)
    rw [h1, k1]
    exact h.inv.inj i bi j bj (by rw [← h5]; exact hi) (by rw [← k5]; exact hj) oi oj (by rw [← h4]; exact vi) (by rw [← k4]; exact vj) hij
  · obtain ⟨h1, h2, h3, h4, h5⟩ := hother id (hvne id hv)
    rw [h1]
    exact h.inv.s0 id c (by rw [← h5]; exact hc) hbk (by rw [← h4]; exact hv) o
  · by_cases hid : id = H.length
    · subst hid
      rw [hself] at hc
      injection hc with hc
      subst hc
      simp [b, Blk.len?] at hlen
    · obtain ⟨h1, h2, h3, h4, h5⟩ := hother id hid
      rw [h4]
      exact h.real id c (by rw [← h5]; exact hc) hok hlen
  · rw [← get_new, ← h.heap]; rfl
/-- One's own block goes on under another number; the old number is dead. -/
theorem Ok.move {C : Cfg} {S0 : Nat → Nat → Prop} {g : Gh} {w w' : World} {H : Heap} (h : Ok C S0 g w H) {id : Nat} {b b' : Blk} (h0 : get H id = some b) (hv : g.vt id = false) (hal : b.ok = false) (β κ : Nat)
    (hw : w'.heap.size = w.heap.size ∧ w'.os = w.os ∧ w'.tape = w.tape ∧ w'.output = w.output ∧ ∀ k, k ≠ g.φ id → w'.heap[k]? = w.heap[k]?)
    (hb : ∀ g', Step g w g' w' → g'.φ H.length = g.φ id → g'.β H.length = β → g'.κ H.length = κ → g'.vt H.length = false → RB g' w' (g'.St S0) H.length b') :
    ∃ g', Ok C S0 g' w' (H.set id .dead ++ [b']) ∧ Step g w g' w' ∧ g'.φ H.length = g.φ id ∧ g'.β H.length = β ∧ g'.κ H.length = κ ∧ g'.vt H.length = false := by
  let g1 := g.set id .dead
  let g' := g1.new H.length (g.φ id) β κ false b'
  have h0' : g.G id = some b := by rw [h.heap]; exact h0
  have hlt : id < H.length := get_lt h0
  have hnone : g.G H.length = none := by rw [h.heap]; simp [get]
  have hne : ∀ j c, g.G j = some c → j ≠ H.length := fun j c hc e => by rw [e, hnone] at hc; cases hc
  have hother : ∀ j, j ≠ H.length → g'.φ j = g.φ j ∧ g'.β j = g.β j ∧ g'.κ j = g.κ j ∧ g'.vt j = g.vt j ∧ g'.G j = if j = id then some .dead else g.G j := fun j hj => by simp [g', g1, Gh.new, Gh.set, hj]
  have e1 : g'.φ H.length = g.φ id := by simp [g', Gh.new]
  have e2 : g'.β H.length = β := by simp [g', Gh.new]
  have e3 : g'.κ H.length = κ := by simp [g', Gh.new]
  have e4 : g'.vt H.length = false := by simp [g', Gh.new]
  have hself : g'.G H.length = some b' := by simp [g', Gh.new]
  obtain ⟨w1, w2, w3, w4, w5⟩ := hw
  -- an old block that is still written is another one
  have hold : ∀ j c, j ≠ H.length → g'.G j = some c → c.ok = false → g'.vt j = false → j ≠ id ∧ g.G j = some c ∧ g.φ j ≠ g.φ id := fun j c hj hc hok hvj => by
    obtain ⟨h1, h2, h3, h4, h5⟩ := hother j hj
    rw [h5] at hc
    by_cases e : j = id
    · rw [if_pos e] at hc
      injection hc with hc
      subst hc
      simp [Blk.ok] at hok
    · rw [if_neg e] at hc
      exact ⟨e, hc, h.inv.inj j c id b hc h0' hok hal (by rw [← h4]; exact hvj) hv e⟩
  have k : Step g w g' w' := {
    size := by rw [w1]; exact Nat.le_refl _
    os := w2
    tape := w3
    output := w4
    ids := fun j c hc => by
      obtain ⟨h1, h2, h3, h4, h5⟩ := hother j (hne j c hc)
      by_cases e : j = id
      · rw [if_pos e] at h5
        exact ⟨.dead, h5, h1, h2, h3, h4, fun _ h => by simp [Blk.len?] at h, fun _ h => by simp [Blk.sz?] at h⟩
      · rw [if_neg e] at h5
        exact ⟨c, by rw [h5]; exact hc, h1, h2, h3, h4, fun _ h => h, fun _ h => h⟩
    keep := fun j hj hf => by
      have hjn : j ≠ g.φ id := fun e => hf id b h0' hal hv e.symm
      refine ⟨w5 j hjn, fun i c hc hok hvi => ?_⟩
      by_cases hi : i = H.length
      · subst hi; rw [e1]; exact fun e => hjn e.symm
      · obtain ⟨k1, k2, _⟩ := hold i c hi hc hok hvi
        obtain ⟨h1, h2, h3, h4, h5⟩ := hother i hi
        rw [h1]
        exact hf i c k2 hok (by rw [← h4]; exact hvi) }
  have hRB := hb g' k e1 e2 e3 e4
  refine ⟨g', ⟨h.inv.next h.real k (fun j c hc => ?_) (fun j c hc hvj => ?_) (fun i bi j bj hi hj oi oj vi vj hij => ?_) (fun j c hc hbk hvj o => ?_), fun j c hc hok hl => ?_, h.gl.stays (k.stays S0), ?_⟩, k, e1, e2, e3, e4⟩
  · by_cases hj : j = H.length
    · subst hj
      rw [hself] at hc
      injection hc with hc
      subst hc
      exact .inr hRB
    · obtain ⟨h1, h2, h3, h4, h5⟩ := hother j hj
      by_cases e : j = id
      · rw [h5, if_pos e] at hc
        injection hc with hc
        subst hc
        exact .inr trivial
      · have hc' := hc
        rw [h5, if_neg e] at hc'
        exact .inl ⟨hc', fun hok hvj => w5 _ (h.inv.inj j c id b hc' h0' hok hal hvj hv e)⟩
  · rw [w1]
    by_cases hj : j = H.length
    · subst hj; rw [e1]; exact h.inv.lt id b h0' hv
    · obtain ⟨h1, h2, h3, h4, h5⟩ := hother j hj
      rw [h1]
      by_cases e : j = id
      · rw [e]; exact h.inv.lt id b h0' hv
      · rw [h5, if_neg e] at hc
        exact h.inv.lt j c hc (by rw [← h4]; exact hvj)
  · by_cases hi' : i = H.length
    · subst hi'
      obtain ⟨k1, k2, k3⟩ := hold j bj (fun e => hij e.symm) hj oj vj
      obtain ⟨h1, _⟩ := hother j (fun e => hij e.symm)
      rw [e1, h1]
      exact fun e => k3 e.symm
    · obtain ⟨k1, k2, k3⟩ := hold i bi hi' hi oi vi
      obtain ⟨h1, h2, h3, h4, h5⟩ := hother i hi'
      by_cases hj' : j = H.length
      · subst hj'; rw [e1, h1]; exact k3
      · obtain ⟨m1, m2, m3⟩ := hold j bj hj' hj oj vj
        obtain ⟨n1, n2, n3, n4, n5⟩ := hother j hj'
        rw [h1, n1]
        exact h.inv.inj i bi j bj k2 m2 oi oj (by rw [← h4]; exact vi) (by rw [← n4]; exact vj) hij
  · by_cases hj : j = H.length
    · subst hj; rw [e1]; exact h.inv.s0 id b h0' hal hv o
    · obtain ⟨h1, h2, h3, h4, h5⟩ := hother j hj
      rw [h1]
      by_cases e : j = id
      · rw [e]; exact h.inv.s0 id b h0' hal hv o
      · rw [h5, if_neg e] at hc
        exact h.inv.s0 j c hc hbk (by rw [← h4]; exact hvj) o
  · by_cases hj : j = H.length
    · subst hj; exact e4
    · obtain ⟨h1, h2, h3, h4, h5⟩ := hother j hj
      rw [h4]
      by_cases e : j = id
      · rw [e]; exact hv
      · rw [h5, if_neg e] at hc
        exact h.real j c hc hok hl
  · have e : g'.G = fun j => if j = (H.set id .dead).length then some b' else get (H.set id .dead) j := by
      funext j
      simp only [List.length_set]
      by_cases hj : j = H.length
      · subst hj; rw [hself, if_pos rfl]
      · obtain ⟨h1, h2, h3, h4, h5⟩ := hother j hj
        rw [h5, if_neg hj, ← get_set H id .dead hlt, h.heap]
    rw [e, get_new]
end Go.Fm
/-
  Each operation does in the world what the interpreter says: the plain ones.
-/
set_option linter.unusedSimpArgs false
set_option linter.unusedVariables false
namespace Go.Fm
open Go
section
variable {g : Gh} {w : World} {S : Nat → Nat → Prop} {u : Value}
theorem RV.cv {v : CV} (h : RV g w S u (.c v)) : RC w S u.cells.toList v ∧ (v.isAgg = true → ∃ cs, u = .agg cs) ∧ (v.isAgg = false → u.oneCell' = true) := by
  obtain ⟨h1, h2, h3⟩ := h.cells (by simp)
  generalize e : u.cells.toList = l at h1
  cases h1 with
  | c _ _ h1 => exact ⟨h1, h2, h3⟩
theorem RA.toC {cs : List Value} {v : CV} (h : RA g w S cs (.c v)) : RC w S cs v := by
  cases h with
  | c _ _ h => exact h
theorem cells_one {u : Value} (h : u.oneCell' = true) : u.cells.toList = [u] := by
  cases u <;> simp [Value.cells, Value.oneCell'] at *
theorem RV.cv1 {v : CV} (h : RV g w S u (.c v)) (hv : v.isAgg = false) : RC w S [u] v := by
  obtain ⟨h1, _, h3⟩ := h.cv
  rwa [cells_one (h3 hv)] at h1
theorem RV_bool {b : Bool} (h : RV g w S u (.c (.bool b))) : u = .bool b := by have := h.cv1 rfl; generalize e : [u] = l at this; cases this; injection e
theorem RV_int {k : IntKind} {n : Int} (h : RV g w S u (.c (.int k n))) : u = .int k n := by have := h.cv1 rfl; generalize e : [u] = l at this; cases this; injection e
theorem RV_str {s : ByteArray} (h : RV g w S u (.c (.str s))) : u = .string s := by have := h.cv1 rfl; generalize e : [u] = l at this; cases this; injection e
theorem RV_nilp (h : RV g w S u (.c .nilp)) : u = .pointer none := by have := h.cv1 rfl; generalize e : [u] = l at this; cases this; injection e
theorem RV_nilsl (h : RV g w S u (.c .nilsl)) : u = .slice none 0 0 := by have := h.cv1 rfl; generalize e : [u] = l at this; cases this; injection e
theorem RV_slc {sz : Nat} {e : CV} {es : List CV} (h : RV g w S u (.c (.sl sz (e :: es)))) : ∃ b o n c, u = .slice (some ⟨b, o, none⟩) n c := by
  have := h.cv1 rfl
  generalize e : [u] = l at this
  cases this with
  | sl b o cap _ _ cs h1 h2 h3 h4 => injection e with e; exact ⟨b, o, _, _, e⟩
theorem RV_nilmap (h : RV g w S u (.c .nilmap)) : u = .map none := by have := h.cv1 rfl; generalize e : [u] = l at this; cases this; injection e
theorem RV_nilif (h : RV g w S u (.c .nilif)) : u = .nilIface := by have := h.cv1 rfl; generalize e : [u] = l at this; cases this; injection e
theorem RV_ptr {r : CV} {p : List Nat} {off : Nat} (h : RV g w S u (.c (.ptr r p off))) : ∃ b o cs, u = .pointer (some ⟨b, o + off, none⟩) ∧ Here w S b o cs ∧ RC w S cs r := by
  have := h.cv1 rfl
  generalize e : [u] = l at this
  cases this with
  | ptr b o _ _ _ cs h1 h2 => injection e with e; exact ⟨b, o, cs, e, h1, h2⟩
theorem RV_ov {id : Nat} {p : List Nat} {off : Nat} (h : RV g w S u (.ov id p off)) : u = .pointer (some ⟨g.φ id, off, none⟩) ∧ (g.G id).isSome = true := by
  cases h with
  | one _ _ h _ => cases h with | ov _ _ _ hs => exact ⟨rfl, hs⟩
  | agg _ _ _ ha => simp [AV.isAgg] at ha
theorem RV_os {id : Nat} (h : RV g w S u (.os id)) : ∃ a n c, u = .slice a n c ∧ (g.G id).isSome = true ∧ ∀ m, (g.G id).bind Blk.len? = some m → Value.slice a n c = g.rowVal id m := by
  cases h with
  | one _ _ h _ => cases h with | os _ a n c hs h => exact ⟨a, n, c, rfl, hs, h⟩
  | agg _ _ _ ha => simp [AV.isAgg] at ha
theorem RV_oe {id i : Nat} {p : List Nat} {off : Nat} (h : RV g w S u (.oe id i p off)) : ∃ ad, u = .pointer (some ad) ∧ (g.G id).isSome = true ∧ ∀ sz, (g.G id).bind Blk.sz? = some sz → ad = ⟨g.φ id, g.β id + i * sz + off, none⟩ := by
  cases h with
  | one _ _ h _ => cases h with | oe _ _ _ _ ad hs h => exact ⟨ad, rfl, hs, h⟩
  | agg _ _ _ ha => simp [AV.isAgg] at ha
theorem RV_mp {id : Nat} (h : RV g w S u (.mp id)) : u = .map (some (g.φ id)) ∧ (g.G id).isSome = true := by
  cases h with
  | one _ _ h _ => cases h with | mp _ hs => exact ⟨rfl, hs⟩
  | agg _ _ _ ha => simp [AV.isAgg] at ha
theorem RV_tup {l : List AV} (h : RV g w S u (.tup l)) : ∃ vs, u = .tuple vs.toArray ∧ RVs g w S vs l := by
  cases h with
  | one _ _ h _ => cases h
  | agg _ _ h _ => cases h
  | tup vs _ h => exact ⟨vs, rfl, h⟩
theorem RV_fn {f : FuncId} {cap : List AV} (h : RV g w S u (.fn f cap)) : ∃ vs, u = .func (.func f) #[] vs.toArray ∧ RVs g w S vs cap := by
  cases h with
  | one _ _ h _ => cases h with | fn _ vs _ h => exact ⟨vs, rfl, h⟩
  | agg _ _ _ ha => simp [AV.isAgg] at ha
theorem RV_cfn {f : FuncId} (h : RV g w S u (.c (.fn f))) : u = .func (.func f) #[] #[] := by have := h.cv1 rfl; generalize e : [u] = l at this; cases this; injection e
theorem RV_iface {t : TypeId} {v : CV} (h : RV g w S u (.c (.iface t v))) : ∃ x, u = .iface t x ∧ RC w S x.cells.toList v ∧ ((∃ cs, x = .agg cs) ↔ v.isAgg = true) := by
  have := h.cv1 rfl
  generalize e : [u] = l at this
  cases this with
  | iface _ x _ h hg => injection e with e; exact ⟨x, e, h, hg⟩
theorem RV_arr {n : Nat} {k : IntKind} {ns : List Int} (h : RV g w S u (.c (.arr n k ns))) : u = .agg (ns.map (Value.int k)).toArray ∧ ns.length = n := by
  obtain ⟨h1, h2, _⟩ := h.cv
  obtain ⟨cs, rfl⟩ := h2 rfl
  simp only [Value.cells] at h1
  generalize e : cs.toList = l at h1
  cases h1 with
  | arr _ _ _ hn => exact ⟨by rw [← e, Array.toArray_toList], hn⟩
theorem RV_agg {fs : List CV} (h : RV g w S u (.c (.agg fs))) : ∃ cs : List Value, u = .agg cs.toArray ∧ RF w S cs fs := by
  obtain ⟨h1, h2, _⟩ := h.cv
  obtain ⟨cs, rfl⟩ := h2 rfl
  simp only [Value.cells] at h1
  generalize e : cs.toList = l at h1
  cases h1 with
  | agg _ _ h => exact ⟨l, by rw [← e, Array.toArray_toList], h⟩
theorem RV.ofC1 {v : CV} (h : RC w S [u] v) (hv : v.isAgg = false) : RV g w S u (.c v) := .one u (.c v) (.c _ v h) hv
theorem RV.ofA {cs : List Value} {v : AV} (h : RA g w S cs v) (hv : v.isAgg = true) : RV g w S (.agg cs.toArray) v := .agg cs v h hv
end
/-- What is to be shown of an operation. -/
def RunsV (C : Cfg) (S0 : Nat → Nat → Prop) (g : Gh) (w : World) (H' : Heap) (v : AV) (s : Sem Value) : Prop :=
  ∃ u w' g', s.run C.P w = .ok u w' ∧ Ok C S0 g' w' H' ∧ Step g w g' w' ∧ RV g' w' (g'.St S0) u v
section
variable {C : Cfg} {S0 : Nat → Nat → Prop} {g : Gh} {w : World} {H : Heap}
theorem RunsV.same (hO : Ok C S0 g w H) {s : Sem Value} {u : Value} {v : AV} (hr : s.run C.P w = .ok u w) (hv : RV g w (g.St S0) u v) : RunsV C S0 g w H v s :=
  ⟨u, w, g, hr, hO, Step.refl g w, hv⟩
/-- A block's elements, as a row reads. -/
theorem row_here (hO : Ok C S0 g w H) {id : Nat} {t : TypeId} {sz : Nat} {es : List CV} (h : rowOf H id = some (t, sz, es)) :
    (g.G id).bind Blk.len? = some es.length ∧ (g.G id).bind Blk.sz? = some sz ∧ ((g.vt id = true ∧ es = []) ∨ (g.vt id = false ∧ ∃ cs : List Value, (∀ (i : Nat) (u : Value), cs[i]? = some u → w.cell? ⟨g.φ id, g.β id + i, none⟩ = some u) ∧ RL w (g.St S0) sz cs es ∧ es.length ≤ g.κ id ∧ g.κ id ≤ maxLen)) := by
  unfold rowOf at h
  split at h
  · rename_i t' sz' es' hb
    simp only [Option.some.injEq, Prod.mk.injEq] at h
    obtain ⟨rfl, rfl, rfl⟩ := h
    have hG : g.G id = some (.row t' sz' es') := by rw [hO.heap]; exact hb
    refine ⟨by rw [hG]; rfl, by rw [hG]; rfl, ?_⟩
    rcases hO.inv.blk id _ hG with ⟨h1, h2, _⟩ | ⟨h1, pre, cs, post, fr, h2, h3, h4, h5, h6, h7, h8⟩
    · exact .inl ⟨h1, h2⟩
    · refine .inr ⟨h1, cs, fun i u hi => ?_, h6, h7, h8⟩
      rw [cell_of_row w _ _ _ _ fr h2]
      have hlt : i < cs.length := (List.getElem?_eq_some_iff.1 hi).1
      simp only [List.getElem?_toArray]
      rw [List.append_assoc, List.getElem?_append_right (by omega), List.getElem?_append_left (by omega), ← hi]
      congr 1
      omega
  · rename_i t' sz' es' hb
    simp only [Option.some.injEq, Prod.mk.injEq] at h
    obtain ⟨rfl, rfl, rfl⟩ := h
    have hG : g.G id = some (.frow t' sz' es') := by rw [hO.heap]; exact hb
    refine ⟨by rw [hG]; rfl, by rw [hG]; rfl, ?_⟩
    rcases hO.inv.blk id _ hG with ⟨h1, h2⟩ | ⟨h1, cs, h2, h3, h4, h5⟩
    · exact .inl ⟨h1, h2⟩
    · exact .inr ⟨h1, cs, fun i u hi => (h2 i u hi).1, h3, h4, h5⟩
  · simp at h
theorem RL.split {w : World} {S : Nat → Nat → Prop} {sz : Nat} {cs : List Value} {es : List CV} (h : RL w S sz cs es) : ∀ (i : Nat) (e : CV), es[i]? = some e →
    ∃ pre xs post, cs = pre ++ xs ++ post ∧ pre.length = i * sz ∧ xs.length = sz ∧ RC w S xs e ∧ ∀ ys y, ys.length = sz → RC w S ys y → RL w S sz (pre ++ ys ++ post) (es.set i y) := by
  induction es generalizing cs with
  | nil => intro i f hi; simp at hi
  | cons a fs ih =>
    cases h with
    | cons _ c cs _ _ hl h hs =>
      intro i f hi
      cases i with
      | zero => simp at hi; subst hi; exact ⟨[], c, cs, by simp, by simp, hl, h, fun ys y h1 h2 => .cons _ _ _ _ _ h1 h2 hs⟩
      | succ i =>
        simp at hi
        obtain ⟨pre, xs, post, h1, h2, h3, h4, h5⟩ := ih hs i f hi
        refine ⟨c ++ pre, xs, post, by simp [h1], by simp [h2, hl, Nat.add_mul]; omega, h3, h4, fun ys y k1 k2 => ?_⟩
        have := RL.cons sz c _ a _ hl h (h5 ys y k1 k2)
        simpa using this
theorem getD_some {es : List CV} {i : Nat} (h : i < es.length) : es[i]? = some (es.getD i .nilp) := by simp [List.getD_eq_getElem?_getD, List.getElem?_eq_getElem h]
def RunsL (C : Cfg) (S0 : Nat → Nat → Prop) (g : Gh) (w : World) (v : AV) (s : Sem Value) : Prop := ∃ u, s.run C.P w = .ok u w ∧ RV g w (g.St S0) u v
theorem aload_run (hO : Ok C S0 g w H) {t : TypeId} {p v : AV} {pu : Value} (hp : RV g w (g.St S0) pu p) (h : aload C H t p = some v) : RunsL C S0 g w v (Instr.loadAt t pu) := by
  have fin : ∀ (b o : Nat) (cs : List Value) (v : AV), pu = .pointer (some ⟨b, o, none⟩) → (∀ (i : Nat) (u : Value), cs[i]? = some u → w.cell? ⟨b, o + i, none⟩ = some u) → RA g w (g.St S0) cs v → fits C.P t v.size v.isAgg = true → RunsL C S0 g w v (Instr.loadAt t pu) := by
    intro b o cs v hpu hc hr hf
    rw [← hr.length] at hf
    have hl := run_loadVar (P := C.P) (w := w) hf hc
    refine ⟨if v.isAgg = true then .agg cs.toArray else cs.headD undef, by rw [hpu]; simpa [Instr.loadAt, Instr.sureAddr] using hl, ?_⟩
    obtain ⟨h1, h2⟩ := hr.toV
    cases ha : v.isAgg with
    | true => simpa using h1 ha
    | false =>
      obtain ⟨u, rfl, h3⟩ := h2 ha
      simpa using h3
  unfold aload at h
  split at h
  · rename_i root path off
    split at h
    · rename_i x o hx ho
      split at h
      · rename_i hc
        obtain ⟨rfl, hf⟩ := hc
        simp only [Option.some.injEq] at h
        subst h
        obtain ⟨b, o', cs, hpu, h1, h2⟩ := RV_ptr hp
        obtain ⟨xs, h3, h4⟩ := h2.get path x o hx ho
        exact fin b (o' + o) xs (.c x) hpu (fun i u hu => by have := (h1 _ u (h4 i u hu)).1; rwa [← Nat.add_assoc] at this) (.c xs x h3) hf
      · simp at h
    · simp at h
  · rename_i id path off
    obtain ⟨hpu, hs⟩ := RV_ov hp
    split at h
    · rename_i t' v' hb
      have hG : g.G id = some (.var t' v') := by rw [hO.heap]; exact hb
      obtain ⟨cs, h1, h2⟩ := hO.inv.blk id _ hG
      split at h
      · rename_i x o hx ho
        split at h
        · rename_i hc
          obtain ⟨rfl, hf⟩ := hc
          simp only [Option.some.injEq] at h
          subst h
          obtain ⟨pre, xs, post, rfl, h3, h4⟩ := h2.get path x o hx ho
          refine fin (g.φ id) o xs x hpu (fun i u hu => ?_) h4 hf
          rw [cell_of_row w _ _ _ _ _ h1]
          have hlt : i < xs.length := (List.getElem?_eq_some_iff.1 hu).1
          simp only [List.getElem?_toArray]
          rw [List.append_assoc, List.getElem?_append_right (by omega), List.getElem?_append_left (by omega), ← hu]
          congr 1
          omega
        · simp at h
      · simp at h
    · rename_i t' v' hb
      have hG : g.G id = some (.fvar t' v') := by rw [hO.heap]; exact hb
      obtain ⟨cs, h1, h2⟩ := hO.inv.blk id _ hG
      split at h
      · rename_i x o hx ho
        split at h
        · rename_i hc
          obtain ⟨rfl, hf⟩ := hc
          simp only [Option.some.injEq] at h
          subst h
          obtain ⟨xs, h3, h4⟩ := h2.get path x o hx ho
          exact fin (g.φ id) o xs (.c x) hpu (fun i u hu => by have := (h1 _ u (h4 i u hu)).1; simpa using this) (.c xs x h3) hf
        · simp at h
      · simp at h
    · simp at h
  · rename_i id i path off
    obtain ⟨ad, hpu, hs, had⟩ := RV_oe hp
    split at h
    · rename_i t' sz es hrow
      obtain ⟨r1, r2, r3⟩ := row_here hO hrow
      split at h
      · rename_i x o hx ho
        split at h
        · rename_i hc
          obtain ⟨rfl, hi, hf⟩ := hc
          simp only [Option.some.injEq] at h
          subst h
          rcases r3 with ⟨_, rfl⟩ | ⟨r3, cs, r4, r5, _⟩
          · simp at hi
          · obtain ⟨pre, ys, post, rfl, h2, h3, h4, _⟩ := r5.split i _ (getD_some hi)
            obtain ⟨xs, h5, h6⟩ := h4.get path x o hx ho
            refine fin (g.φ id) (g.β id + i * sz + o) xs (.c x) (by rw [hpu, had sz r2]) (fun j u hu => ?_) (.c xs x h5) hf
            have h7 := h6 j u hu
            have hlt : o + j < ys.length := (List.getElem?_eq_some_iff.1 h7).1
            have := r4 (i * sz + (o + j)) u (by rw [List.append_assoc, List.getElem?_append_right (by omega), List.getElem?_append_left (by omega), ← h7]; congr 1; omega)
            rw [← this]
            congr 2
            omega
        · simp at h
      · simp at h
    · simp at h
  · simp at h
theorem aload_ok (hO : Ok C S0 g w H) {t : TypeId} {p v : AV} {pu : Value} (hp : RV g w (g.St S0) pu p) (h : aload C H t p = some v) : RunsV C S0 g w H v (Instr.loadAt t pu) := by
  obtain ⟨u, h1, h2⟩ := aload_run hO hp h
  exact RunsV.same hO h1 h2
theorem astore_ok (hO : Ok C S0 g w H) {t : TypeId} {p x : AV} {d : Dl} {pu xu : Value} (hp : RV g w (g.St S0) pu p) (hx : RV g w (g.St S0) xu x) (hxt : NT x) (h : astore C H t p x = some d) :
    ∃ w' g', (Instr.storeAt t pu xu).run C.P w = .ok () w' ∧ Ok C S0 g' w' (d.on H) ∧ Step g w g' w' := by
  obtain ⟨hxa, hxg, hx1⟩ := hx.cells hxt
  have hones := hxa.ones
  have hxl := hxa.length
  have fin : ∀ (b o : Nat) (u : TypeId) (fr : Nat × Nat) (pre ys post : List Value), pu = .pointer (some ⟨b, o, none⟩) → w.heap[b]? = some (.cells (pre ++ ys ++ post).toArray u fr) → pre.length = o → ys.length = xu.cells.toList.length →
      (∀ k, k < (pre ++ ys ++ post).length → (fr.1 ≤ k && k < fr.2) = false) → fits C.P t x.size x.isAgg = true →
      (Instr.storeAt t pu xu).run C.P w = .ok () (w.setRow b (pre ++ xu.cells.toList ++ post).toArray) := by
    intro b o u fr pre ys post hpu hg hl hy hfr hf
    obtain ⟨_, i, _, hi, hs, _, _⟩ := fits_cases hf
    have hst := run_stores (P := C.P) xu.cells.toList 0 o pre ys post w hg (by simpa using hl) hy hfr hones
    have hsz : xu.cells.size = i.size := by rw [hs, ← hxl]; simp
    rw [hpu]
    simp [Instr.storeAt, Instr.sureAddr, storeVar, run_sizeOf hi, hsz, hst]
  unfold astore at h
  split at h
  · rename_i id path off
    obtain ⟨hpu, hs⟩ := RV_ov hp
    split at h
    · rename_i u v hb
      have hG : g.G id = some (.var u v) := by rw [hO.heap]; exact hb
      have hvt : g.vt id = false := hO.real id _ hG rfl rfl
      obtain ⟨cs, h1, h2⟩ := hO.inv.blk id _ hG
      split at h
      · rename_i old o v' hold ho hset
        split at h
        · rename_i hc
          obtain ⟨rfl, hf, hsz⟩ := hc
          simp only [Option.some.injEq] at h
          subst h
          obtain ⟨pre, ys, post, old', rfl, h3, h4, h5, h6⟩ := h2.set path x v' o hset ho
          have hoo : old' = old := by rw [hold] at h4; injection h4 with h4; exact h4.symm
          subst hoo
          have hyl : ys.length = xu.cells.toList.length := by rw [h5.length, hsz, hxl]
          have hrun := fin (g.φ id) o u (0, 0) pre ys post hpu h1 h3 hyl (by simp) hf
          obtain ⟨k1, k2⟩ := hO.set (b := .var u v) (b' := .var u v') (w' := w.setRow (g.φ id) (pre ++ xu.cells.toList ++ post).toArray) hb (.inl hvt) rfl (fun _ h => h) (fun _ h => h) (fun _ h => h)
            (.inr ⟨by simp, rfl, rfl, rfl, fun k hk => setRow_other w _ k _ hk⟩)
            (fun k => ⟨pre ++ xu.cells.toList ++ post, setRow_heap w _ _ _ _ _ h1, (h6 _ hxa hyl.symm).step k (k.stays S0)⟩)
          exact ⟨_, _, hrun, k1, k2⟩
        · simp at h
      · simp at h
    · simp at h
  · rename_i id i path off
    obtain ⟨ad, hpu, hs, had⟩ := RV_oe hp
    split at h
    · rename_i u sz es hb
      have hG : g.G id = some (.row u sz es) := by rw [hO.heap]; exact hb
      split at h
      · rename_i o v' old ho hset hold
        split at h
        · rename_i hc
          obtain ⟨rfl, hi, hf, hsz⟩ := hc
          simp only [Option.some.injEq] at h
          subst h
          have hadr := had sz (by rw [hG]; rfl)
          rcases hO.inv.blk id _ hG with ⟨_, rfl, _⟩ | ⟨hvt, pre, cs, post, fr, r1, r2, r3, r4, r5, r6, r7⟩
          · simp at hi
          · obtain ⟨pre', ys, post', rfl, s1, s2, s3, s4⟩ := r5.split i _ (getD_some hi)
            obtain ⟨p2, zs, q2, old', rfl, s5, s6, s7, s8⟩ := (RA.c (g := g) ys _ s3).set path x (.c v') o hset (by rw [offA_c]; exact ho)
            have hoo : old' = .c old := by rw [getA_c, hold] at s6; injection s6 with s6; exact s6.symm
            subst hoo
            have hzl : zs.length = xu.cells.toList.length := by rw [s7.length, hxl, ← hsz]; rfl
            have hrun := fin (g.φ id) (g.β id + i * sz + o) u fr (pre ++ pre' ++ p2) zs (q2 ++ post' ++ post) (by rw [hpu, hadr]) (by simpa using r1) (by simp [r3, s1, s5]; omega) hzl (by simpa using r2.out) hf
            have hz' : zs.length = xu.cells.size := by simpa using hzl
            have hnew : RC w (g.St S0) (p2 ++ xu.cells.toList ++ q2) v' := (s8 _ hxa hzl.symm).toC
            have hnl : (p2 ++ xu.cells.toList ++ q2).length = sz := by rw [← s2]; simp [hzl]
            obtain ⟨k1, k2⟩ := hO.set (b := .row u sz es) (b' := .row u sz (es.set i v')) (w' := w.setRow (g.φ id) (pre ++ pre' ++ p2 ++ xu.cells.toList ++ (q2 ++ post' ++ post)).toArray) hb (.inl hvt) rfl
              (fun n hn => by simpa [Blk.len?] using hn) (fun n hn => by simpa [Blk.sz?] using hn) (fun _ h => by simp [Blk.len?] at h)
              (.inr ⟨by simp, rfl, rfl, rfl, fun k hk => setRow_other w _ k _ hk⟩)
              (fun k => .inr ⟨hvt, pre, pre' ++ (p2 ++ xu.cells.toList ++ q2) ++ post', post, fr, by
                  have := setRow_heap w (g.φ id) _ (pre ++ pre' ++ p2 ++ xu.cells.toList ++ (q2 ++ post' ++ post)).toArray u fr r1
                  show (w.setRow (g.φ id) _).heap[g.φ id]? = _
                  simpa using this, ⟨r2.le, r2.big, fun o ho => r2.out o (by simp at ho ⊢; omega)⟩, r3, by
                  show g.κ id * sz ≤ _
                  simp only [List.length_append, Array.length_toList] at r4 ⊢; omega, (s4 _ v' hnl hnew).stays (k.stays S0), by show _ ≤ g.κ id; simpa using r6, r7⟩)
            exact ⟨_, _, hrun, k1, k2⟩
        · simp at h
      · simp at h
    · simp at h
  · simp at h
end
end Go.Fm
/-
  What is owned, let go; addresses.
-/
set_option linter.unusedSimpArgs false
set_option linter.unusedVariables false
namespace Go.Fm
open Go
section
variable {C : Cfg} {S0 : Nat → Nat → Prop}
theorem rowVal_real {g : Gh} {id n : Nat} (h : g.vt id = false) : g.rowVal id n = .slice (some ⟨g.φ id, g.β id, none⟩) n (g.κ id) := by simp [Gh.rowVal, h]
theorem rowVal_virt {g : Gh} {id n : Nat} (h : g.vt id = true) : g.rowVal id n = .slice none 0 0 := by simp [Gh.rowVal, h]
/-- Nothing that is written lies where a block lies that was let go. -/
theorem free_set {g : Gh} {w : World} {H : Heap} (hO : Ok C S0 g w H) {id : Nat} {b b' : Blk} (hG : g.G id = some b) (hal : b.ok = false) (hok : b'.ok = true) (hv : g.vt id = false) : (g.set id b').free (g.φ id) := by
  intro j c hc ho hvj
  by_cases hj : j = id
  · subst hj
    simp [Gh.set] at hc
    subst hc
    rw [hok] at ho
    cases ho
  · have hc' : g.G j = some c := by simpa [Gh.set, hj] using hc
    exact hO.inv.inj j c id b hc' hG ho hal hvj hv hj
theorem toC_ok : ∀ (d : Nat) (H : Heap) (v : AV) (c : CV) (H' : Heap), toC d H v = some (c, H') → ∀ (g : Gh) (w : World) (cs : List Value), Ok C S0 g w H → RA g w (g.St S0) cs v →
    ∃ g', Ok C S0 g' w H' ∧ Step g w g' w ∧ RC w (g'.St S0) cs c ∧ c.isAgg = v.isAgg := by
  intro d
  induction d with
  | zero => intro H v c H' h; simp [toC] at h
  | succ d ih =>
    have ihs : ∀ (l : List AV) (H : Heap) (vs : List CV) (H' : Heap), toCsW (toC d) H l = some (vs, H') → ∀ (g : Gh) (w : World) (cs : List Value), Ok C S0 g w H → RAF g w (g.St S0) cs l →
        ∃ g', Ok C S0 g' w H' ∧ Step g w g' w ∧ RF w (g'.St S0) cs vs := by
      intro l
      induction l with
      | nil =>
        intro H vs H' h g w cs hO hr
        simp only [toCsW, Option.some.injEq, Prod.mk.injEq] at h
        obtain ⟨rfl, rfl⟩ := h
        cases hr
        exact ⟨g, hO, Step.refl g w, .nil⟩
      | cons v l ihl =>
        intro H vs H' h g w cs hO hr
        simp only [toCsW] at h
        split at h
        · rename_i c H1 h1
          split at h
          · rename_i cs' H2 h2
            simp only [Option.some.injEq, Prod.mk.injEq] at h
            obtain ⟨rfl, rfl⟩ := h
            cases hr with
            | cons a as _ _ ha has =>
              obtain ⟨g1, k1, k2, k3, _⟩ := ih H v c H1 h1 g w a hO ha
              obtain ⟨g2, m1, m2, m3⟩ := ihl H1 cs' H2 h2 g1 w as k1 (has.step k2 (k2.stays S0))
              exact ⟨g2, m1, k2.trans m2, .cons a as c cs' (k3.stays (m2.stays S0)) m3⟩
          · simp at h
        · simp at h
    intro H v c H' h g w cs hO hr
    cases v with
    | c v =>
      simp only [toC, Option.some.injEq, Prod.mk.injEq] at h
      obtain ⟨rfl, rfl⟩ := h
      exact ⟨g, hO, Step.refl g w, hr.toC, rfl⟩
    | os id =>
      simp only [toC] at h
      have hcs : ∃ a n c', cs = [.slice a n c'] ∧ (∀ m, (g.G id).bind Blk.len? = some m → Value.slice a n c' = g.rowVal id m) := by
        cases hr with | os _ a n c' hs h => exact ⟨a, n, c', rfl, h⟩
      obtain ⟨a, n, c', rfl, hval⟩ := hcs
      split at h
      · rename_i t sz es hb
        simp only [Option.some.injEq, Prod.mk.injEq] at h
        obtain ⟨rfl, rfl⟩ := h
        have hG : g.G id = some (.row t sz es) := by rw [hO.heap]; exact hb
        have hval' := hval es.length (by rw [hG]; rfl)
        have hblk := hO.inv.blk id _ hG
        have hset : Ok C S0 (g.set id (.frow t sz es)) w (H.set id (.frow t sz es)) ∧ Step g w (g.set id (.frow t sz es)) w := by
          refine hO.set (b := .row t sz es) hb (.inr rfl) rfl (fun n hn => hn) (fun n hn => hn) (fun h => by simp [Blk.ok] at h) (.inl (Like.refl w)) (fun k => ?_)
          rcases hblk with ⟨h1, h2, h3⟩ | ⟨h1, pre, xs, post, fr, h2, h3, h4, h5, h6, h7, h8⟩
          · exact .inl ⟨h1, h2⟩
          · refine .inr ⟨h1, xs, fun i u hi => ⟨?_, hO.inv.s0 id _ hG rfl h1 _, free_set hO hG rfl rfl h1⟩, h6.stays (k.stays S0), h7, h8⟩
            show w.cell? ⟨g.φ id, g.β id + i, none⟩ = _
            rw [cell_of_row w _ _ _ _ fr h2]
            have hlt : i < xs.length := (List.getElem?_eq_some_iff.1 hi).1
            simp only [List.getElem?_toArray]
            rw [List.append_assoc, List.getElem?_append_right (by omega), List.getElem?_append_left (by omega), ← hi]
            congr 1
            omega
        obtain ⟨k1, k2⟩ := hset
        refine ⟨_, k1, k2, ?_, rfl⟩
        rw [hval']
        have hfin := k1.inv.blk id (.frow t sz es) (by simp [Gh.set])
        rcases hfin with ⟨h1, h2⟩ | ⟨h1, xs, h2, h3, h4, h5⟩
        · have h1' : g.vt id = true := h1
          subst h2
          rw [rowVal_virt h1']
          exact .sl0 sz none 0 (by simp [maxLen])
        · have h1' : g.vt id = false := h1
          rw [rowVal_real h1']
          exact .sl _ _ _ sz es xs h2 h3 h4 h5
      · rename_i t sz es hb
        simp only [Option.some.injEq, Prod.mk.injEq] at h
        obtain ⟨rfl, rfl⟩ := h
        have hG : g.G id = some (.frow t sz es) := by rw [hO.heap]; exact hb
        have hval' := hval es.length (by rw [hG]; rfl)
        refine ⟨g, hO, Step.refl g w, ?_, rfl⟩
        rw [hval']
        rcases hO.inv.blk id _ hG with ⟨h1, h2⟩ | ⟨h1, xs, h2, h3, h4, h5⟩
        · subst h2
          rw [rowVal_virt h1]
          exact .sl0 sz none 0 (by simp [maxLen])
        · rw [rowVal_real h1]
          exact .sl _ _ _ sz es xs h2 h3 h4 h5
      · simp at h
    | ov id p off =>
      cases p with
      | cons _ _ => simp [toC] at h
      | nil =>
        simp only [toC] at h
        split at h
        · rename_i h0
          subst h0
          have hcs : cs = [.pointer (some ⟨g.φ id, 0, none⟩)] := by cases hr; rfl
          subst hcs
          split at h
          · rename_i t v hb
            split at h
            · rename_i cv H1 h1
              split at h
              · rename_i t1 v1 hb1
                simp only [Option.some.injEq, Prod.mk.injEq] at h
                obtain ⟨rfl, rfl⟩ := h
                have hG : g.G id = some (.var t v) := by rw [hO.heap]; exact hb
                obtain ⟨xs, hx, hxa⟩ := hO.inv.blk id _ hG
                obtain ⟨g1, k1, k2, k3, _⟩ := ih H v cv H1 h1 g w xs hO hxa
                have hG1 : g1.G id = some (.var t1 v1) := by rw [k1.heap]; exact hb1
                have hvt1 : g1.vt id = false := k1.real id _ hG1 rfl rfl
                have hphi : g1.φ id = g.φ id := k2.phi (by rw [hG]; rfl)
                obtain ⟨m1, m2⟩ := k1.set (b := .var t1 v1) (b' := .fvar t cv) (w' := w) hb1 (.inr rfl) rfl (fun n hn => by simp [Blk.len?] at hn) (fun n hn => by simp [Blk.sz?] at hn) (fun h => by simp [Blk.ok] at h) (.inl (Like.refl w)) (fun k => by
                  refine ⟨xs, fun i u hi => ⟨?_, k1.inv.s0 id _ hG1 rfl hvt1 _, free_set k1 hG1 rfl rfl hvt1⟩, k3.stays (k.stays S0)⟩
                  show w.cell? ⟨g1.φ id, 0 + i, none⟩ = _
                  rw [hphi, cell_of_row w _ _ _ _ _ hx]
                  simpa using hi)
                refine ⟨_, m1, k2.trans m2, ?_, rfl⟩
                obtain ⟨ys, h2, h3⟩ := m1.inv.blk id (.fvar t cv) (by simp [Gh.set])
                have e : (g1.set id (.fvar t cv)).φ id = g.φ id := hphi
                rw [e] at h2
                simpa using RC.ptr (g.φ id) 0 0 [] cv ys h2 h3
              · simp at h
            · simp at h
          · rename_i t cv hb
            simp only [Option.some.injEq, Prod.mk.injEq] at h
            obtain ⟨rfl, rfl⟩ := h
            have hG : g.G id = some (.fvar t cv) := by rw [hO.heap]; exact hb
            obtain ⟨xs, hx, hxa⟩ := hO.inv.blk id _ hG
            exact ⟨g, hO, Step.refl g w, by simpa using RC.ptr (g.φ id) 0 0 [] cv xs hx hxa, rfl⟩
          · simp at h
        · simp at h
    | agg l =>
      simp only [toC] at h
      split at h
      · rename_i vs H1 h1
        simp only [Option.some.injEq, Prod.mk.injEq] at h
        obtain ⟨rfl, rfl⟩ := h
        cases hr with
        | agg _ _ hr =>
          obtain ⟨g1, k1, k2, k3⟩ := ihs l H vs H1 h1 g w cs hO hr
          exact ⟨g1, k1, k2, .agg cs vs k3, rfl⟩
      · simp at h
    | _ => simp [toC] at h
end
end Go.Fm
/-
  Addresses, elements, lengths.
-/
set_option linter.unusedSimpArgs false
set_option linter.unusedVariables false
namespace Go.Fm
open Go
section
variable {C : Cfg} {S0 : Nat → Nat → Prop} {g : Gh} {w : World} {H : Heap}
theorem RV_ptr_mk {S : Nat → Nat → Prop} {b o off : Nat} {p : List Nat} {r : CV} {cs : List Value} (h1 : Here w S b o cs) (h2 : RC w S cs r) : RV g w S (.pointer (some ⟨b, o + off, none⟩)) (.c (.ptr r p off)) :=
  RV.ofC1 (.ptr b o off p r cs h1 h2) rfl
theorem RV_ov_mk {S : Nat → Nat → Prop} {id off : Nat} {p : List Nat} (hs : (g.G id).isSome = true) : RV g w S (.pointer (some ⟨g.φ id, off, none⟩)) (.ov id p off) := .one _ _ (.ov id p off hs) rfl
theorem RV_oe_mk {S : Nat → Nat → Prop} {id i off : Nat} {p : List Nat} {ad : Addr} (hs : (g.G id).isSome = true) (h : ∀ sz, (g.G id).bind Blk.sz? = some sz → ad = ⟨g.φ id, g.β id + i * sz + off, none⟩) : RV g w S (.pointer (some ad)) (.oe id i p off) := .one _ _ (.oe id i p off ad hs h) rfl
theorem afieldAddr_ok (hO : Ok C S0 g w H) {s : TypeId} {f : Nat} {x v : AV} {xu : Value} (hx : RV g w (g.St S0) xu x) (h : afieldAddr C s f x = some v) : RunsV C S0 g w H v (Instr.fieldAt s xu f) := by
  unfold afieldAddr at h
  split at h
  · rename_i fields hu
    split at h
    · rename_i fd hf
      split at h
      · rename_i hc
        obtain ⟨h1, h2⟩ := hc
        obtain ⟨i, hi⟩ := Option.isSome_iff_exists.1 h1
        have hz : i.size ≠ 0 := by simpa [Program.cellsOf, hi] using h2
        have hrun : ∀ ad : Addr, xu = .pointer (some ad) → (Instr.fieldAt s xu f).run C.P w = .ok (.pointer (some (ad.add fd.offset))) w := by
          intro ad e
          rw [e]
          simp [Instr.fieldAt, run_underlying hu, hf, Instr.sureAddr, fieldPlace, run_sizeOf hi, hz]
        split at h
        · rename_i root path off
          simp only [Option.some.injEq] at h
          subst h
          obtain ⟨b, o, cs, e, h3, h4⟩ := RV_ptr hx
          refine RunsV.same hO (hrun _ e) ?_
          rw [addr_add, Nat.add_assoc]
          exact RV_ptr_mk h3 h4
        · rename_i id path off
          simp only [Option.some.injEq] at h
          subst h
          obtain ⟨e, hs⟩ := RV_ov hx
          refine RunsV.same hO (hrun _ e) ?_
          rw [addr_add]
          exact RV_ov_mk hs
        · rename_i id i path off
          simp only [Option.some.injEq] at h
          subst h
          obtain ⟨ad, e, hs, had⟩ := RV_oe hx
          refine RunsV.same hO (hrun _ e) (RV_oe_mk hs fun sz hsz => ?_)
          rw [had sz hsz, addr_add, Nat.add_assoc]
        · simp at h
      · simp at h
    · simp at h
  · simp at h
theorem intOf_eq {S : Nat → Nat → Prop} {x : AV} {u : Value} {k : IntKind} {i : Int} (hx : RV g w S u x) (h : intOf x = some (k, i)) : u = .int k i := by
  unfold intOf at h
  split at h
  · simp only [Option.some.injEq, Prod.mk.injEq] at h
    obtain ⟨rfl, rfl⟩ := h
    exact RV_int hx
  · simp at h
theorem aindexAddr_ok (hO : Ok C S0 g w H) {t : TypeId} {x ix v : AV} {xu iu : Value} (hx : RV g w (g.St S0) xu x) (hi : RV g w (g.St S0) iu ix) (h : aindexAddr C H t x ix = some v) : RunsV C S0 g w H v (Instr.indexAt t xu iu) := by
  unfold aindexAddr at h
  split at h
  · rename_i k i n e hk hu
    have hiu := intOf_eq hi hk
    subst hiu
    split at h
    · rename_i hb
      split at h
      · rename_i hc
        obtain ⟨h1, h2⟩ := hc
        obtain ⟨inf, hinf⟩ := Option.isSome_iff_exists.1 h2
        have hsz : inf.size = 1 := by simpa [Program.cellsOf, hinf] using h1
        have hrun : ∀ ad : Addr, xu = .pointer (some ad) → (Instr.indexAt t xu (.int k i)).run C.P w = .ok (.pointer (some (ad.add i.toNat))) w := by
          intro ad e
          rw [e]
          simp [Instr.indexAt, asIntOf, run_underlying hu, Instr.sureAddr, run_sizeOf hinf, hsz, hb.1, hb.2]
        split at h
        · simp only [Option.some.injEq] at h
          subst h
          obtain ⟨b, o, cs, e, h3, h4⟩ := RV_ptr hx
          refine RunsV.same hO (hrun _ e) ?_
          rw [addr_add, Nat.add_assoc]
          exact RV_ptr_mk h3 h4
        · simp only [Option.some.injEq] at h
          subst h
          obtain ⟨e, hs⟩ := RV_ov hx
          refine RunsV.same hO (hrun _ e) ?_
          rw [addr_add]
          exact RV_ov_mk hs
        · simp only [Option.some.injEq] at h
          subst h
          obtain ⟨ad, e, hs, had⟩ := RV_oe hx
          refine RunsV.same hO (hrun _ e) (RV_oe_mk hs fun sz hsz => ?_)
          rw [had sz hsz, addr_add, Nat.add_assoc]
        · simp at h
      · simp at h
    · simp at h
  · rename_i k i e hk hu
    have hiu := intOf_eq hi hk
    subst hiu
    have hrun : ∀ (ad : Addr) (n c : Nat) (inf : TypeInfo), C.P.info? e = some inf → 0 ≤ i → i < n → xu = .slice (some ad) n c → (Instr.indexAt t xu (.int k i)).run C.P w = .ok (.pointer (some (ad.add (i.toNat * inf.size)))) w := by
      intro ad n c inf hinf h1 h2 e
      rw [e]
      simp [Instr.indexAt, asIntOf, run_underlying hu, run_sizeOf hinf, h1, h2]
    split at h
    · rename_i sz es
      split at h
      · rename_i hb
        split at h
        · rename_i hc
          obtain ⟨h1, h2⟩ := hc
          obtain ⟨inf, hinf⟩ := Option.isSome_iff_exists.1 h1
          have hsz : inf.size = sz := by simpa [Program.cellsOf, hinf] using h2
          simp only [Option.some.injEq] at h
          subst h
          have hc1 := hx.cv1 rfl
          generalize e1 : [xu] = l at hc1
          cases hc1 with
          | sl b o cap _ _ cs h3 h4 h5 h6 =>
            injection e1 with e1
            refine RunsV.same hO (hrun _ _ _ inf hinf hb.1 hb.2 e1) ?_
            have hlt : i.toNat < es.length := by omega
            obtain ⟨pre, xs, post, rfl, k1, k2, k3, _⟩ := h4.split i.toNat _ (getD_some hlt)
            rw [addr_add, hsz]
            have := RV_ptr_mk (g := g) (off := 0) (p := []) (b := b) (o := o + i.toNat * sz) (w := w) (S := g.St S0) (cs := xs) (fun j u hj => ?_) k3
            · simpa using this
            · have := h3 (i.toNat * sz + j) u (by
                have hl : j < xs.length := (List.getElem?_eq_some_iff.1 hj).1
                rw [List.append_assoc, List.getElem?_append_right (by omega), List.getElem?_append_left (by omega), ← hj]
                congr 1
                omega)
              rwa [← Nat.add_assoc] at this
          | sl0 _ a cap hm => simp at hb; omega
        · simp at h
      · simp at h
    · rename_i id
      obtain ⟨a, n, c, e1, hs, hval⟩ := RV_os hx
      split at h
      · rename_i t' sz es hrow
        obtain ⟨r1, r2, r3⟩ := row_here hO hrow
        split at h
        · rename_i hb
          split at h
          · rename_i hc
            obtain ⟨h1, h2⟩ := hc
            obtain ⟨inf, hinf⟩ := Option.isSome_iff_exists.1 h1
            have hsz : inf.size = sz := by simpa [Program.cellsOf, hinf] using h2
            simp only [Option.some.injEq] at h
            subst h
            rw [hval _ r1] at e1
            rcases r3 with ⟨_, rfl⟩ | ⟨r3, _⟩
            · simp at hb; omega
            · rw [rowVal_real r3] at e1
              refine RunsV.same hO (hrun _ _ _ inf hinf hb.1 hb.2 e1) (RV_oe_mk hs fun sz' hsz' => ?_)
              rw [r2] at hsz'
              injection hsz' with hsz'
              subst hsz'
              rw [addr_add, hsz, Nat.add_zero]
          · simp at h
        · simp at h
      · simp at h
    · simp at h
  · simp at h
theorem aindex_ok (hO : Ok C S0 g w H) {t : TypeId} {x ix v : AV} {xu iu : Value} (hx : RV g w (g.St S0) xu x) (hi : RV g w (g.St S0) iu ix) (h : aindex C t x ix = some v) : RunsV C S0 g w H v (Instr.index t xu iu) := by
  unfold aindex at h
  split at h
  · rename_i k i n e hk hu
    have hiu := intOf_eq hi hk
    subst hiu
    split at h
    · rename_i m kk ns
      split at h
      · rename_i hb
        split at h
        · rename_i hc
          obtain ⟨h1, h2, h3⟩ := hc
          simp only [Option.some.injEq] at h
          subst h
          obtain ⟨e1, hl⟩ := RV_arr hx
          obtain ⟨d, inf, hd, hinf, hs, ha, _⟩ := fits_cases h3
          have hlt : i.toNat < ns.length := by omega
          refine RunsV.same hO (u := .int kk (ns.getD i.toNat 0)) ?_ (RV.ofC1 (.int kk _) rfl)
          rw [e1]
          simp [Instr.index, asIntOf, run_underlying hu, run_sizeOf hinf, hs, part, run_isAgg hd, ← ha, hb.1, hb.2, List.getElem?_eq_getElem hlt]
        · simp at h
      · simp at h
    · simp at h
  · rename_i k i hk hu
    have hiu := intOf_eq hi hk
    subst hiu
    split at h
    · rename_i s
      split at h
      · rename_i hb
        simp only [Option.some.injEq] at h
        subst h
        have e1 := RV_str hx
        have hlt : i.toNat < s.size := by omega
        refine RunsV.same hO (u := .int .u8 ((s.data.toList.getD i.toNat 0).toNat : Int)) ?_ (RV.ofC1 (.int .u8 _) rfl)
        rw [e1]
        have hget : s[i.toNat]? = some s[i.toNat] := by simp [getElem?_pos, hlt]
        simp only [Instr.index, asIntOf, Sem.run_bind, Sem.run_pure, Result.andThen_ok, run_underlying hu, hb.1, if_true, hget]
        congr 2
        have : s.data.toList.getD i.toNat 0 = s[i.toNat] := by
          have h' : i.toNat < s.data.toList.length := by rw [Array.length_toList]; exact hlt
          simp [List.getD_eq_getElem?_getD, List.getElem?_eq_getElem h']
          rfl
        rw [this]
      · simp at h
    · simp at h
  · simp at h
theorem lenOf_ok (hO : Ok C S0 g w H) {x : AV} {xu : Value} {n : Nat} (hx : RV g w (g.St S0) xu x) (h : lenOf H x = some n) : ∃ a c, xu = .slice a n c := by
  unfold lenOf at h
  split at h
  · rename_i sz es
    simp only [Option.some.injEq] at h
    subst h
    have hc1 := hx.cv1 rfl
    generalize e1 : [xu] = l at hc1
    cases hc1 with
    | sl b o cap _ _ cs h3 h4 h5 h6 => injection e1 with e1; exact ⟨_, _, e1⟩
    | sl0 _ a cap hm => injection e1 with e1; exact ⟨_, _, e1⟩
  · simp only [Option.some.injEq] at h
    subst h
    exact ⟨_, _, RV_nilsl hx⟩
  · simp only [Option.map_eq_some_iff] at h
    obtain ⟨⟨t', sz, es⟩, hrow, rfl⟩ := h
    obtain ⟨r1, r2, r3⟩ := row_here hO hrow
    obtain ⟨a, n, c, e1, hs, hval⟩ := RV_os hx
    rw [hval _ r1] at e1
    rcases r3 with ⟨r3, rfl⟩ | ⟨r3, _⟩
    · rw [rowVal_virt r3] at e1; exact ⟨_, _, e1⟩
    · rw [rowVal_real r3] at e1; exact ⟨_, _, e1⟩
  · simp at h
theorem alen_ok (hO : Ok C S0 g w H) {t ty : TypeId} {x v : AV} {xu : Value} (hx : RV g w (g.St S0) xu x) (h : alen C H t x = some v) : RunsV C S0 g w H v (Builtin.len_ #[t] ty #[xu]) := by
  unfold alen at h
  split at h
  · rename_i hu
    split at h
    · rename_i s
      simp only [Option.some.injEq] at h
      subst h
      have e := RV_str hx
      subst e
      exact RunsV.same hO (by simp [Builtin.len_, run_underlying hu, goInt]) (RV.ofC1 (.int .i64 _) rfl)
    · simp at h
  · rename_i n e hu
    simp only [Option.some.injEq] at h
    subst h
    exact RunsV.same hO (by simp [Builtin.len_, run_underlying hu, goInt]) (RV.ofC1 (.int .i64 _) rfl)
  · rename_i e hu
    simp only [Option.map_eq_some_iff] at h
    obtain ⟨n, hn, rfl⟩ := h
    obtain ⟨a, c, rfl⟩ := lenOf_ok hO hx hn
    exact RunsV.same hO (by simp [Builtin.len_, run_underlying hu, goInt]) (RV.ofC1 (.int .i64 _) rfl)
  · rename_i kt vt hu
    split at h
    · simp only [Option.some.injEq] at h
      subst h
      have e := RV_nilmap hx
      subst e
      exact RunsV.same hO (by simp [Builtin.len_, run_underlying hu, goInt]) (RV.ofC1 (.int .i64 _) rfl)
    · rename_i id
      obtain ⟨e, hs⟩ := RV_mp hx
      subst e
      split at h
      · rename_i es hb
        have hG : g.G id = some (.mp es) := by rw [hO.heap]; exact hb
        obtain ⟨ents, clock, h1, h2, h3⟩ := hO.inv.blk id _ hG
        simp only [Option.some.injEq] at h
        subst h
        refine RunsV.same hO ?_ (RV.ofC1 (.int .i64 _) rfl)
        simp [Builtin.len_, run_underlying hu, goInt, getObj, Sem.run, h1, h2]
      · simp at h
    · simp at h
  · simp at h
end
end Go.Fm
/-
  Numbers, strings, equality.
-/
set_option linter.unusedSimpArgs false
set_option linter.unusedVariables false
namespace Go.Fm
open Go
section
variable {P : Program} {g : Gh} {w : World} {S : Nat → Nat → Prop}
theorem run_part {t : TypeId} {d : TypeDesc} {i : TypeInfo} (hd : P.underlying t = some d) (hi : P.info? t = some i) (cs : Array Value) (off : Nat) (v : Value) (h : if isAggD d = true then v = .agg (cs.extract off (off + i.size)) else cs[off]? = some v) : (part t cs off).run P w = .ok v w := by
  cases ha : isAggD d with
  | true =>
    rw [ha, if_pos rfl] at h
    simp [part, run_isAgg hd, ha, run_sizeOf hi, h]
  | false =>
    rw [ha, if_neg (by simp)] at h
    simp [part, run_isAgg hd, ha, h]
theorem eqItems_ints (d : Nat) {e : TypeId} {k k1 k2 : IntKind} {i : TypeInfo} (hu : P.underlying e = some (.int k)) (hi : P.info? e = some i) (as bs : List Int) :
    ∀ (m j : Nat), as.length = j + m → bs.length = j + m → (Op.eqItems (d + 1) e 1 (as.map (Value.int k1)).toArray (bs.map (Value.int k2)).toArray (List.range' j m)).run P w = .ok (if k1 = k2 then as.drop j == bs.drop j else if m = 0 then true else false) w ∨ k1 ≠ k2 := by
  intro m
  by_cases hk : k1 = k2
  · subst hk
    intro j ha hb
    left
    rw [if_pos rfl]
    induction m generalizing j with
    | zero =>
      rw [List.drop_of_length_le (by omega), List.drop_of_length_le (by omega)]
      simp [Op.eqItems]
    | succ m ih =>
      have h1 : j < as.length := by omega
      have h2 : j < bs.length := by omega
      have p1 := run_part (P := P) (w := w) hu hi (as.map (Value.int k1)).toArray j (.int k1 as[j]) (by simp [isAggD, h1])
      have p2 := run_part (P := P) (w := w) hu hi (bs.map (Value.int k1)).toArray j (.int k1 bs[j]) (by simp [isAggD, h2])
      have p3 : (Op.equalIn (d + 1) e (.int k1 as[j]) (.int k1 bs[j])).run P w = .ok (as[j] == bs[j]) w := by simp [Op.equalIn, run_underlying hu]
      rw [List.range'_succ]
      simp only [Op.eqItems, Sem.run_bind, Nat.mul_one, p1, p2, p3, Result.andThen_ok]
      rw [List.drop_eq_getElem_cons h1, List.drop_eq_getElem_cons h2]
      have ih' := ih (j + 1) (by omega) (by omega)
      generalize as.drop (j + 1) = A at *
      generalize bs.drop (j + 1) = B at *
      by_cases h3 : as[j] = bs[j]
      · have h4 : (as[j] == bs[j]) = true := by simp [h3]
        rw [h4]
        simp only [Bool.not_true, Bool.false_eq_true, if_false]
        rw [ih']
        simp [h3]
      · have h4 : (as[j] == bs[j]) = false := by simp [h3]
        rw [h4]
        simp [h3]
  · intro j _ _; exact .inr hk
theorem aeq_ok : ∀ (d : Nat) (t : TypeId) (x y : AV) (r : Bool), aeq P d t x y = some r → ∀ (D : Nat) (xu yu : Value), d ≤ D → RV g w S xu x → RV g w S yu y → (Op.equalIn D t xu yu).run P w = .ok r w := by
  intro d
  induction d with
  | zero => intro t x y r h; simp [aeq] at h
  | succ d ih =>
    intro t x y r h D xu yu hD hx hy
    obtain ⟨D, rfl⟩ : ∃ m, D = m + 1 := ⟨D - 1, by omega⟩
    have hfields : ∀ (fs : List Field) (o : Nat) (xs ys : List CV) (r : Bool), aeqFields P (aeq P d) o fs xs ys = some r → ∀ (px cx py cy : List Value), px.length = o → py.length = o → RF w S cx xs → RF w S cy ys →
        (Op.eqFields D (px ++ cx).toArray (py ++ cy).toArray fs).run P w = .ok r w := by
      intro fs
      induction fs with
      | nil =>
        intro o xs ys r h px cx py cy _ _ hcx hcy
        cases xs <;> cases ys <;> simp [aeqFields] at h
        subst h
        simp [Op.eqFields]
      | cons f fs ihf =>
        intro o xs ys r h px cx py cy hpx hpy hcx hcy
        cases xs with
        | nil => simp [aeqFields] at h
        | cons a xs =>
          cases ys with
          | nil => simp [aeqFields] at h
          | cons b ys =>
            simp only [aeqFields] at h
            split at h
            · rename_i hc
              obtain ⟨hn, ho, hfa, hfb⟩ := hc
              cases hcx with
              | cons c1 cs1 _ _ k1 k2 =>
                cases hcy with
                | cons c2 cs2 _ _ m1 m2 =>
                  obtain ⟨ty, inf, hu, hi, hs1, ha1, hone1⟩ := fits_cases hfa
                  obtain ⟨ty2, inf2, hu2, hi2, hs2, ha2, hone2⟩ := fits_cases hfb
                  rw [hu] at hu2; injection hu2 with hu2; subst hu2
                  rw [hi] at hi2; injection hi2 with hi2; subst hi2
                  have l1 := k1.length
                  have l2 := m1.length
                  have key : ∀ (pp c cs : List Value) (cv : CV), pp.length = o → RC w S c cv → c.length = inf.size → cv.isAgg = isAggD ty → (isAggD ty = false → inf.size = 1) →
                      ∃ u, (part f.type (pp ++ (c ++ cs)).toArray f.offset).run P w = .ok u w ∧ RV g w S u (.c cv) := by
                    intro pp c cs cv hpp hcv hcl hcagg hone
                    cases hA : isAggD ty with
                    | true =>
                      refine ⟨.agg c.toArray, run_part hu hi _ _ _ ?_, .agg c (.c cv) (.c _ _ hcv) (by simp [AV.isAgg, hcagg, hA])⟩
                      rw [hA, if_pos rfl]
                      congr 1
                      apply Array.ext'
                      simp only [Array.toList_extract, List.extract, ho]
                      rw [List.drop_append_of_le_length (by omega), ← hpp, List.drop_length, List.nil_append]
                      rw [show pp.length + inf.size - pp.length = inf.size by omega, ← hcl]
                      simp
                    | false =>
                      obtain ⟨u, rfl⟩ := List.length_eq_one_iff.1 (hcl.trans (hone hA))
                      refine ⟨u, run_part hu hi _ _ _ ?_, RV.ofC1 hcv (by rw [hcagg, hA])⟩
                      rw [hA, if_neg (by simp), ho]
                      simp [← hpp]
                  obtain ⟨u1, q1, q2⟩ := key px c1 cs1 a hpx k1 (by rw [l1, hs1]) ha1 (fun h => by rw [hs1]; exact hone1 (ha1.trans h))
                  obtain ⟨u2, q3, q4⟩ := key py c2 cs2 b hpy m1 (by rw [l2, hs2]) ha2 (fun h => by rw [hs2]; exact hone2 (ha2.trans h))
                  simp only [Op.eqFields, hn, ne_eq, not_false_eq_true, if_true, Sem.run_bind, q1, q3, Result.andThen_ok]
                  split at h
                  · rename_i he
                    rw [ih f.type (.c a) (.c b) true he D u1 u2 (by omega) q2 q4]
                    simp only [Result.andThen_ok, Bool.not_true, Bool.false_eq_true, if_false]
                    have hcell : P.cellsOf f.type = inf.size := by simp [Program.cellsOf, hi]
                    have := ihf (o + P.cellsOf f.type) xs ys r h (px ++ c1) cs1 (py ++ c2) cs2 (by simp [hpx, l1, hs1, hcell]) (by simp [hpy, l2, hs2, hcell]) k2 m2
                    simpa using this
                  · rename_i he
                    simp only [Option.some.injEq] at h
                    subst h
                    rw [ih f.type (.c a) (.c b) false he D u1 u2 (by omega) q2 q4]
                    simp
                  · simp at h
            · simp at h
    simp only [aeq] at h
    split at h
    · rename_i hu
      simp only [Option.some.injEq] at h; subst h
      rw [RV_bool hx, RV_bool hy]
      simp [Op.equalIn, run_underlying hu]
    · rename_i k a k' b hu
      split at h
      · rename_i e
        subst e
        simp only [Option.some.injEq] at h; subst h
        rw [RV_int hx, RV_int hy]
        simp [Op.equalIn, run_underlying hu]
      · simp at h
    · rename_i hu
      simp only [Option.some.injEq] at h; subst h
      rw [RV_str hx, RV_str hy]
      simp [Op.equalIn, run_underlying hu]
    · rename_i hu
      simp only [Option.some.injEq] at h; subst h
      rw [RV_nilp hx, RV_nilp hy]
      simp [Op.equalIn, run_underlying hu]
    · rename_i hu
      simp only [Option.some.injEq] at h; subst h
      obtain ⟨b, o, cs, e, _, _⟩ := RV_ptr hy
      rw [RV_nilp hx, e]
      simp [Op.equalIn, run_underlying hu]
    · rename_i hu
      simp only [Option.some.injEq] at h; subst h
      obtain ⟨b, o, cs, e, _, _⟩ := RV_ptr hx
      rw [RV_nilp hy, e]
      simp [Op.equalIn, run_underlying hu]
    · rename_i hu
      simp only [Option.some.injEq] at h; subst h
      rw [RV_nilp hx, (RV_ov hy).1]
      simp [Op.equalIn, run_underlying hu]
    · rename_i hu
      simp only [Option.some.injEq] at h; subst h
      rw [RV_nilp hy, (RV_ov hx).1]
      simp [Op.equalIn, run_underlying hu]
    · rename_i hu
      simp only [Option.some.injEq] at h; subst h
      obtain ⟨u, e, _⟩ := RV_iface hy
      rw [RV_nilif hx, e]
      simp [Op.equalIn, run_underlying hu]
    · rename_i hu
      simp only [Option.some.injEq] at h; subst h
      obtain ⟨u, e, _⟩ := RV_iface hx
      rw [RV_nilif hy, e]
      simp [Op.equalIn, run_underlying hu]
    · rename_i hu
      simp only [Option.some.injEq] at h; subst h
      rw [RV_nilsl hx, RV_nilsl hy]
      simp [Op.equalIn, run_underlying hu]
    · rename_i hu
      simp only [Option.some.injEq] at h; subst h
      obtain ⟨b, o, n, c, e⟩ := RV_slc hx
      rw [RV_nilsl hy, e]
      simp [Op.equalIn, run_underlying hu]
    · rename_i hu
      simp only [Option.some.injEq] at h; subst h
      rw [RV_nilmap hx, RV_nilmap hy]
      simp [Op.equalIn, run_underlying hu]
    · rename_i hu
      simp only [Option.some.injEq] at h; subst h
      rw [(RV_mp hx).1, RV_nilmap hy]
      simp [Op.equalIn, run_underlying hu]
    · rename_i n e m k a m' k' b hu
      split at h
      · rename_i k'' hk
        split at h
        · rename_i hc
          obtain ⟨rfl, rfl, rfl, rfl, h1, h2, hd⟩ := hc
          simp only [Option.some.injEq] at h; subst h
          obtain ⟨i, hi⟩ := Option.isSome_iff_exists.1 h2
          obtain ⟨e1, l1⟩ := RV_arr hx
          obtain ⟨e2, l2⟩ := RV_arr hy
          rw [e1, e2, run_equalIn_array w D _ _ hu hi, h1, List.range_eq_range']
          obtain ⟨D, rfl⟩ : ∃ q, D = q + 1 := ⟨D - 1, by omega⟩
          rcases eqItems_ints (P := P) (w := w) (k1 := k') (k2 := k') D hk hi a b m' 0 (by simpa using l1) (by simpa using l2) with h3 | h3
          · simpa using h3
          · exact absurd rfl h3
        · simp at h
      · simp at h
    · rename_i fields a b hu
      split at h
      · simp at h
      · rename_i hst
        obtain ⟨cx, e1, hcx⟩ := RV_agg hx
        obtain ⟨cy, e2, hcy⟩ := RV_agg hy
        have hf : P.fieldsOf t = fields := by simp [Program.fieldsOf, hu]
        rw [e1, e2, run_equalIn_struct (P := P) w D t _ _ (by rw [hf]; exact hu) (by simpa using hst), hf]
        have := hfields fields.toList 0 a b r h [] cx [] cy rfl rfl hcx hcy
        simpa using this
    · simp at h
end
end Go.Fm
/-
  Operators, conversions.
-/
set_option linter.unusedSimpArgs false
set_option linter.unusedVariables false
namespace Go.Fm
open Go
section
variable {C : Cfg} {S0 : Nat → Nat → Prop} {g : Gh} {w : World} {H : Heap}
/-- Two values that are held against each other by their type alone. -/
def EqPair (P : Program) (t : TypeId) (xu yu : Value) (w : World) : Prop :=
  (binOp .eql t xu yu = do pure (.bool (← Op.equal t xu yu))) ∧ (binOp .neq t xu yu = do pure (.bool (!(← Op.equal t xu yu)))) ∧
  (P.eqGuardType P.depth t = false → ∀ op xo yo, (eqGuard op t xo yo xu yu).run P w = .ok () w)
theorem aeq_pair {d : Nat} {t : TypeId} {x y : AV} {r : Bool} {S : Nat → Nat → Prop} {xu yu : Value} (h : aeq C.P d t x y = some r) (hx : RV g w S xu x) (hy : RV g w S yu y)
    (hn1 : ∀ k a k' b, x = .c (.int k a) → y = .c (.int k' b) → False) (hn2 : ∀ a b, x = .c (.str a) → y = .c (.str b) → False) : EqPair C.P t xu yu w := by
  have plain : ∀ a b : Value, (binOp .eql t a b = do pure (.bool (← Op.equal t a b))) → (binOp .neq t a b = do pure (.bool (!(← Op.equal t a b)))) → (∀ op xo yo, (eqGuard op t xo yo a b).run C.P w = .ok () w) → EqPair C.P t a b w := fun a b h1 h2 h3 => ⟨h1, h2, fun _ => h3⟩
  cases d with
  | zero => simp [aeq] at h
  | succ d =>
    simp only [aeq] at h
    split at h
    · rw [RV_bool hx, RV_bool hy]; exact plain _ _ rfl rfl (fun op xo yo => by cases op <;> rfl)
    · exact (hn1 _ _ _ _ rfl rfl).elim
    · exact (hn2 _ _ rfl rfl).elim
    · rw [RV_nilp hx, RV_nilp hy]; exact plain _ _ rfl rfl (fun op xo yo => by cases op <;> rfl)
    · obtain ⟨b, o, cs, e, _, _⟩ := RV_ptr hy
      rw [RV_nilp hx, e]; exact plain _ _ rfl rfl (fun op xo yo => by cases op <;> rfl)
    · obtain ⟨b, o, cs, e, _, _⟩ := RV_ptr hx
      rw [RV_nilp hy, e]; exact plain _ _ rfl rfl (fun op xo yo => by cases op <;> rfl)
    · rw [RV_nilp hx, (RV_ov hy).1]; exact plain _ _ rfl rfl (fun op xo yo => by cases op <;> rfl)
    · rw [RV_nilp hy, (RV_ov hx).1]; exact plain _ _ rfl rfl (fun op xo yo => by cases op <;> rfl)
    · obtain ⟨u, e, _⟩ := RV_iface hy
      rw [RV_nilif hx, e]; exact plain _ _ rfl rfl (fun op xo yo => by cases op <;> rfl)
    · obtain ⟨u, e, _⟩ := RV_iface hx
      rw [RV_nilif hy, e]; exact plain _ _ rfl rfl (fun op xo yo => by cases op <;> rfl)
    · rw [RV_nilsl hx, RV_nilsl hy]; exact plain _ _ rfl rfl (fun op xo yo => by cases op <;> rfl)
    · obtain ⟨b, o, n, c, e⟩ := RV_slc hx
      rw [RV_nilsl hy, e]; exact plain _ _ rfl rfl (fun op xo yo => by cases op <;> rfl)
    · rw [RV_nilmap hx, RV_nilmap hy]; exact plain _ _ rfl rfl (fun op xo yo => by cases op <;> rfl)
    · rw [(RV_mp hx).1, RV_nilmap hy]; exact plain _ _ rfl rfl (fun op xo yo => by cases op <;> rfl)
    · rw [(RV_arr hx).1, (RV_arr hy).1]; exact ⟨rfl, rfl, fun hm op xo yo => run_eqGuard_agg w op t xo yo _ _ hm⟩
    · obtain ⟨cx, e1, _⟩ := RV_agg hx
      obtain ⟨cy, e2, _⟩ := RV_agg hy
      rw [e1, e2]; exact ⟨rfl, rfl, fun hm op xo yo => run_eqGuard_agg w op t xo yo _ _ hm⟩
    · simp at h
theorem run_aint {op : BinOp} {k : IntKind} {a b : Int} {c : CV} (h : aint op k a b = some c) (hs : op ≠ .shl ∧ op ≠ .shr) (t : TypeId) : ∃ u, (binOp op t (.int k a) (.int k b)).run C.P w = .ok u w ∧ RV g w (g.St S0) u (.c c) := by
  unfold aint at h
  cases op with
  | shl => exact absurd rfl hs.1
  | shr => exact absurd rfl hs.2
  | quo =>
    simp only at h
    split at h
    · simp at h
    · rename_i hb
      simp only [Option.some.injEq] at h
      subst h
      exact ⟨_, by simp only [binOp, ne_eq, not_true_eq_false, if_false, Op.intDiv, hb]; rfl, RV.ofC1 (.int _ _) rfl⟩
  | rem =>
    simp only at h
    split at h
    · simp at h
    · rename_i hb
      simp only [Option.some.injEq] at h
      subst h
      exact ⟨_, by simp only [binOp, ne_eq, not_true_eq_false, if_false, Op.intDiv, hb]; rfl, RV.ofC1 (.int _ _) rfl⟩
  | _ =>
    simp only [Option.some.injEq, reduceCtorEq] at h
    try (subst h; exact ⟨_, by simp only [binOp, ne_eq, not_true_eq_false, if_false]; rfl, RV.ofC1 (by constructor) rfl⟩)
theorem run_ashift {op : BinOp} {k yk : IntKind} {a b : Int} {c : CV} (h : ashift op k a b = some c) (t : TypeId) : ∃ u, (binOp op t (.int k a) (.int yk b)).run C.P w = .ok u w ∧ RV g w (g.St S0) u (.c c) := by
  unfold ashift at h
  split at h
  · simp at h
  · rename_i hb
    cases op <;> simp only [Option.some.injEq, reduceCtorEq] at h <;> (subst h; exact ⟨_, by simp only [binOp, Op.shift, hb, if_false]; rfl, RV.ofC1 (.int _ _) rfl⟩)
theorem run_astr {op : BinOp} {a b : ByteArray} {c : CV} (h : astr op a b = some c) (t : TypeId) : ∃ u, (binOp op t (.string a) (.string b)).run C.P w = .ok u w ∧ RV g w (g.St S0) u (.c c) := by
  unfold astr at h
  cases op with
  | add =>
    simp only at h
    split at h
    · simp at h
    · rename_i hb
      simp only [Option.some.injEq] at h
      subst h
      exact ⟨_, by simp only [binOp, Op.stringOp, hb, if_false]; rfl, RV.ofC1 (.str _) rfl⟩
  | _ =>
    simp only [Option.some.injEq, reduceCtorEq] at h
    try (subst h; exact ⟨_, rfl, RV.ofC1 (.bool _) rfl⟩)
theorem iface_eq {t : TypeId} (hi : ifaceT C.P t = true) : ∃ ms, C.P.underlying t = some (.interface ms) := by
  unfold ifaceT at hi
  split at hi
  · rename_i ms h; exact ⟨ms, h⟩
  · simp at hi
theorem run_iface_eq {t t' : TypeId} {u : Value} {ms : Array (String × TypeId)} (hu : C.P.underlying t = some (.interface ms)) :
    (Op.equal t .nilIface (.iface t' u)).run C.P w = .ok false w ∧ (Op.equal t (.iface t' u) .nilIface).run C.P w = .ok false w ∧ (Op.equal t .nilIface .nilIface).run C.P w = .ok true w := by
  have h1 : ∀ d, (Op.equalIn (d + 1) t .nilIface (.iface t' u)).run C.P w = .ok false w := by intro d; simp [Op.equalIn, run_underlying hu]
  have h2 : ∀ d, (Op.equalIn (d + 1) t (.iface t' u) .nilIface).run C.P w = .ok false w := by intro d; simp [Op.equalIn, run_underlying hu]
  have h3 : ∀ d, (Op.equalIn (d + 1) t .nilIface .nilIface).run C.P w = .ok true w := by intro d; simp [Op.equalIn, run_underlying hu]
  exact ⟨h1 9999, h2 9999, h3 9999⟩
theorem abin_ok (hO : Ok C S0 g w H) {op : BinOp} {t : TypeId} {xo yo : Operand} {x y v : AV} {xu yu : Value} (hx : RV g w (g.St S0) xu x) (hy : RV g w (g.St S0) yu y)
    (h : abin C.P (Region.isConst xo || Region.isConst yo) op t x y = some v) : RunsV C S0 g w H v (do eqGuard op t xo yo xu yu; binOp op t xu yu) := by
  unfold abin at h
  split at h
  · rename_i k a k' b
    have e1 := RV_int hx
    have e2 := RV_int hy
    subst e1; subst e2
    have hg : (eqGuard op t xo yo (.int k a) (.int k' b)).run C.P w = .ok () w := by cases op <;> rfl
    by_cases hs : op = .shl ∨ op = .shr
    · have h' : (ashift op k a b).map AV.c = some v := by rcases hs with rfl | rfl <;> simpa using h
      simp only [Option.map_eq_some_iff] at h'
      obtain ⟨c, h1, rfl⟩ := h'
      obtain ⟨u, h2, h3⟩ := run_ashift (C := C) (g := g) (w := w) (S0 := S0) (yk := k') h1 t
      exact RunsV.same hO (by simp [hg, h2]) h3
    · have hne : op ≠ .shl ∧ op ≠ .shr := ⟨fun e => hs (.inl e), fun e => hs (.inr e)⟩
      have h' : (if k = k' then (aint op k a b).map AV.c else none) = some v := by
        cases op <;> first | exact h | exact absurd rfl hne.1 | exact absurd rfl hne.2
      split at h'
      · rename_i e
        subst e
        simp only [Option.map_eq_some_iff] at h'
        obtain ⟨c, h1, rfl⟩ := h'
        obtain ⟨u, h2, h3⟩ := run_aint (C := C) (g := g) (w := w) (S0 := S0) h1 hne t
        exact RunsV.same hO (by simp [hg, h2]) h3
      · simp at h'
  · rename_i a b
    have e1 := RV_str hx
    have e2 := RV_str hy
    subst e1; subst e2
    have hg : (eqGuard op t xo yo (.string a) (.string b)).run C.P w = .ok () w := by cases op <;> rfl
    simp only [Option.map_eq_some_iff] at h
    obtain ⟨c, h1, rfl⟩ := h
    obtain ⟨u, h2, h3⟩ := run_astr (C := C) (g := g) (w := w) (S0 := S0) h1 t
    exact RunsV.same hO (by simp [hg, h2]) h3
  · rename_i hn1 hn2
    have side : ∀ r, aeq C.P 12 t x y = some r → C.P.eqGuardType C.P.depth t = false →
        (do eqGuard .eql t xo yo xu yu; binOp .eql t xu yu : Sem Value).run C.P w = .ok (.bool r) w ∧ (do eqGuard .neq t xo yo xu yu; binOp .neq t xu yu : Sem Value).run C.P w = .ok (.bool !r) w := by
      intro r hr hg
      obtain ⟨h1, h2, h3⟩ := aeq_pair hr hx hy (fun k a k' b e1 e2 => hn1 k a k' b e1 e2) (fun a b e1 e2 => hn2 a b e1 e2)
      have he := aeq_ok (P := C.P) (g := g) (w := w) (S := g.St S0) 12 t x y r hr 10000 xu yu (by omega) hx hy
      exact ⟨by simp [h3 hg, h1, Op.equal, Op.maxDepth, he], by simp [h3 hg, h2, Op.equal, Op.maxDepth, he]⟩
    split at h
    · split at h
      · rename_i hg
        simp only [Option.map_eq_some_iff] at h
        obtain ⟨r, hr, rfl⟩ := h
        exact RunsV.same hO (side r hr hg).1 (RV.ofC1 (.bool r) rfl)
      · split at h
        · split at h
          · rename_i hi
            simp only [Option.some.injEq] at h
            subst h
            obtain ⟨ms, hu⟩ := iface_eq hi
            obtain ⟨u, e, _⟩ := RV_iface hy
            rw [RV_nilif hx, e]
            refine RunsV.same hO (u := .bool false) ?_ (RV.ofC1 (.bool false) rfl)
            have h1 : ∀ t', (eqGuard .eql t xo yo .nilIface (.iface t' u)).run C.P w = .ok () w := fun _ => rfl
            simp only [Sem.run_bind, h1, Result.andThen_ok]
            show ((do pure (.bool ((← Op.equal t _ _))) : Sem Value)).run C.P w = _
            simp only [Sem.run_bind, (run_iface_eq (C := C) (w := w) (u := u) hu).1, Result.andThen_ok, Sem.run_pure, Bool.not_true, Bool.not_false]
          · simp at h
        · split at h
          · rename_i hi
            simp only [Option.some.injEq] at h
            subst h
            obtain ⟨ms, hu⟩ := iface_eq hi
            obtain ⟨u, e, _⟩ := RV_iface hx
            rw [RV_nilif hy, e]
            refine RunsV.same hO (u := .bool false) ?_ (RV.ofC1 (.bool false) rfl)
            have h1 : ∀ t', (eqGuard .eql t xo yo (.iface t' u) .nilIface).run C.P w = .ok () w := fun _ => rfl
            simp only [Sem.run_bind, h1, Result.andThen_ok]
            show ((do pure (.bool ((← Op.equal t _ _))) : Sem Value)).run C.P w = _
            simp only [Sem.run_bind, (run_iface_eq (C := C) (w := w) (u := u) hu).2.1, Result.andThen_ok, Sem.run_pure, Bool.not_true, Bool.not_false]
          · simp at h
        · split at h
          · rename_i hi
            obtain ⟨hi, hl⟩ := hi
            simp only [Option.some.injEq] at h
            subst h
            obtain ⟨ms, hu⟩ := iface_eq hi
            rw [RV_nilif hx, RV_nilif hy]
            refine RunsV.same hO (u := .bool true) ?_ (RV.ofC1 (.bool true) rfl)
            have h1 : (eqGuard .eql t xo yo .nilIface .nilIface).run C.P w = .ok () w := by
              cases xo <;> cases yo <;> first | rfl | simp [Region.isConst] at hl
            simp only [Sem.run_bind, h1, Result.andThen_ok]
            show ((do pure (.bool ((← Op.equal t _ _))) : Sem Value)).run C.P w = _
            simp only [Sem.run_bind, (run_iface_eq (C := C) (w := w) (t' := 0) (u := .nilIface) hu).2.2, Result.andThen_ok, Sem.run_pure, Bool.not_true, Bool.not_false]
          · simp at h
        · simp at h
    · split at h
      · rename_i hg
        simp only [Option.map_eq_some_iff] at h
        obtain ⟨r, hr, rfl⟩ := h
        exact RunsV.same hO (side r hr hg).2 (RV.ofC1 (.bool _) rfl)
      · split at h
        · split at h
          · rename_i hi
            simp only [Option.some.injEq] at h
            subst h
            obtain ⟨ms, hu⟩ := iface_eq hi
            obtain ⟨u, e, _⟩ := RV_iface hy
            rw [RV_nilif hx, e]
            refine RunsV.same hO (u := .bool true) ?_ (RV.ofC1 (.bool true) rfl)
            have h1 : ∀ t', (eqGuard .neq t xo yo .nilIface (.iface t' u)).run C.P w = .ok () w := fun _ => rfl
            simp only [Sem.run_bind, h1, Result.andThen_ok]
            show ((do pure (.bool (!(← Op.equal t _ _))) : Sem Value)).run C.P w = _
            simp only [Sem.run_bind, (run_iface_eq (C := C) (w := w) (u := u) hu).1, Result.andThen_ok, Sem.run_pure, Bool.not_true, Bool.not_false]
          · simp at h
        · split at h
          · rename_i hi
            simp only [Option.some.injEq] at h
            subst h
            obtain ⟨ms, hu⟩ := iface_eq hi
            obtain ⟨u, e, _⟩ := RV_iface hx
            rw [RV_nilif hy, e]
            refine RunsV.same hO (u := .bool true) ?_ (RV.ofC1 (.bool true) rfl)
            have h1 : ∀ t', (eqGuard .neq t xo yo (.iface t' u) .nilIface).run C.P w = .ok () w := fun _ => rfl
            simp only [Sem.run_bind, h1, Result.andThen_ok]
            show ((do pure (.bool (!(← Op.equal t _ _))) : Sem Value)).run C.P w = _
            simp only [Sem.run_bind, (run_iface_eq (C := C) (w := w) (u := u) hu).2.1, Result.andThen_ok, Sem.run_pure, Bool.not_true, Bool.not_false]
          · simp at h
        · split at h
          · rename_i hi
            obtain ⟨hi, hl⟩ := hi
            simp only [Option.some.injEq] at h
            subst h
            obtain ⟨ms, hu⟩ := iface_eq hi
            rw [RV_nilif hx, RV_nilif hy]
            refine RunsV.same hO (u := .bool false) ?_ (RV.ofC1 (.bool false) rfl)
            have h1 : (eqGuard .neq t xo yo .nilIface .nilIface).run C.P w = .ok () w := by
              cases xo <;> cases yo <;> first | rfl | simp [Region.isConst] at hl
            simp only [Sem.run_bind, h1, Result.andThen_ok]
            show ((do pure (.bool (!(← Op.equal t _ _))) : Sem Value)).run C.P w = _
            simp only [Sem.run_bind, (run_iface_eq (C := C) (w := w) (t' := 0) (u := .nilIface) hu).2.2, Result.andThen_ok, Sem.run_pure, Bool.not_true, Bool.not_false]
          · simp at h
        · simp at h
    · simp at h
theorem aun_ok (hO : Ok C S0 g w H) {op : UnOp} {x v : AV} {xu : Value} (hx : RV g w (g.St S0) xu x) (h : aun op x = some v) : RunsV C S0 g w H v (Op.unary op xu) := by
  unfold aun at h
  split at h
  · rw [RV_bool hx]
    cases op <;> simp only [Option.some.injEq, reduceCtorEq] at h
    subst h
    exact RunsV.same hO (u := .bool _) (by simp [Op.unary]) (RV.ofC1 (.bool _) rfl)
  · rw [RV_int hx]
    cases op <;> simp only [Option.some.injEq, reduceCtorEq] at h
    · subst h
      exact RunsV.same hO (u := .int _ _) (by simp [Op.unary, Op.intArith]) (RV.ofC1 (.int _ _) rfl)
    · subst h
      exact RunsV.same hO (u := .int _ _) (by simp [Op.unary, Op.intBits]) (RV.ofC1 (.int _ _) rfl)
  · simp at h
end
end Go.Fm
/-
  Elements read; conversions; append.
-/
set_option linter.unusedSimpArgs false
set_option linter.unusedVariables false
namespace Go.Fm
open Go
section
variable {C : Cfg} {S0 : Nat → Nat → Prop} {g : Gh} {w : World} {H : Heap}
/-- The elements that a slice's value reads, as they lie. -/
theorem elems_read (hO : Ok C S0 g w H) {sz : Nat} {x : AV} {xu : Value} {es : List CV} (hx : RV g w (g.St S0) xu x) (h : elemsOf H sz x = some es) :
    ∃ A c cs, xu = .slice A es.length c ∧ RL w (g.St S0) sz cs es ∧ (A = none → es = []) ∧ (es ≠ [] → ∃ b o, A = some ⟨b, o, none⟩ ∧ ∀ (i : Nat) (u : Value), cs[i]? = some u → w.cell? ⟨b, o + i, none⟩ = some u) ∧ es.length ≤ maxLen := by
  unfold elemsOf at h
  split at h
  · rename_i s es'
    split at h
    · rename_i e
      subst e
      simp only [Option.some.injEq] at h
      subst h
      have hc1 := hx.cv1 rfl
      generalize e1 : [xu] = l at hc1
      cases hc1 with
      | sl b o cap _ _ cs h3 h4 h5 h6 =>
        injection e1 with e1
        exact ⟨_, cap, cs, e1, h4, fun h => by simp at h, fun _ => ⟨b, o, rfl, fun i u hi => (h3 i u hi).1⟩, Nat.le_trans h5 h6⟩
      | sl0 _ a cap hm => injection e1 with e1; exact ⟨a, cap, [], e1, .nil _, fun _ => rfl, fun h => absurd rfl h, by simp⟩
    · simp at h
  · simp only [Option.some.injEq] at h
    subst h
    exact ⟨none, 0, [], RV_nilsl hx, .nil _, fun _ => rfl, fun h => absurd rfl h, by simp⟩
  · rename_i id
    split at h
    · rename_i t' s es' hrow
      split at h
      · rename_i e
        subst e
        simp only [Option.some.injEq] at h
        subst h
        obtain ⟨r1, r2, r3⟩ := row_here hO hrow
        obtain ⟨a, n, c, e1, hs, hval⟩ := RV_os hx
        rw [hval _ r1] at e1
        rcases r3 with ⟨r3, rfl⟩ | ⟨r3, cs, r4, r5, r6, r7⟩
        · rw [rowVal_virt r3] at e1
          exact ⟨none, 0, [], e1, .nil _, fun _ => rfl, fun h => absurd rfl h, by simp⟩
        · rw [rowVal_real r3] at e1
          exact ⟨_, _, cs, e1, r5, fun h => by simp at h, fun _ => ⟨_, _, rfl, r4⟩, Nat.le_trans r6 r7⟩
      · simp at h
    · simp at h
  · simp at h
theorem bytesC_RL {w : World} {S : Nat → Nat → Prop} : ∀ (es : List CV) (bs : List UInt8) (cs : List Value), bytesC es = some bs → RL w S 1 cs es → ∃ xs : List Int, cs = xs.map (Value.int .u8) ∧ xs.map (fun n => UInt8.ofNat n.toNat) = bs
  | [], bs, cs, h, hr => by simp only [bytesC, Option.some.injEq] at h; subst h; cases hr; exact ⟨[], rfl, rfl⟩
  | e :: es, bs, cs, h, hr => by
    cases e with
    | int k n =>
      cases k <;> simp only [bytesC, reduceCtorEq] at h
      split at h
      · rename_i bs' hb
        simp only [Option.some.injEq] at h
        subst h
        cases hr with
        | cons _ c cs _ _ hl h1 h2 =>
          obtain ⟨xs, rfl, e2⟩ := bytesC_RL es bs' cs hb h2
          generalize e3 : c = c0 at h1
          cases h1
          exact ⟨n :: xs, rfl, by simp [e2]⟩
      · simp at h
    | _ => simp [bytesC] at h
theorem aconvert_ok (hO : Ok C S0 g w H) {src dst : TypeId} {x v : AV} {xu : Value} (hx : RV g w (g.St S0) xu x) (h : aconvert C H src dst x = some v) : RunsV C S0 g w H v (convert src dst xu) := by
  unfold aconvert at h
  split at h
  · rename_i s k hs hd
    split at h
    · rename_i k' n
      split at h
      · simp at h
      · rename_i hns
        simp only [Option.some.injEq] at h
        subst h
        rw [RV_int hx]
        refine RunsV.same hO (u := .int k (k.wrap n)) ?_ (RV.ofC1 (.int _ _) rfl)
        cases s <;> first | exact absurd rfl hns | simp [convert, run_underlying hs, run_underlying hd, Conv.intToInt]
    · simp at h
  · rename_i s hs hd
    split at h
    · split at h
      · simp only [Option.some.injEq] at h
        subst h
        rw [RV_str hx]
        exact RunsV.same hO (u := .string _) (by simp [convert, run_underlying hs, run_underlying hd]) (RV.ofC1 (.str _) rfl)
      · simp at h
    · rename_i e
      split at h
      · rename_i hue
        split at h
        · rename_i es hes
          split at h
          · rename_i bs hbs
            simp only [Option.some.injEq] at h
            subst h
            obtain ⟨A, c, cs, e1, hr, hA, hcell, hm⟩ := elems_read hO hx hes
            obtain ⟨xs, rfl, e2⟩ := bytesC_RL es bs cs hbs hr
            have hxl : xs.length = es.length := by have := hr.length; simpa using this
            rw [e1]
            refine RunsV.same hO (u := .string ⟨bs.toArray⟩) ?_ (RV.ofC1 (.str _) rfl)
            by_cases h0 : es = []
            · subst h0
              have : bs = [] := by simpa [bytesC] using hbs.symm
              subst this
              cases A with
              | none => simp only [List.length_nil]; rw [run_convert_bytes_nil w src e hs hue 0 c dst hd]; rfl
              | some ad =>
                have hl : (loadCells ad 0).run C.P w = .ok #[] w := run_loadCells_list (P := C.P) (w := w) ad [] (by simp)
                rw [run_convert_bytes_string w src dst e _ _ c hs hue hd]
                simp only [List.length_nil]
                rw [run_bytesToString w ad 0 c [] (by simpa using hl)]
                rfl
            · obtain ⟨b, o, rfl, hc⟩ := hcell h0
              rw [run_convert_bytes_arg w src e hs hue b o es.length c xs hxl (fun i hi => ?_) dst hd]
              · simp [strOfNums, e2]
              · have hlt : i < xs.length := by omega
                have := hc i (.int .u8 (xs.getD i 0)) (by simp [List.getElem?_eq_getElem hlt, List.getD_eq_getElem?_getD])
                exact this
          · simp at h
        · simp at h
      · simp at h
    · simp at h
  · simp at h
theorem run_firstCells {sz : Nat} {A : Option Addr} {c : Nat} {cs : List Value} {es : List CV} {w' : World} (hl : cs.length = es.length * sz) (hA : A = none → es = []) (hcell : es ≠ [] → ∃ b o, A = some ⟨b, o, none⟩ ∧ ∀ (i : Nat) (u : Value), cs[i]? = some u → w'.cell? ⟨b, o + i, none⟩ = some u) :
    (Builtin.firstCells sz es.length (.slice A es.length c)).run C.P w' = .ok cs.toArray w' := by
  by_cases h0 : es = []
  · subst h0
    have : cs = [] := List.eq_nil_of_length_eq_zero (by simpa using hl)
    subst this
    cases A with
    | none => simp [Builtin.firstCells]
    | some ad =>
      have := run_firstCells_some (P := C.P) w' sz 0 ad 0 c [] (by simp) (by simp)
      simpa using this
  · obtain ⟨b, o, rfl, hc⟩ := hcell h0
    exact run_firstCells_some (P := C.P) w' sz es.length ⟨b, o, none⟩ es.length c cs hl (fun j u hj => by rw [addr_add]; exact hc j u hj)
theorem RL.append {w : World} {S : Nat → Nat → Prop} {sz : Nat} {cs ds : List Value} {es fs : List CV} (h : RL w S sz cs es) (k : RL w S sz ds fs) : RL w S sz (cs ++ ds) (es ++ fs) := by
  induction es generalizing cs with
  | nil => cases h; exact k
  | cons e es ih => cases h with | cons _ c cs _ _ hl h hs => rw [List.append_assoc]; exact .cons _ _ _ _ _ hl h (ih hs)
theorem bytesAV_RL {w : World} {S : Nat → Nat → Prop} : ∀ (bs : List UInt8), RL w S 1 (bs.map fun b => Value.int .u8 (b.toNat : Int)) (bytesAV bs)
  | [] => .nil _
  | b :: bs => .cons 1 [.int .u8 (b.toNat : Int)] _ (.int .u8 b.toNat) _ rfl (.int _ _) (bytesAV_RL bs)
/-- append's source. -/
def Src (C : Cfg) (w : World) (tx : TypeId) (sz : Nat) (xu : Value) (ds : List Value) (m : Nat) : Prop :=
  (∃ u, C.P.underlying tx = some u ∧ (u = .string ∨ ∃ e, u = .slice e)) ∧ Builtin.lenOf xu = (Pure.pure m : Sem Nat) ∧ (∀ w', w'.heap = w.heap → (Builtin.firstCells sz m xu).run C.P w' = .ok ds.toArray w')
theorem src_ok (hO : Ok C S0 g w H) {tx : TypeId} {sz : Nat} {x : AV} {xu : Value} {xs : List CV} (hx : RV g w (g.St S0) xu x)
    (h : srcOf C H tx sz x = some xs) : ∃ ds, Src C w tx sz xu ds xs.length ∧ RL w (g.St S0) sz ds xs := by
  unfold srcOf at h
  split at h
  · rename_i e hu
    obtain ⟨A, c, cs, e1, hr, hA, hcell, hm⟩ := elems_read hO hx h
    subst e1
    exact ⟨cs, ⟨⟨_, hu, .inr ⟨_, rfl⟩⟩, rfl, fun w' hw => run_firstCells hr.length hA (fun h0 => by
      obtain ⟨b, o, e2, h2⟩ := hcell h0
      exact ⟨b, o, e2, fun i u hi => by have := h2 i u hi; rw [← this]; simp [World.cell?, hw]⟩)⟩, hr⟩
  · rename_i hu
    split at h
    · rename_i b
      split at h
      · rename_i e
        subst e
        simp only [Option.some.injEq] at h
        subst h
        have e1 := RV_str hx
        subst e1
        have hsz : (bytesAV b.data.toList).length = b.size := by simp [bytesAV]
        refine ⟨b.data.toList.map fun b => Value.int .u8 (b.toNat : Int), ⟨⟨_, hu, .inl rfl⟩, by rw [hsz]; rfl, fun w' hw => ?_⟩, bytesAV_RL _⟩
        rw [hsz]
        simp only [Builtin.firstCells, Sem.run_pure]
        congr 1
        apply Array.ext'
        have : (b.extract 0 b.size).data = b.data := by
          have h1 : b.size = b.data.size := rfl
          rw [ByteArray.data_extract, h1, Array.extract_size]
        simp [this]
      · simp at h
    · simp at h
  · simp at h
theorem run_append {t tx ty e : TypeId} {i : TypeInfo} {z : Value} (ht : C.P.underlying t = some (.slice e)) (hi : C.P.info? e = some i) (hz : i.zero = some z)
    {xu : Value} {ds : List Value} {m : Nat} (hs : Src C w tx i.size xu ds m) (A : Option Addr) (n c : Nat) (h63 : n + m ≤ maxLen) :
    ((n + m ≤ c ∧ A = none) → (Builtin.append_ #[t, tx] ty #[.slice A n c, xu]).run C.P w = .ok (.slice none (n + m) c) w) ∧
    (∀ ad w', A = some ad → n + m ≤ c → (storeCells (ad.add (n * i.size)) ds).run C.P w = .ok () w' → (Builtin.append_ #[t, tx] ty #[.slice A n c, xu]).run C.P w = .ok (.slice A (n + m) c) w') ∧
    (∀ olds : List Value, ¬ (n + m ≤ c) → (n + m) * i.bytes ≤ 140737488355328 → (Builtin.firstCells i.size n (.slice A n c)).run C.P w.drew = .ok olds.toArray w.drew →
      (Builtin.append_ #[t, tx] ty #[.slice A n c, xu]).run C.P w = .ok (.slice (some ⟨w.heap.size, 0, none⟩) (n + m) (grownCap w (n + m) c e))
        (w.drew.alloc (.cells (olds.toArray ++ ds.toArray ++ Builtin.zeroCells z.cells (grownCap w (n + m) c e - (n + m))) e))) := by
  obtain ⟨⟨u, hu, hk⟩, hlen, hcells⟩ := hs
  have hzeros : (match u with | .int _ => true | _ => false) = false := by rcases hk with rfl | ⟨e', rfl⟩ <;> rfl
  have hc0 := hcells w rfl
  have hc1 := hcells w.drew rfl
  have hsm : n + m ≤ 9223372036854775807 := by simpa [maxLen] using h63
  refine ⟨?_, ?_, ?_⟩
  · rintro ⟨hle, rfl⟩
    simp [Builtin.append_, run_underlying ht, run_underlying hu, hzeros, sizeOf, typeInfo, hi, hlen, hle, hc0]
    rcases hk with rfl | ⟨e', rfl⟩ <;> simp [hlen, hle, hc0]
  · rintro ad w' rfl hle hst
    rcases hk with rfl | ⟨e', rfl⟩ <;> simp [Builtin.append_, run_underlying ht, run_underlying hu, sizeOf, typeInfo, hi, hlen, hle, hc0, hst]
  · intro olds hle hb hold
    have h63' : ¬ (9223372036854775807 < ((n : Int) + (m : Int))) := by omega
    have hfit := growslice_fits (need := n + m) (old := c) (bytes := i.bytes) (by omega) hb
    have h48' : ¬ (281474976710656 < Builtin.nextslicecap (n + m) c * i.bytes) := by omega
    rcases hk with rfl | ⟨e', rfl⟩ <;> simp [Builtin.append_, run_underlying ht, run_underlying hu, sizeOf, typeInfo, zeroValue, hi, hz, hlen, hle, h63', h48', Question.forced, hc1, hold, newRow, grownCap] <;> (congr 2; apply Array.ext'; simp [List.append_assoc])
theorem aappend_ok (hO : Ok C S0 g w H) {t tx ty : TypeId} {s x v : AV} {H' : Heap} {su xu : Value} (hs : RV g w (g.St S0) su s) (hx : RV g w (g.St S0) xu x) (h : aappend C H t tx s x = some (v, H')) :
    RunsV C S0 g w H' v (Builtin.append_ #[t, tx] ty #[su, xu]) := by
  unfold aappend at h
  split at h
  · rename_i e he
    have ht : C.P.underlying t = some (.slice e) := by
      unfold elemOf at he
      split at he
      · rename_i hu; simp only [Option.some.injEq] at he; subst he; exact hu
      · simp at he
    split at h
    · rename_i i hi
      split at h
      · rename_i z xs hz hsrc
        obtain ⟨ds, hSrc, hds⟩ := src_ok hO hx hsrc
        have hdl := hds.length
        split at h
        · rename_i hsz
          obtain ⟨hzs, hs0⟩ := hsz
          -- a new row, wherever it comes from
          have grow : ∀ (A : Option Addr) (n c : Nat) (olds : List Value) (es : List CV) (H1 : Heap) (g1 : Gh), Ok C S0 g1 w H1 → Step g w g1 w → n = es.length → ¬ (n + xs.length ≤ c) → (n + xs.length) * i.bytes ≤ 140737488355328 → n + xs.length ≤ maxLen →
              (Builtin.firstCells i.size n (.slice A n c)).run C.P w.drew = .ok olds.toArray w.drew → RL w (g1.St S0) i.size olds es → RL w (g1.St S0) i.size ds xs →
              RunsV C S0 g w (H1 ++ [.row e i.size (es ++ xs)]) (.os H1.length) (Builtin.append_ #[t, tx] ty #[.slice A n c, xu]) := by
            intro A n c olds es H1 g1 hO1 hst hn hle hb h63 hold hor hdr
            have hrun := (run_append (ty := ty) ht hi hz hSrc A n c h63).2.2 olds hle hb hold
            have hge := grownCap_ge w (n + xs.length) c e
            have hcm := grownCap_le_maxLen w (n + xs.length) c e h63
            have hlo := hor.length
            obtain ⟨g2, k1, k2, p1, p2, p3, p4⟩ := hO1.alloc (Like.drew w) (.cells (olds.toArray ++ ds.toArray ++ Builtin.zeroCells z.cells (grownCap w (n + xs.length) c e - (n + xs.length))) e) (.row e i.size (es ++ xs)) (grownCap w (n + xs.length) c e) (by
              intro g' hg' k hnew q1 q2 q3 q4
              have ks := k.stays S0
              refine .inr ⟨q4, [], olds ++ ds, (Builtin.zeroCells z.cells (grownCap w (n + xs.length) c e - (n + xs.length))).toList, (0, 0), ?_, ⟨by simp, fun _ => rfl, by simp⟩, by simp [q2], ?_, (hor.stays ks).append (hdr.stays ks), by rw [q3]; simp; omega, by rw [q3]; exact hcm⟩
              · rw [q1, hnew]
                congr 2
                apply Array.ext'
                simp
              · rw [q3]
                simp only [List.length_append, Array.length_toList, size_zeroCells, hzs, hlo, hdl]
                rw [← Nat.add_mul, ← Nat.add_mul]
                exact Nat.mul_le_mul_right _ (by omega))
            refine ⟨_, _, g2, hrun, k1, hst.trans k2, .one _ _ (.os _ _ _ _ (by rw [k1.heap]; simp [get]) fun mm hm => ?_) rfl⟩
            have hG2 : g2.G H1.length = some (.row e i.size (es ++ xs)) := by rw [k1.heap]; simp [get]
            rw [hG2] at hm
            simp only [Option.bind_some, Blk.len?, Option.some.injEq] at hm
            subst hm
            rw [rowVal_real p4, p1, p2, p3, hn]
            simp
          split at h
          · -- onto nil
            split at h
            · rename_i hb
              simp only [Option.some.injEq, Prod.mk.injEq] at h
              obtain ⟨rfl, rfl⟩ := h
              have e1 := RV_nilsl hs
              subst e1
              by_cases h0 : xs = []
              · subst h0
                obtain ⟨g2, k1, k2, k3⟩ := hO.virt e i.size
                have hrun := (run_append (ty := ty) ht hi hz hSrc none 0 0 (by simp [maxLen])).1 ⟨by simp, rfl⟩
                refine ⟨_, _, g2, hrun, k1, k2, .one _ _ (.os _ _ _ _ (by rw [k1.heap]; simp [get]) fun mm hm => ?_) rfl⟩
                rw [rowVal_virt k3]
                simp
              · have := grow none 0 0 [] [] H g hO (Step.refl g w) rfl (by have := List.length_pos_iff.2 h0; omega) (by simpa using hb.1) (by simpa using hb.2) (by simp [Builtin.firstCells]) (.nil _) hds
                simpa using this
            · simp at h
          · rename_i id
            split at h
            · rename_i u sz es hrow
              split at h
              · rename_i hc
                obtain ⟨rfl, rfl⟩ := hc
                split at h
                · rename_i hb
                  simp only [Option.some.injEq, Prod.mk.injEq] at h
                  obtain ⟨rfl, rfl⟩ := h
                  have hG : g.G id = some (.row u i.size es) := by rw [hO.heap]; exact hrow
                  obtain ⟨a, n, c, e1, hsm, hval⟩ := RV_os hs
                  rw [hval es.length (by rw [hG]; rfl)] at e1
                  subst e1
                  obtain ⟨d1, d2⟩ := hO.set (b := .row u i.size es) (b' := .dead) (w' := w) hrow (.inr rfl) rfl (fun n hn => by simp [Blk.len?] at hn) (fun n hn => by simp [Blk.sz?] at hn) (fun h => by simp [Blk.ok] at h) (.inl (Like.refl w)) (fun _ => trivial)
                  have hlenH : (H.set id Blk.dead).length = H.length := by simp
                  rcases hO.inv.blk id _ hG with ⟨v1, rfl, v3⟩ | ⟨v1, pre, cs, post, fr, r1, r2, r3, r4, r5, r6, r7⟩
                  · rw [rowVal_virt v1]
                    by_cases h0 : xs = []
                    · subst h0
                      obtain ⟨g2, k1, k2, k3⟩ := d1.virt u i.size
                      have hrun := (run_append (ty := ty) ht hi hz hSrc none 0 0 (by simp [maxLen])).1 ⟨by simp, rfl⟩
                      rw [hlenH] at k3
                      refine ⟨_, _, g2, hrun, by simpa using k1, d2.trans k2, .one _ _ (.os _ _ _ _ (by rw [k1.heap]; simp [get]) fun mm hm => ?_) rfl⟩
                      rw [rowVal_virt k3]
                      simp
                    · have := grow none 0 0 [] [] (H.set id .dead) _ d1 d2 rfl (by have := List.length_pos_iff.2 h0; omega) (by simpa using hb.1) (by simpa using hb.2) (by simp [Builtin.firstCells]) (.nil _) (hds.stays (d2.stays S0))
                      simpa using this
                  · rw [rowVal_real v1]
                    have hcl := r5.length
                    by_cases hroom : es.length + xs.length ≤ g.κ id
                    · -- there is room
                      have hpl : xs.length * i.size ≤ post.length := by
                        have h1 : (es.length + xs.length) * i.size ≤ g.κ id * i.size := Nat.mul_le_mul_right _ hroom
                        rw [Nat.add_mul] at h1
                        simp only [List.length_append] at r4
                        omega
                      have hpost : post = post.take (xs.length * i.size) ++ post.drop (xs.length * i.size) := (List.take_append_drop _ _).symm
                      have hst := run_stores (P := C.P) (b := g.φ id) (t := u) (fr := fr) ds 0 (g.β id + es.length * i.size) (pre ++ cs) (post.take (xs.length * i.size)) (post.drop (xs.length * i.size)) w (by rw [List.append_assoc, List.take_append_drop]; exact r1) (by simp [r3, hcl]) (by simp [hdl]; omega) (by rw [List.append_assoc, List.take_append_drop]; exact r2.out) hds.ones
                      have hrun := (run_append (ty := ty) ht hi hz hSrc (some ⟨g.φ id, g.β id, none⟩) es.length (g.κ id) hb.2).2.1 ⟨g.φ id, g.β id, none⟩ _ rfl hroom (by rw [addr_add]; exact hst)
                      obtain ⟨g2, k1, k2, p1, p2, p3, p4⟩ := hO.move (b := .row u i.size es) (b' := .row u i.size (es ++ xs)) hrow v1 rfl (g.β id) (g.κ id) (w' := w.setRow (g.φ id) (pre ++ cs ++ ds ++ post.drop (xs.length * i.size)).toArray)
                        ⟨by simp, rfl, rfl, rfl, fun k hk => setRow_other w _ k _ hk⟩ (fun g' k q1 q2 q3 q4 => .inr ⟨q4, pre, cs ++ ds, post.drop (xs.length * i.size), fr, by
                            rw [q1]
                            have := setRow_heap w (g.φ id) _ (pre ++ cs ++ ds ++ post.drop (xs.length * i.size)).toArray u fr r1
                            simpa using this, ⟨r2.le, r2.big, fun o ho => r2.out o (by
                            simp only [List.length_append, List.length_drop] at ho ⊢
                            omega)⟩, by rw [q2]; exact r3, by
                            rw [q3]
                            simp only [List.length_append, List.length_drop] at r4 ⊢
                            omega, (r5.stays (k.stays S0)).append (hds.stays (k.stays S0)), by rw [q3]; simpa using hroom, by rw [q3]; exact r7⟩)
                      refine ⟨_, _, g2, hrun, k1, k2, .one _ _ (.os _ _ _ _ (by rw [k1.heap]; simp [get]) fun mm hm => ?_) rfl⟩
                      have hG2 : g2.G H.length = some (.row u i.size (es ++ xs)) := by rw [k1.heap]; simp [get]
                      rw [hG2] at hm
                      simp only [Option.bind_some, Blk.len?, Option.some.injEq] at hm
                      subst hm
                      rw [rowVal_real p4, p1, p2, p3]
                      simp
                    · have hfc := run_firstCells (C := C) (sz := i.size) (A := some ⟨g.φ id, g.β id, none⟩) (c := g.κ id) (cs := cs) (es := es) (w' := w.drew) hcl (by simp) (fun _ => ⟨g.φ id, g.β id, rfl, fun j q hj => by
                        show w.cell? _ = _
                        rw [cell_of_row w _ _ _ _ fr r1]
                        have hlt : j < cs.length := (List.getElem?_eq_some_iff.1 hj).1
                        simp only [List.getElem?_toArray]
                        rw [List.append_assoc, List.getElem?_append_right (by omega), List.getElem?_append_left (by omega), ← hj]
                        congr 1
                        omega⟩)
                      have := grow (some ⟨g.φ id, g.β id, none⟩) es.length (g.κ id) cs es (H.set id .dead) _ d1 d2 rfl hroom hb.1 hb.2 hfc (r5.stays (d2.stays S0)) (hds.stays (d2.stays S0))
                      simpa using this
                · simp at h
              · simp at h
            · simp at h
          · simp at h
        · simp at h
      · simp at h
    · simp at h
  · simp at h
end
end Go.Fm
/-
  Small operations: new variables, tuples, interface values, least and greatest.
-/
set_option linter.unusedSimpArgs false
set_option linter.unusedVariables false
namespace Go.Fm
open Go
section
variable {C : Cfg} {S0 : Nat → Nat → Prop} {g : Gh} {w : World} {H : Heap}
theorem zero_ok {P : Program} {t : TypeId} {z : CV} (h : zeroOf P t = some z) : ∃ i zv, P.info? t = some i ∧ i.zero = some zv ∧ zv.cells.size = i.size ∧
    (∀ (w : World) (S : Nat → Nat → Prop), RC w S zv.cells.toList z) ∧ (∀ g w S, RV g w S zv (.c z)) := by
  unfold zeroOf at h
  split at h
  · rename_i i hi
    split at h
    · rename_i zv hz
      split at h
      · rename_i v hv
        split at h
        · rename_i hs
          simp only [Option.some.injEq] at h
          subst h
          have hr : ∀ g w S, RV g w S zv (.c v) := fun g w S => absV_RV hv
          refine ⟨i, zv, hi, hz, hs, fun w S => ?_, hr⟩
          exact ((hr ⟨fun _ => 0, fun _ => 0, fun _ => 0, fun _ => false, fun _ => none⟩ w S).cells (by simp)).1.toC
        · simp at h
      · simp at h
    · simp at h
  · simp at h
theorem run_zeroValue {P : Program} {w : World} {t : TypeId} {i : TypeInfo} {z : Value} (hi : P.info? t = some i) (hz : i.zero = some z) : (zeroValue t).run P w = .ok z w := by
  simp [zeroValue, typeInfo, hi, hz]
theorem run_newRow {P : Program} {w : World} (t : TypeId) (cs : Array Value) : (newRow t cs).run P w = .ok ⟨w.heap.size, 0, none⟩ (w.alloc (.cells cs t)) := by
  simp [newRow]
theorem box_ok (hO : Ok C S0 g w H) {t : TypeId} {v : AV} {u : Value} (hu : RV g w (g.St S0) u v) (ht : NT v) :
    RunsV C S0 g w (H ++ [.var t v]) (.ov H.length [] 0) (Instr.box t u) := by
  obtain ⟨h1, _, _⟩ := hu.cells ht
  obtain ⟨g', k1, k2, p1, p2, p3, p4⟩ := hO.alloc (Like.refl w) (.cells u.cells t) (.var t v) 0 (by
    intro g' hg' k hnew q1 q2 q3 q4
    exact ⟨u.cells.toList, by rw [q1, hnew], h1.step k (k.stays S0)⟩)
  refine ⟨.pointer (some ⟨w.heap.size, 0, none⟩), _, g', ?_, k1, k2, ?_⟩
  · simp [Instr.box, newVar, run_newRow]
  · have := RV_ov_mk (g := g') (w := w.alloc (.cells u.cells t)) (S := g'.St S0) (id := H.length) (p := []) (off := 0) (by rw [k1.heap]; simp [get])
    rwa [p1] at this
theorem alloc_ok (hO : Ok C S0 g w H) {t : TypeId} {z : CV} (hz : zeroOf C.P t = some z) (x : Value) :
    RunsV C S0 g w (H ++ [.var t (.c z)]) (.ov H.length [] 0) (Instr.alloc t true x) := by
  obtain ⟨i, zv, hi, hzv, hs, hr, hv⟩ := zero_ok hz
  obtain ⟨u, w', g', h1, h2⟩ := box_ok hO (t := t) (hv g w (g.St S0)) (by simp)
  refine ⟨u, w', g', ?_, h2⟩
  rw [← h1]
  simp [Instr.alloc, Instr.box, run_zeroValue hi hzv]
theorem extract_ok (hO : Ok C S0 g w H) {l : List AV} {u : Value} {i : Nat} {v : AV} (hu : RV g w (g.St S0) u (.tup l)) (hi : l[i]? = some v) :
    RunsV C S0 g w H v (Instr.extract u i) := by
  obtain ⟨vs, rfl, hvs⟩ := RV_tup hu
  obtain ⟨x, h1, h2⟩ := hvs.get i v hi
  exact RunsV.same hO (by simp [Instr.extract, h1]) h2
theorem afold_min_ok (hO : Ok C S0 g w H) : ∀ (l : List AV) (us : List Value) (k : IntKind) (a : Int) (v : AV), RVs g w (g.St S0) us l →
    afold (fun x y => if y < x then y else x) k a l = some v → RunsV C S0 g w H v (us.foldlM Builtin.min2 (.int k a))
  | [], us, k, a, v, hr, h => by
    cases hr
    simp only [afold, Option.some.injEq] at h
    subst h
    exact RunsV.same hO (by simp) (RV.ofC1 (.int _ _) rfl)
  | x :: l, us, k, a, v, hr, h => by
    cases hr with
    | cons u us _ _ h1 h2 =>
      cases x with
      | c cv =>
        cases cv with
        | int k' b =>
          simp only [afold] at h
          have := afold_min_ok hO l us k _ v h2 h
          rw [RV_int h1]
          obtain ⟨u', w', g', e, r⟩ := this
          exact ⟨u', w', g', by simpa [List.foldlM_cons, Builtin.min2] using e, r⟩
        | _ => simp [afold] at h
      | _ => simp [afold] at h
theorem afold_max_ok (hO : Ok C S0 g w H) : ∀ (l : List AV) (us : List Value) (k : IntKind) (a : Int) (v : AV), RVs g w (g.St S0) us l →
    afold (fun x y => if y > x then y else x) k a l = some v → RunsV C S0 g w H v (us.foldlM Builtin.max2 (.int k a))
  | [], us, k, a, v, hr, h => by
    cases hr
    simp only [afold, Option.some.injEq] at h
    subst h
    exact RunsV.same hO (by simp) (RV.ofC1 (.int _ _) rfl)
  | x :: l, us, k, a, v, hr, h => by
    cases hr with
    | cons u us _ _ h1 h2 =>
      cases x with
      | c cv =>
        cases cv with
        | int k' b =>
          simp only [afold] at h
          have := afold_max_ok hO l us k _ v h2 h
          rw [RV_int h1]
          obtain ⟨u', w', g', e, r⟩ := this
          exact ⟨u', w', g', by simpa [List.foldlM_cons, Builtin.max2] using e, r⟩
        | _ => simp [afold] at h
      | _ => simp [afold] at h
theorem amin_ok (hO : Ok C S0 g w H) {l : List AV} {us : List Value} {v : AV} (ts : Array TypeId) (t : TypeId) (hr : RVs g w (g.St S0) us l)
    (h : aminmax (fun x y => if y < x then y else x) l = some v) : RunsV C S0 g w H v (Builtin.min_ ts t us.toArray) := by
  unfold aminmax at h
  split at h
  · cases hr with
    | cons u us _ _ h1 h2 =>
      rw [RV_int h1]
      simpa [Builtin.min_] using afold_min_ok hO _ us _ _ v h2 h
  · simp at h
theorem amax_ok (hO : Ok C S0 g w H) {l : List AV} {us : List Value} {v : AV} (ts : Array TypeId) (t : TypeId) (hr : RVs g w (g.St S0) us l)
    (h : aminmax (fun x y => if y > x then y else x) l = some v) : RunsV C S0 g w H v (Builtin.max_ ts t us.toArray) := by
  unfold aminmax at h
  split at h
  · cases hr with
    | cons u us _ _ h1 h2 =>
      rw [RV_int h1]
      simpa [Builtin.max_] using afold_max_ok hO _ us _ _ v h2 h
  · simp at h
theorem makeInterface_ok (hO : Ok C S0 g w H) {t : TypeId} {a : AV} {u : Value} {v : CV} {H' : Heap} (hu : RV g w (g.St S0) u a) (ht : NT a) (hc : C.P.concrete t = true) (h : toC 6 H a = some (v, H')) :
    RunsV C S0 g w H' (.c (.iface t v)) (Instr.makeInterface t u) := by
  obtain ⟨h1, h2, h3⟩ := hu.cells ht
  obtain ⟨g', k1, k2, k3, k4⟩ := toC_ok 6 H a v H' h g w u.cells.toList hO h1
  refine ⟨.iface t u, w, g', run_makeInterface w t u hc, k1, k2, RV.ofC1 (.iface t u v k3 ?_) rfl⟩
  rw [k4]
  constructor
  · rintro ⟨cs, rfl⟩
    cases hb : a.isAgg with
    | true => rfl
    | false => have := h3 hb; simp [Value.oneCell'] at this
  · exact h2
end
end Go.Fm
/-
  Structs and arrays built; fields read.
-/
set_option linter.unusedSimpArgs false
set_option linter.unusedVariables false
namespace Go.Fm
open Go
/-- Parts and their values. -/
inductive RP (g : Gh) (w : World) (S : Nat → Nat → Prop) : List (Nat × Value) → List (Nat × AV) → Prop
  | nil : RP g w S [] []
  | cons (i : Nat) (u : Value) (us : List (Nat × Value)) (a : AV) (as : List (Nat × AV)) (h : RV g w S u a) (ht : NT a) (hs : RP g w S us as) : RP g w S ((i, u) :: us) ((i, a) :: as)
theorem RP.step {g g' : Gh} {w w' : World} {S S' : Nat → Nat → Prop} (k : Step g w g' w') (ks : Stays w S w' S') {us : List (Nat × Value)} {as : List (Nat × AV)} (h : RP g w S us as) : RP g' w' S' us as := by
  induction h with
  | nil => exact .nil
  | cons i u us a as h ht _ ih => exact .cons i u us a as (h.step k ks) ht ih
theorem offs_at {P : Program} : ∀ (fs : List Field) (l : List AV) (o i : Nat) (v : AV), offsFit P o fs = true → sizesFit P fs l = true → l[i]? = some v →
    ∃ fd, fs[i]? = some fd ∧ fd.offset = o + AV.sizes (l.take i) ∧ (P.info? fd.type).isSome = true ∧ v.size = P.cellsOf fd.type
  | [], [], o, i, v, h1, h2, h3 => by simp at h3
  | [], _ :: _, o, i, v, h1, h2, h3 => by simp [sizesFit] at h2
  | _ :: _, [], o, i, v, h1, h2, h3 => by simp at h3
  | f :: fs, a :: l, o, i, v, h1, h2, h3 => by
    simp only [offsFit, Bool.and_eq_true, beq_iff_eq] at h1
    simp only [sizesFit, Bool.and_eq_true, beq_iff_eq] at h2
    cases i with
    | zero =>
      simp at h3
      subst h3
      exact ⟨f, by simp, by simp [AV.sizes, h1.1.1], h1.1.2, h2.1⟩
    | succ i =>
      simp at h3
      obtain ⟨fd, k1, k2, k3, k4⟩ := offs_at fs l _ i v h1.2 h2.2 h3
      exact ⟨fd, by simpa using k1, by simp [AV.sizes, k2, h2.1]; omega, k3, k4⟩
theorem offs_places {P : Program} : ∀ (fs : List Field) (o : Nat), offsFit P o fs = true → fs.mapM (fun f => (P.info? f.type).map fun i => (f.offset, i.size)) = some (fs.map fun f => (f.offset, P.cellsOf f.type))
  | [], o, h => by simp
  | f :: fs, o, h => by
    simp only [offsFit, Bool.and_eq_true, beq_iff_eq] at h
    obtain ⟨i, hi⟩ := Option.isSome_iff_exists.1 h.1.2
    simp [List.mapM_cons, hi, offs_places fs _ h.2, Program.cellsOf]
theorem sizesFit_set {P : Program} : ∀ (fs : List Field) (l : List AV) (i : Nat) (v old : AV), sizesFit P fs l = true → l[i]? = some old → old.size = v.size → sizesFit P fs (l.set i v) = true
  | [], [], i, v, old, h, h1, h2 => by simp at h1
  | [], _ :: _, i, v, old, h, h1, h2 => by simp [sizesFit] at h
  | _ :: _, [], i, v, old, h, h1, h2 => by simp at h1
  | f :: fs, a :: l, i, v, old, h, h1, h2 => by
    simp only [sizesFit, Bool.and_eq_true, beq_iff_eq] at h
    cases i with
    | zero => simp at h1; subst h1; simp [sizesFit, h.2, ← h2, h.1]
    | succ i => simp at h1; simp [sizesFit, h.1, sizesFit_set fs l i v old h.2 h1 h2]
theorem foldl_put : ∀ (xs : List Value) (k off : Nat) (pre ys post : List Value), pre.length = off + k → ys.length = xs.length →
    (xs.zipIdx k).foldl (fun cs (p : Value × Nat) => cs.setIfInBounds (off + p.2) p.1) (pre ++ ys ++ post).toArray = (pre ++ xs ++ post).toArray
  | [], k, off, pre, ys, post, h1, h2 => by
    have : ys = [] := List.eq_nil_of_length_eq_zero (by simpa using h2)
    subst this
    simp
  | x :: xs, k, off, pre, ys, post, h1, h2 => by
    cases ys with
    | nil => simp at h2
    | cons y ys =>
      have ih := foldl_put xs (k + 1) off (pre ++ [x]) ys post (by simp [h1]; omega) (by simpa using h2)
      have e : (pre ++ y :: ys ++ post).toArray.setIfInBounds (off + k) x = (pre ++ [x] ++ ys ++ post).toArray := by
        apply Array.ext'
        simp [← h1]
      simp only [List.zipIdx_cons, List.foldl_cons, e, ih]
      simp
theorem fill_cons {place : Nat → Option (Nat × Nat)} {pre ys post : List Value} {i : Nat} {v : Value} {rest : List (Nat × Value)} {sz : Nat} (hp : place i = some (pre.length, sz)) (hv : v.cells.size = sz) (hy : ys.length = sz) :
    Instr.fill place (pre ++ ys ++ post).toArray ((i, v) :: rest) = Instr.fill place (pre ++ v.cells.toList ++ post).toArray rest := by
  have h1 : ¬ (v.cells.size ≠ sz ∨ pre.length + v.cells.size > (pre ++ ys ++ post).toArray.size) := by
    simp [hv, hy]
  have h2 := foldl_put v.cells.toList 0 pre.length pre ys post (by simp) (by simp [hv, hy])
  rw [← Array.toList_zipIdx, Array.foldl_toList] at h2
  simp only [Instr.fill, hp]
  rw [if_neg (by simpa using h1)]
  exact congrArg (fun c => Instr.fill place c rest) h2
section
variable {C : Cfg} {S0 : Nat → Nat → Prop} {g : Gh} {w : World} {H : Heap} {S : Nat → Nat → Prop}
theorem fill_struct {P : Program} {fs : List Field} (ho : offsFit P 0 fs = true) : ∀ (ps : List (Nat × AV)) (us : List (Nat × Value)) (l l' : List AV) (cs : List Value), RP g w S us ps → sizesFit P fs l = true → RAF g w S cs l → setNth l ps = some l' →
    ∃ cs', Instr.fill ((fs.map fun f => (f.offset, P.cellsOf f.type)).toArray[·]?) cs.toArray us = some cs' ∧ RAF g w S cs'.toList l'
  | [], us, l, l', cs, hr, hs, ha, h => by
    cases hr
    simp only [setNth, Option.some.injEq] at h
    subst h
    exact ⟨_, rfl, by simpa using ha⟩
  | (i, a) :: ps, us, l, l', cs, hr, hs, ha, h => by
    cases hr with
    | cons _ u us _ _ hu ht hrs =>
      simp only [setNth] at h
      split at h
      · rename_i old hold
        split at h
        · rename_i hsz
          obtain ⟨fd, k1, k2, k3, k4⟩ := offs_at fs l 0 i old ho hs hold
          obtain ⟨pre, xs, post, rfl, m1, m2, m3⟩ := ha.split i old hold
          obtain ⟨n1, _, _⟩ := hu.cells ht
          have hl := n1.length
          have hx := m2.length
          rw [fill_cons (sz := P.cellsOf fd.type) (by simp [k1, k2, m1]) (by rw [← k4, hsz, ← hl]; simp) (by rw [hx, k4])]
          exact fill_struct ho ps us (l.set i a) l' _ hrs (sizesFit_set fs l i a old hs hold hsz) (m3 _ a n1) h
        · simp at h
      · simp at h
theorem fill_ints {k : IntKind} {e : Nat} (he : e = 1) : ∀ (ps : List (Nat × AV)) (us : List (Nat × Value)) (ns ns' : List Int), RP g w S us ps → setInts k ns ps = some ns' →
    Instr.fill (fun i => some (i * e, e)) (ns.map (Value.int k)).toArray us = some (ns'.map (Value.int k)).toArray ∧ ns'.length = ns.length
  | [], us, ns, ns', hr, h => by
    cases hr
    simp only [setInts, Option.some.injEq] at h
    subst h
    exact ⟨rfl, rfl⟩
  | (i, a) :: ps, us, ns, ns', hr, h => by
    subst he
    cases hr with
    | cons _ u us _ _ hu ht hrs =>
      unfold setInts at h
      split at h
      · simp at *
      · rename_i i' k' n r e1
        simp only [List.cons.injEq, Prod.mk.injEq] at e1
        obtain ⟨⟨rfl, rfl⟩, rfl⟩ := e1
        split at h
        · rename_i hc
          obtain ⟨rfl, hi⟩ := hc
          obtain ⟨q1, q2⟩ := fill_ints rfl _ us (ns.set i n) ns' hrs h
          rw [RV_int hu]
          refine ⟨?_, by simpa using q2⟩
          rw [← q1]
          have hsplit : ns.map (Value.int k') = (ns.map (Value.int k')).take i ++ [Value.int k' (ns.getD i 0)] ++ (ns.map (Value.int k')).drop (i + 1) := by
            have e2 := List.drop_eq_getElem_cons (l := ns.map (Value.int k')) (i := i) (by simpa using hi)
            rw [List.append_assoc, List.singleton_append]
            conv => lhs; rw [← List.take_append_drop i (ns.map (Value.int k')), e2]
            simp [List.getD_eq_getElem?_getD, List.getElem?_eq_getElem hi]
          have hset : (ns.set i n).map (Value.int k') = (ns.map (Value.int k')).take i ++ [Value.int k' n] ++ (ns.map (Value.int k')).drop (i + 1) := by
            rw [List.map_set, List.set_eq_take_append_cons_drop]
            simp [hi]
          have hl : ((ns.map (Value.int k')).take i).length = i := by simp; omega
          rw [hset]
          generalize (ns.map (Value.int k')).take i = A at hsplit hl ⊢
          generalize (ns.map (Value.int k')).drop (i + 1) = B at hsplit ⊢
          rw [hsplit, fill_cons (sz := 1) (by simp [hl]) (by simp [Value.cells]) (by simp)]
          simp [Value.cells]
        · simp at h
      · simp at h
theorem abuild_ok (hO : Ok C S0 g w H) {t : TypeId} {ps : List (Nat × AV)} {us : Array (Nat × Value)} {v : AV} (hr : RP g w (g.St S0) us.toList ps) (h : abuild C t ps = some v) :
    RunsV C S0 g w H v (Instr.build t us) := by
  unfold abuild at h
  split at h
  · rename_i fields zs hu hz
    split at h
    · rename_i hc
      obtain ⟨ho, hs⟩ := hc
      simp only [Option.map_eq_some_iff] at h
      obtain ⟨l', hl', rfl⟩ := h
      obtain ⟨i, zv, hi, hzv, hsz, hrc, hrv⟩ := zero_ok hz
      obtain ⟨cs, hcs, hrf⟩ := RV_agg (hrv g w (g.St S0))
      obtain ⟨cs', f1, f2⟩ := fill_struct ho ps us.toList (zs.map .c) l' cs hr hs hrf.toA hl'
      refine RunsV.same hO (u := .agg cs') (run_build w t us cs' ?_) ?_
      · unfold Program.built
        simp only [hi, hu, hzv, offs_places _ _ ho]
        rw [hcs]
        exact f1
      · simpa using RV.ofA (f2.mk) (mkAgg_isAgg l')
    · simp at h
  · rename_i n e m k ns hu hz
    split at h
    · rename_i hc
      obtain ⟨rfl, he, hie⟩ := hc
      simp only [Option.map_eq_some_iff] at h
      obtain ⟨ns', hns', rfl⟩ := h
      obtain ⟨i, zv, hi, hzv, hsz, hrc, hrv⟩ := zero_ok hz
      obtain ⟨hzz, hnl⟩ := RV_arr (hrv g w (g.St S0))
      obtain ⟨ie, hie'⟩ := Option.isSome_iff_exists.1 hie
      have he1 : ie.size = 1 := by simpa [Program.cellsOf, hie'] using he
      obtain ⟨f1, f2⟩ := fill_ints (g := g) (w := w) (S := g.St S0) he1 ps us.toList ns ns' hr hns'
      refine RunsV.same hO (u := .agg (ns'.map (Value.int k)).toArray) (run_build w t us _ ?_) ?_
      · unfold Program.built
        simp only [hi, hu, hzv, hie']
        rw [hzz]
        exact f1
      · exact RV.ofA (.c _ _ (.arr m k ns' (by rw [f2, hnl]))) rfl
    · simp at h
  · simp at h
theorem afield_ok (hO : Ok C S0 g w H) {t : TypeId} {x v : AV} {f : Nat} {xu : Value} (hx : RV g w (g.St S0) xu x) (h : afield C t x f = some v) : RunsV C S0 g w H v (Instr.field t xu f) := by
  unfold afield at h
  split at h
  · rename_i fields l hu hl
    split at h
    · rename_i fd v' hf hv
      split at h
      · rename_i hc
        obtain ⟨ho, hs, hft⟩ := hc
        simp only [Option.some.injEq] at h
        subst h
        have hxt : NT x := ⟨fun e => by subst e; simp [AV.fields] at hl, fun l' e => by subst e; simp [AV.fields] at hl⟩
        have hxa : x.isAgg = true := by
          cases x with
          | c cv => cases cv <;> simp_all [AV.fields, AV.isAgg, CV.isAgg]
          | agg _ => rfl
          | _ => simp [AV.fields] at hl
        obtain ⟨h1, h2, _⟩ := hx.cells hxt
        obtain ⟨cs, rfl⟩ := h2 hxa
        obtain ⟨fd', k1, k2, k3, k4⟩ := offs_at fields.toList l 0 f v' ho hs hv
        have : fd' = fd := by
          have : fields.toList[f]? = some fd := by simpa using hf
          rw [this] at k1; injection k1 with k1; exact k1.symm
        subst this
        obtain ⟨d, i, hd, hi, hsi, hag, h1'⟩ := fits_cases hft
        simp only [Value.cells] at h1
        obtain ⟨pre, xs, post, hsplit, m1, m2, _⟩ := (h1.fields l hl).split f v' hv
        have hcs : cs = (pre ++ xs ++ post).toArray := by rw [← hsplit, Array.toArray_toList]
        have hxl := m2.length
        obtain ⟨t1, t2⟩ := m2.toV
        have hrun : ∀ u, (part fd'.type cs fd'.offset).run C.P w = .ok u w → (Instr.field t (.agg cs) f).run C.P w = .ok u w := fun u hp => by
          have ha : (asAgg (.agg cs)).run C.P w = .ok cs w := by simp [asAgg]
          simp [Instr.field, run_underlying hu, hf, hp, ha]
        cases hA : v'.isAgg with
        | true =>
          refine RunsV.same hO (u := .agg xs.toArray) (hrun _ (run_part hd hi _ _ _ ?_)) (t1 hA)
          rw [← hag, hA, if_pos rfl, hcs, k2, Nat.zero_add, ← m1, hsi, ← hxl]
          congr 1
          apply Array.ext'
          simp
        | false =>
          obtain ⟨u, rfl, h3⟩ := t2 hA
          refine RunsV.same hO (u := u) (hrun _ (run_part hd hi _ _ _ ?_)) h3
          rw [← hag, hA, if_neg (by simp), hcs, k2, Nat.zero_add, ← m1]
          simp
      · simp at h
    · simp at h
  · simp at h
end
end Go.Fm
/-
  Rows built: of parts, of zeros.
-/
set_option linter.unusedSimpArgs false
set_option linter.unusedVariables false
namespace Go.Fm
open Go
theorem range_zero : Array.range 0 = #[] := rfl
theorem zeros_eq (z : Array Value) (n : Nat) : (Array.range (n * z.size)).map (fun i => z[i % z.size]!) = (List.replicate n z.toList).flatten.toArray := by
  apply Array.ext'
  simp only [Array.toList_map, Array.toList_range]
  induction n with
  | zero => simp
  | succ n ih =>
    rw [Nat.succ_mul, List.range_add, List.map_append, ih, List.replicate_succ', List.flatten_append]
    congr 1
    simp only [List.map_map, List.flatten_cons, List.flatten_nil, List.append_nil]
    apply List.ext_getElem
    · simp
    · intro i h1 h2
      have hi : i < z.size := by simpa using h1
      simp [Nat.mod_eq_of_lt hi, hi]
theorem zeros_RL {w : World} {S : Nat → Nat → Prop} {z : CV} {zs : List Value} {sz : Nat} (hz : RC w S zs z) (hs : zs.length = sz) : ∀ n, RL w S sz (List.replicate n zs).flatten (List.replicate n z)
  | 0 => by simpa using RL.nil sz
  | n + 1 => by
    rw [List.replicate_succ, List.replicate_succ, List.flatten_cons]
    exact .cons _ _ _ _ _ hs hz (zeros_RL hz hs n)
/-- Parts that are content. -/
inductive RPC (w : World) (S : Nat → Nat → Prop) : List (Nat × Value) → List (Nat × CV) → Prop
  | nil : RPC w S [] []
  | cons (i : Nat) (u : Value) (us : List (Nat × Value)) (c : CV) (cs : List (Nat × CV)) (h : RC w S u.cells.toList c) (hs : RPC w S us cs) : RPC w S ((i, u) :: us) ((i, c) :: cs)
section
variable {C : Cfg} {S0 : Nat → Nat → Prop}
theorem toCparts_ok : ∀ (ps : List (Nat × AV)) (us : List (Nat × Value)) (H H' : Heap) (cs : List (Nat × CV)) (g : Gh) (w : World), Ok C S0 g w H → RP g w (g.St S0) us ps → toCparts H ps = some (cs, H') →
    ∃ g', Ok C S0 g' w H' ∧ Step g w g' w ∧ RPC w (g'.St S0) us cs
  | [], us, H, H', cs, g, w, hO, hr, h => by
    cases hr
    simp only [toCparts, Option.some.injEq, Prod.mk.injEq] at h
    obtain ⟨rfl, rfl⟩ := h
    exact ⟨g, hO, Step.refl g w, .nil⟩
  | (i, a) :: ps, us, H, H', cs, g, w, hO, hr, h => by
    cases hr with
    | cons _ u us _ _ hu ht hrs =>
      simp only [toCparts] at h
      split at h
      · rename_i c H1 h1
        split at h
        · rename_i cs' H2 h2
          simp only [Option.some.injEq, Prod.mk.injEq] at h
          obtain ⟨rfl, rfl⟩ := h
          obtain ⟨g1, k1, k2, k3, _⟩ := toC_ok 6 H a c H1 h1 g w _ hO (hu.cells ht).1
          obtain ⟨g2, m1, m2, m3⟩ := toCparts_ok ps us H1 H2 cs' g1 w k1 (hrs.step k2 (k2.stays S0)) h2
          exact ⟨g2, m1, k2.trans m2, .cons _ _ _ _ _ (k3.stays (m2.stays S0)) m3⟩
        · simp at h
      · simp at h
theorem fill_row {w : World} {S : Nat → Nat → Prop} {sz : Nat} : ∀ (ps : List (Nat × CV)) (us : List (Nat × Value)) (es es' : List CV) (cs : List Value), RPC w S us ps → RL w S sz cs es → setCs sz es ps = some es' →
    ∃ cs', Instr.fill (fun i => some (i * sz, sz)) cs.toArray us = some cs' ∧ RL w S sz cs'.toList es'
  | [], us, es, es', cs, hr, ha, h => by
    cases hr
    simp only [setCs, Option.some.injEq] at h
    subst h
    exact ⟨_, rfl, by simpa using ha⟩
  | (i, c) :: ps, us, es, es', cs, hr, ha, h => by
    cases hr with
    | cons _ u us _ _ hu hrs =>
      simp only [setCs] at h
      split at h
      · rename_i hc
        obtain ⟨hi, hsz⟩ := hc
        obtain ⟨pre, xs, post, rfl, m1, m2, m3, m4⟩ := ha.split i _ (getD_some hi)
        have hl := hu.length
        rw [fill_cons (sz := sz) (by simp [m1]) (by rw [← hsz, ← hl]; simp) (by rw [m2])]
        exact fill_row ps us (es.set i c) es' _ hrs (m4 _ c (by rw [hl, hsz]) hu) h
      · simp at h
variable {g : Gh} {w : World} {H : Heap}
theorem elemOf_eq {P : Program} {t e : TypeId} (h : elemOf P t = some e) : P.underlying t = some (.slice e) := by
  unfold elemOf at h
  split at h
  · rename_i hu; simp only [Option.some.injEq] at h; subst h; exact hu
  · simp at h
theorem newRow_ok (hO : Ok C S0 g w H) {e : TypeId} {sz cap : Nat} {cs post : List Value} {es : List CV} (hr : RL w (g.St S0) sz cs es) (hcap : cap * sz ≤ (cs ++ post).length) (hle : es.length ≤ cap) (hm : cap ≤ maxLen) {n : Nat} (hn : n = es.length) :
    ∃ g', Ok C S0 g' (w.alloc (.cells (cs ++ post).toArray e)) (H ++ [.row e sz es]) ∧ Step g w g' (w.alloc (.cells (cs ++ post).toArray e)) ∧
      RV g' (w.alloc (.cells (cs ++ post).toArray e)) (g'.St S0) (.slice (some ⟨w.heap.size, 0, none⟩) n cap) (.os H.length) := by
  subst hn
  obtain ⟨g', k1, k2, p1, p2, p3, p4⟩ := hO.alloc (Like.refl w) (.cells (cs ++ post).toArray e) (.row e sz es) cap (by
    intro g' hg' k hnew q1 q2 q3 q4
    refine .inr ⟨q4, [], cs, post, (0, 0), by rw [q1, hnew]; simp, ⟨by simp, fun _ => rfl, by simp⟩, by simp [q2], by rw [q3]; exact hcap, hr.stays (k.stays S0), by rw [q3]; exact hle, by rw [q3]; exact hm⟩)
  refine ⟨g', k1, k2, .one _ _ (.os _ _ _ _ (by rw [k1.heap]; simp [get]) fun mm hmm => ?_) rfl⟩
  have hG2 : g'.G H.length = some (.row e sz es) := by rw [k1.heap]; simp [get]
  rw [hG2] at hmm
  simp only [Option.bind_some, Blk.len?, Option.some.injEq] at hmm
  subst hmm
  rw [rowVal_real p4, p1, p2, p3]
theorem setCs_length {sz : Nat} : ∀ (ps : List (Nat × CV)) (es es' : List CV), setCs sz es ps = some es' → es'.length = es.length
  | [], es, es', h => by simp only [setCs, Option.some.injEq] at h; rw [h]
  | (i, c) :: ps, es, es', h => by
    simp only [setCs] at h
    split at h
    · have := setCs_length ps _ _ h; simpa using this
    · simp at h
theorem abuildSlice_ok (hO : Ok C S0 g w H) {t : TypeId} {len : Nat} {ps : List (Nat × AV)} {us : Array (Nat × Value)} {v : AV} {H' : Heap} (hr : RP g w (g.St S0) us.toList ps) (h : abuildSlice C H t len ps = some (v, H')) :
    RunsV C S0 g w H' v (Instr.buildSlice t len us) := by
  unfold abuildSlice at h
  split at h
  · rename_i e he
    have hu := elemOf_eq he
    split at h
    · rename_i z cps H1 hz hp
      split at h
      · rename_i hc
        obtain ⟨h24, hzs, hne⟩ := hc
        split at h
        · rename_i es hes
          simp only [Option.some.injEq, Prod.mk.injEq] at h
          obtain ⟨rfl, rfl⟩ := h
          obtain ⟨i, zv, hi, hzv, hsz, hrc, hrv⟩ := zero_ok hz
          have hcell : C.P.cellsOf e = i.size := by simp [Program.cellsOf, hi]
          rw [hcell] at h24 hzs hne hes ⊢
          obtain ⟨g1, k1, k2, k3⟩ := toCparts_ok ps us.toList H H1 cps g w hO hr hp
          have hzl : zv.cells.toList.length = i.size := by simpa using hsz
          obtain ⟨cs', f1, f2⟩ := fill_row cps us.toList _ es _ k3 (zeros_RL (hrc w (g1.St S0)) hzl len) hes
          have hel := setCs_length _ _ _ hes
          rw [List.length_replicate] at hel
          have hcl := f2.length
          have hlm : len ≤ maxLen := by
            have : len ≤ len * i.size := Nat.le_mul_of_pos_right _ (Nat.pos_of_ne_zero hne)
            simp only [maxLen]
            omega
          obtain ⟨g2, m1, m2, m3⟩ := newRow_ok k1 (e := e) (sz := i.size) (cap := len) (cs := cs'.toList) (post := []) (es := es) f2 (by simp [hcl, hel]) (by omega) hlm (n := len) hel.symm
          refine ⟨_, _, g2, ?_, m1, k2.trans m2, m3⟩
          have h0 : Instr.fill (fun i_1 => some (i_1 * i.size, i.size)) (Array.map (fun x => zv.cells[x % zv.cells.size]!) (Array.range (len * i.size))) us.toList = some cs' := by
            rw [← hsz, zeros_eq, hsz]
            exact f1
          have hz1 := run_zeroValue (P := C.P) (w := w) hi hzv
          by_cases hl0 : len * i.size = 0
          · have : len = 0 := by rcases Nat.mul_eq_zero.1 hl0 with h | h; exact h; exact absurd h hne
            subst this
            simp [range_zero] at h0
            simp [Instr.buildSlice, run_underlying hu, run_sizeOf hi, newRow, h0, range_zero]
          · have hl1 : ¬ (16777216 < len * i.size) := by omega
            simp [Instr.buildSlice, run_underlying hu, run_sizeOf hi, newRow, hl0, hl1, hz1, h0]
        · simp at h
      · simp at h
    · simp at h
  · simp at h
theorem amakeSlice_ok (hO : Ok C S0 g w H) {t : TypeId} {k k' : IntKind} {l c : Int} {v : AV} {H' : Heap} (h : amakeSlice C H t l c = some (v, H')) :
    RunsV C S0 g w H' v (Instr.makeSlice t (.int k l) (.int k' c)) := by
  unfold amakeSlice at h
  split at h
  · rename_i e he
    have hu := elemOf_eq he
    split at h
    · rename_i z i hz hi
      split at h
      · rename_i hc
        obtain ⟨rfl, h0⟩ := hc
        split at h
        · rename_i hc
          obtain ⟨hb, hm, hzs, hne⟩ := hc
          simp only [Option.some.injEq, Prod.mk.injEq] at h
          obtain ⟨rfl, rfl⟩ := h
          obtain ⟨i', zv, hi', hzv, hsz, hrc, hrv⟩ := zero_ok hz
          rw [hi] at hi'; injection hi' with hi'; subst hi'
          have hzl : zv.cells.toList.length = i.size := by simpa using hsz
          have hcn : ((l.toNat : Nat) : Int) = l := Int.toNat_of_nonneg h0
          have hrl := zeros_RL (hrc w (g.St S0)) hzl l.toNat
          have hlen := hrl.length
          rw [List.length_replicate] at hlen
          obtain ⟨g2, m1, m2, m3⟩ := newRow_ok hO (e := e) (sz := i.size) (cap := l.toNat) (cs := (List.replicate l.toNat zv.cells.toList).flatten) (post := []) (es := List.replicate l.toNat z) hrl (by rw [List.append_nil, hlen]; exact Nat.le_refl _) (by simp) (by omega) (n := l.toNat) (by simp)
          refine ⟨_, _, g2, ?_, m1, m2, m3⟩
          have hw : IntKind.i64.wrap l = l := by
            have : l ≤ 9223372036854775807 := by simp only [maxLen] at hm; omega
            simp [IntKind.wrap, IntKind.signed, IntKind.bits]
            omega
          have hz1 := run_zeroValue (P := C.P) (w := w) hi hzv
          have hzz := zeros_eq zv.cells l.toNat
          rw [hsz] at hzz
          have e1 : ¬ (l < 0) := by omega
          have ha : ∀ k : IntKind, (asInt (.int k l)).run C.P w = .ok l w := fun k => by simp [asInt, asIntOf]
          have e2 : ¬ (281474976710656 < (i.bytes : Int) * l) := by rw [Int.mul_comm]; omega
          by_cases hl0 : l.toNat = 0
          · have : l = 0 := by omega
            subst this
            have ha0 : ∀ k : IntKind, (asInt (.int k 0)).run C.P w = .ok 0 w := fun k => by simp [asInt, asIntOf]
            simp [Instr.makeSlice, run_underlying hu, run_typeInfo hi, run_sizeOf hi, hw, newRow, ha0, askRoom, range_zero]
          · simp [Instr.makeSlice, run_underlying hu, run_typeInfo hi, run_sizeOf hi, hw, newRow, ha, e1, e2, hl0, hne, hz1, hzz, askRoom, hsz]
            intro hc
            rcases Nat.mul_eq_zero.1 hc with h | h
            · exact absurd h hl0
            · exact absurd h hne
        · simp at h
      · simp at h
    · simp at h
  · simp at h
end
end Go.Fm

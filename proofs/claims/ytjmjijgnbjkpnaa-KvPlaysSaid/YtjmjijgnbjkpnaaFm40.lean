/-
  A part of the proof: Fm40.
-/
import Derived.Test.YtjmjijgnbjkpnaaFm39
set_option linter.all false
set_option autoImplicit true
/-
  The operations, of types that are known: no program in sight. (Definitions.)
-/
set_option linter.unusedSimpArgs false
set_option linter.unusedVariables false
namespace Go.Fm
open Go
def fitsR (A : Bool) (n sz : Nat) (agg : Bool) : Bool := match A with
  | true => agg && true && sz == n
  | false => !agg && true && sz == 1 && true
def ev1R (r : Option AV) : Option AV := match r with
  | some (.tup _) => none
  | some .any => none
  | r => r
def mPick (c a b : AV) (H : Heap) : Option (AV × Heap) := match some c with
  | some (.c (.bool t)) => match some a, some b with
    | some x, some y => some (if t then x else y, H)
    | _, _ => none
  | _ => none
def mAlloc (t : TypeId) (z : CV) (H : Heap) : Option (AV × Heap) := some (.ov H.length [] 0, H ++ [.var t (.c z)])
def mBox (t : TypeId) (x : AV) (H : Heap) : Option (AV × Heap) := match ev1R (some x) with
  | some v => some (.ov H.length [] 0, H ++ [.var t v])
  | none => none
def partsR : List (Nat × AV) → Option (List (Nat × AV))
  | [] => some []
  | (i, x) :: r => match ev1R (some x), partsR r with
    | some v, some vs => some ((i, v) :: vs)
    | _, _ => none
def mBuildS (zs : List CV) (parts : List (Nat × AV)) (H : Heap) : Option (AV × Heap) := match partsR parts with
  | some ps => ((setNth (zs.map .c) ps).map mkAgg).map fun v => (v, H)
  | none => none
def mBuildA (m : Nat) (k : IntKind) (ns : List Int) (parts : List (Nat × AV)) (H : Heap) : Option (AV × Heap) := match partsR parts with
  | some ps => ((setInts k ns ps).map fun ns' => .c (.arr m k ns')).map fun v => (v, H)
  | none => none
def mBuildSl (e : TypeId) (sz : Nat) (z : CV) (len : Nat) (parts : List (Nat × AV)) (H : Heap) : Option (AV × Heap) := match partsR parts with
  | some ps => match some z, toCparts H ps with
    | some z, some (ps, H') => if len * sz ≤ 16777216 ∧ z.size = sz ∧ sz ≠ 0 then
        match setCs sz (List.replicate len z) ps with
        | some es => some (.os H'.length, H' ++ [.row e sz es])
        | none => none
      else none
    | _, _ => none
  | none => none
def mld (A : Bool) (n : Nat) (H : Heap) : AV → Option AV
  | .c (.ptr root path off) =>
    match getC root path, offC root path with
    | some v, some o => if o = off ∧ fitsR A n v.size v.isAgg = true then some (.c v) else none
    | _, _ => none
  | .ov id path off =>
    match H[id]? with
    | some (.var _ v) => match getA v path, offA v path with
      | some x, some o => if o = off ∧ fitsR A n x.size x.isAgg = true then some x else none
      | _, _ => none
    | some (.fvar _ v) => match getC v path, offC v path with
      | some x, some o => if o = off ∧ fitsR A n x.size x.isAgg = true then some (.c x) else none
      | _, _ => none
    | _ => none
  | .oe id i path off =>
    match rowOf H id with
    | some (_, _, es) => match getC (es.getD i .nilp) path, offC (es.getD i .nilp) path with
      | some x, some o => if o = off ∧ i < es.length ∧ fitsR A n x.size x.isAgg = true then some (.c x) else none
      | _, _ => none
    | none => none
  | _ => none
def mLoad (A : Bool) (n : Nat) (x : AV) (H : Heap) : Option (AV × Heap) := (mld A n H x).map fun v => (v, H)
def mst (A : Bool) (n : Nat) (H : Heap) (a x : AV) : Option Dl :=
  match a with
  | .ov id path off =>
    match H[id]? with
    | some (.var u v) => match getA v path, offA v path, setA path v x with
      | some old, some o, some v' => if o = off ∧ fitsR A n x.size x.isAgg = true ∧ old.size = x.size then some (.set id (.var u v')) else none
      | _, _, _ => none
    | _ => none
  | .oe id i path off =>
    match H[id]? with
    | some (.row u sz es) => match offC (es.getD i .nilp) path, setA path (.c (es.getD i .nilp)) x, getC (es.getD i .nilp) path with
      | some o, some (.c v'), some old => if o = off ∧ i < es.length ∧ fitsR A n x.size x.isAgg = true ∧ old.size = x.size then some (.set id (.row u sz (es.set i v'))) else none
      | _, _, _ => none
    | _ => none
  | _ => none
def mStore (A : Bool) (n : Nat) (p v : AV) (H : Heap) : Option (AV × Heap) := match some p, ev1R (some v) with
  | some p, some v => (mst A n H p v).map fun d => (AV.undef, d.on H)
  | _, _ => none
def mNil (x : AV) (H : Heap) : Option (AV × Heap) := match some x with
  | some (.c (.ptr r p f)) => some (.c (.ptr r p f), H)
  | some (.ov i p f) => some (.ov i p f, H)
  | some (.oe i j p f) => some (.oe i j p f, H)
  | some (.c (.iface t v)) => some (.c (.iface t v), H)
  | some (.c (.fn f)) => some (.c (.fn f), H)
  | some (.fn f cap) => some (.fn f cap, H)
  | _ => none
/-- What '==' looks at. -/
inductive EqT where
  | bool | int | str | ptr | iface | slice | map
  | arr (n : Nat) (k : IntKind)
  | struct (held : Bool) (fs : List (Bool × Nat × EqT))
  | none
def mBin (C : Cfg) (t : TypeId) (lit : Bool) (op : BinOp) (x y : AV) (H : Heap) : Option (AV × Heap) := (abin C.P lit op t x y).map fun v => (v, H)
def mUn (op : UnOp) (x : AV) (H : Heap) : Option (AV × Heap) := (aun op x).map fun v => (v, H)
def mConvI (k : IntKind) (x : AV) (H : Heap) : Option (AV × Heap) := (match x with
  | .c (.int _ n) => some (AV.c (.int k (k.wrap n)))
  | _ => none).map fun v => (v, H)
def mConvBS (x : AV) (H : Heap) : Option (AV × Heap) := (match elemsOf H 1 x with
  | some es => match bytesC es with
    | some bs => some (AV.c (.str ⟨bs.toArray⟩))
    | none => none
  | none => none).map fun v => (v, H)
def mConvSB (el : TypeId) (x : AV) (H : Heap) : Option (AV × Heap) := match x with
  | .c (.str b) => if 1 = 1 ∧ b.size ≤ maxLen then some (.os H.length, H ++ [.row el 1 (bytesAV b.data.toList)]) else none
  | _ => none
def mConvSS (x : AV) (H : Heap) : Option (AV × Heap) := (match x with
  | .c (.str b) => some (AV.c (.str b))
  | _ => none).map fun v => (v, H)
def mConv0 (x : AV) (H : Heap) : Option (AV × Heap) := match x with
  | .os id => match H[id]? with
    | some (.row _ sz (_ :: _)) => if sz = 1 then some (.os id, H) else none
    | _ => none
  | _ => none
def mArrAt (n : Nat) (k : IntKind) (x : AV) (H : Heap) : Option (AV × Heap) := match toC 2 H x with
  | some (.sl 1 es, H') => if n ≤ es.length ∧ 0 < n then
      match intsC k (es.take n) with
      | some ns => some (.c (.ptr (.arr n k ns) [] 0), H')
      | none => none
    else none
  | _ => none
def mIface (t : TypeId) (x : AV) (H : Heap) : Option (AV × Heap) := match ev1R (some x) with
  | some a => (match toC 6 H a with
    | some (v, H') => some (.c (.iface t v), H')
    | none => none)
  | none => none
def mMakeSl (e : TypeId) (sz bytes : Nat) (z : CV) (l c : AV) (H : Heap) : Option (AV × Heap) := match some l, some c with
  | some (.c (.int _ l)), some (.c (.int _ c)) => if l = c ∧ 0 ≤ c then
        if c * bytes ≤ 140737488355328 ∧ c ≤ maxLen ∧ z.size = sz ∧ sz ≠ 0 then some (.os H.length, H ++ [.row e sz (List.replicate c.toNat z)]) else none
      else none
  | _, _ => none
def mTail (sz0 : Nat) (H : Heap) (x : AV) (lo hi : Option AV) : Option (AV × Heap) :=
  match x, lo, hi with
  | .os id, some (.c (.int _ i)), none => match H[id]? with
    | some (.row u sz es) => if sz = sz0 ∧ (true : Bool) then
        if 0 ≤ i ∧ i ≤ (es.length : Int) then some (.os H.length, H.set id .dead ++ [.row u sz (es.drop i.toNat)]) else none
      else none
    | _ => none
  | _, _, _ => none
def mSliceSl (sz0 : Nat) (x : AV) (lo hi : Option AV) (H : Heap) : Option (AV × Heap) := match mTail sz0 H x lo hi with
   | some r => some r
   | none => match toC 2 H x with
    | some (.sl sz es, H') => match natOf hi es.length es.length with
      | some h => match natOf lo 0 h with
        | some l => if sz = sz0 ∧ (true : Bool) then some (.c (.sl sz ((es.drop l).take (h - l))), H') else none
        | none => none
      | none => none
    | some (.nilsl, H') => match natOf hi 0 0 with
      | some h => match natOf lo 0 h with
        | some _ => if (true : Bool) then some (.c .nilsl, H') else none
        | none => none
      | none => none
    | _ => none
def mSliceArr (n : Nat) (x : AV) (lo hi : Option AV) (H : Heap) : Option (AV × Heap) :=
    match (match x with
      | .c (.ptr root path off) => some (root, path, off, H)
      | .ov id path off => match toC 6 H (.ov id [] 0) with
        | some (.ptr root [] 0, H') => some (root, path, off, H')
        | _ => none
      | _ => none) with
    | some (root, path, off, H') => match getC root path, offC root path with
      | some (.arr m k ns), some o => if o = off ∧ m = n ∧ ns.length = n ∧ 1 = 1 ∧ (true : Bool) ∧ n ≤ maxLen then
          match natOf hi n n with
          | some h => match natOf lo 0 h with
            | some l => some (.c (.sl 1 (((ns.map (CV.int k)).drop l).take (h - l))), H')
            | none => none
          | none => none
        else none
      | _, _ => none
    | none => none
def mFA (f off0 : Nat) (x : AV) (H : Heap) : Option (AV × Heap) := (match x with
  | .c (.ptr root path off) => some (AV.c (.ptr root (path ++ [f]) (off + off0)))
  | .ov id path off => some (.ov id (path ++ [f]) (off + off0))
  | .oe id i path off => some (.oe id i (path ++ [f]) (off + off0))
  | _ => none).map fun v => (v, H)
def mIdxA (n : Nat) (x ix : AV) (H : Heap) : Option (AV × Heap) := (match intOf ix with
  | some (_, i) => if 0 ≤ i ∧ i < n then
        match x with
        | .c (.ptr root path off) => some (AV.c (.ptr root (path ++ [i.toNat]) (off + i.toNat)))
        | .ov id path off => some (.ov id (path ++ [i.toNat]) (off + i.toNat))
        | .oe id j path off => some (.oe id j (path ++ [i.toNat]) (off + i.toNat))
        | _ => none
    else none
  | _ => none).map fun v => (v, H)
def mIdxS (sz0 : Nat) (x ix : AV) (H : Heap) : Option (AV × Heap) := (match intOf ix with
  | some (_, i) => match x with
    | .c (.sl sz es) => if 0 ≤ i ∧ i < es.length then
        if (true : Bool) ∧ sz0 = sz then some (AV.c (.ptr (es.getD i.toNat .nilp) [] 0)) else none
      else none
    | .os id => match rowOf H id with
      | some (_, sz, es) => if 0 ≤ i ∧ i < es.length then
          if (true : Bool) ∧ sz0 = sz then some (.oe id i.toNat [] 0) else none
        else none
      | none => none
    | _ => none
  | _ => none).map fun v => (v, H)
def mIndexA (n : Nat) (x ix : AV) (H : Heap) : Option (AV × Heap) := (match intOf ix with
  | some (_, i) => match x with
    | .c (.arr m k ns) => if 0 ≤ i ∧ i < n then
        if m = n ∧ ns.length = n ∧ true = true then some (AV.c (.int k (ns.getD i.toNat 0))) else none
      else none
    | _ => none
  | _ => none).map fun v => (v, H)
def mIndexStr (x ix : AV) (H : Heap) : Option (AV × Heap) := (match intOf ix with
  | some (_, i) => match x with
    | .c (.str s) => if 0 ≤ i ∧ i < s.size then some (AV.c (.int .u8 (s.data.toList.getD i.toNat 0).toNat)) else none
    | _ => none
  | _ => none).map fun v => (v, H)
def sizesR : List Nat → List AV → Bool
  | [], [] => true
  | n :: ns, v :: vs => v.size == n && sizesR ns vs
  | _, _ => false
def mField (ns : List Nat) (A : Bool) (n f : Nat) (x : AV) (H : Heap) : Option (AV × Heap) := (match x.fields with
  | some l => match l[f]? with
    | some v => if true = true ∧ sizesR ns l = true ∧ fitsR A n v.size v.isAgg = true then some v else none
    | _ => none
  | _ => none).map fun v => (v, H)
def mExtract (i : Nat) (x : AV) (H : Heap) : Option (AV × Heap) := match some x with
  | some (.tup l) => (l[i]?).map fun v => (v, H)
  | _ => none
def mLenSl (x : AV) (H : Heap) : Option (AV × Heap) := ((lenOf H x).map fun n => AV.c (.int .i64 (n : Nat))).map fun v => (v, H)
def mLenStr (x : AV) (H : Heap) : Option (AV × Heap) := (match x with
  | .c (.str s) => some (AV.c (.int .i64 s.size))
  | _ => none).map fun v => (v, H)
def mAppend (e : TypeId) (sz bytes : Nat) (str : Bool) (s x : AV) (H : Heap) : Option (AV × Heap) :=
  match (some Value.nilIface), (match str with
    | false => elemsOf H sz x
    | true => match x with
      | .c (.str b) => if sz = 1 then some (bytesAV b.data.toList) else none
      | _ => none) with
  | some _, some xs => match s with
    | .c .nilsl => if xs.length * bytes ≤ 140737488355328 ∧ xs.length ≤ maxLen then some (.os H.length, H ++ [.row e sz xs]) else none
    | .os id => match H[id]? with
      | some (.row u sz' es) => if sz' = sz ∧ u = e then
          if (es.length + xs.length) * bytes ≤ 140737488355328 ∧ es.length + xs.length ≤ maxLen then some (.os H.length, H.set id .dead ++ [.row e sz (es ++ xs)]) else none
        else none
      | _ => none
    | _ => none
  | _, _ => none
def mMin (l : List AV) (H : Heap) : Option (AV × Heap) := (aminmax (fun x y => if y < x then y else x) l).map fun v => (v, H)
def mMax (l : List AV) (H : Heap) : Option (AV × Heap) := (aminmax (fun x y => if y > x then y else x) l).map fun v => (v, H)
def mCallV (cf : CallFn) (x : AV) (args : List AV) (H : Heap) : Option (AV × Heap) := match some x, some args with
  | some (.c (.fn g)), some args => cf g args H
  | some (.fn g cap), some args => cf g (args ++ cap) H
  | _, _ => none
def mMakeMap (H : Heap) : Option (AV × Heap) := some (.mp H.length, H ++ [.mp []])
def mLookup (C : Cfg) (kt : TypeId) (z : CV) (ok : Bool) (m k : AV) (H : Heap) : Option (AV × Heap) := match some m, some k with
  | some m, some k => alookupK C kt z ok m k H
  | _, _ => none
def mMapUpd (C : Cfg) (kt : TypeId) (m k v : AV) (H : Heap) : Option (AV × Heap) := match some m, some k, ev1R (some v) with
  | some m, some k, some v => amapUpdateK C kt m k v H
  | _, _, _ => none
def mLenMp (x : AV) (H : Heap) : Option (AV × Heap) := (match x with
    | .c .nilmap => some (AV.c (.int .i64 0))
    | .mp id => match H[id]? with
      | some (.mp es) => some (AV.c (.int .i64 es.length))
      | _ => none
    | _ => none).map fun v => (v, H)
/-! ### The frame -/
def wantR (want : Bool) (gv : AV) : Option Bool := match some gv with
  | some (.c (.bool b)) => some (b == want)
  | some (.tup []) => some false
  | _ => none
def guardR (w : Option Bool) (x : Option (AV × Heap)) (H : Heap) : Option (AV × Heap) := match w with
  | some true => x
  | some false => some (AV.undef, H)
  | none => none
def guardD (w : Option Bool) (x : Option ((AV × Trail) × Heap)) (H : Heap) : Option ((AV × Trail) × Heap) := match w with
  | some true => x
  | some false => some ((AV.undef, (false, [], H.length, H.length)), H)
  | none => none
def condR {α : Type} (x : AV) (a b : Option α) : Option α := match some x with
  | some (.c (.bool t)) => if t = true then a else b
  | _ => none
/-- Behind a loop. -/
def afterL {α : Type} (i : Nat) (x : Option (LStep × Heap)) (ke : List AV → Heap → Option α) (kr : List AV → Heap → Option α) : Option α := match x with
  | none => none
  | some (.cont _, _) => none
  | some (.exit id vs, H') => if id = i then ke vs H' else none
  | some (.ret vs, H') => kr vs H'
/-- Behind a region whose order is drawn. -/
def afterD {α : Type} (x : Option (List AV × Heap)) (k : List AV → Heap → Option α) : Option α := match x with
  | none => none
  | some (vs, H') => k vs H'
def resC1 (x : Option AV) (r : Option (List AV)) : Option (List AV) := match x, r with
  | some v, some vs => some (v :: vs)
  | _, _ => none
def endQ (C : Cfg) (keep : Bool) (k : Nat) (vs : Option (List AV)) (H : Heap) : Option (AV × Heap) := match vs with
  | none => none
  | some vs => match handCs C keep H vs with
    | none => none
    | some (vs', H') => match gcL k [tupOf vs'] H' with
      | some ([v], H'') => some (v, H'')
      | _ => none
def annOf (lin lout dout : List (Nat × List Tmp)) : Ann := ⟨fun i => (lin.lookup i).getD [], fun i => (lout.lookup i).getD [], fun i => (dout.lookup i).getD [], fun _ => none⟩
end Go.Fm

/-
  A part of the proof: Fm32.
-/
import Derived.Test.YtjmjijgnbjkpnaaFmB
set_option linter.all false
set_option autoImplicit true
/-
  Names of blocks changed: values, blocks.
-/
set_option linter.unusedSimpArgs false
set_option linter.unusedVariables false
namespace Go.Fm
open Go
mutual
def AV.map (ρ : Nat → Nat) : AV → AV
  | .c v => .c v
  | .ov id p o => .ov (ρ id) p o
  | .os id => .os (ρ id)
  | .oe id i p o => .oe (ρ id) i p o
  | .agg l => .agg (AV.maps ρ l)
  | .tup l => .tup (AV.maps ρ l)
  | .fn f cap => .fn f (AV.maps ρ cap)
  | .mp id => .mp (ρ id)
  | .any => .any
def AV.maps (ρ : Nat → Nat) : List AV → List AV
  | [] => []
  | v :: vs => v.map ρ :: AV.maps ρ vs
end
def Blk.map (ρ : Nat → Nat) : Blk → Blk
  | .var t v => .var t (v.map ρ)
  | b => b
theorem Blk.map_ok (b : Blk) (ρ : Nat → Nat) : (b.map ρ).ok = b.ok := by cases b <;> rfl
theorem Blk.map_len (b : Blk) (ρ : Nat → Nat) : (b.map ρ).len? = b.len? := by cases b <;> rfl
theorem Blk.map_sz (b : Blk) (ρ : Nat → Nat) : (b.map ρ).sz? = b.sz? := by cases b <;> rfl
theorem Blk.map_of_ok (b : Blk) (ρ : Nat → Nat) (h : b.ok = true) : b.map ρ = b := by cases b <;> simp_all [Blk.ok, Blk.map]
/-- One table of blocks in another one, under other names. -/
structure EmbM (g g' : Gh) (ρ : Nat → Nat) (p : Nat → Bool) : Prop where
  some : ∀ id, p id = true → (g.G id).isSome = true → (g'.G (ρ id)).isSome = true ∧ g'.φ (ρ id) = g.φ id
  len : ∀ id m, p id = true → (g.G id).isSome = true → (g'.G (ρ id)).bind Blk.len? = .some m → (g.G id).bind Blk.len? = .some m ∧ g'.rowVal (ρ id) m = g.rowVal id m
  sz : ∀ id m, p id = true → (g.G id).isSome = true → (g'.G (ρ id)).bind Blk.sz? = .some m → (g.G id).bind Blk.sz? = .some m ∧ g'.β (ρ id) = g.β id
section
variable {g g' : Gh} {w w' : World} {S S' : Nat → Nat → Prop} {ρ : Nat → Nat} {p : Nat → Bool}
theorem RA.embM (k : EmbM g g' ρ p) (ks : Stays w S w' S') {cs : List Value} {a : AV} (h : RA g w S cs a) : a.all p = true → RA g' w' S' cs (a.map ρ) :=
  RA.rec (motive_1 := fun cs a _ => a.all p = true → RA g' w' S' cs (a.map ρ)) (motive_2 := fun cs a _ => AV.alls p a = true → RAF g' w' S' cs (AV.maps ρ a))
    (motive_3 := fun v a _ => a.all p = true → RV g' w' S' v (a.map ρ)) (motive_4 := fun v a _ => AV.alls p a = true → RVs g' w' S' v (AV.maps ρ a))
    (fun cs v h _ => by simp only [AV.map]; exact .c cs v (h.stays ks))
    (fun id path o hs hp => by
      simp only [AV.all] at hp
      obtain ⟨h1, h2⟩ := k.some id hp hs
      simp only [AV.map]
      rw [← h2]
      exact .ov (ρ id) path o h1)
    (fun id a n c hs h hp => by
      simp only [AV.all] at hp
      simp only [AV.map]
      exact .os (ρ id) a n c (k.some id hp hs).1 fun m hm => by
        obtain ⟨h1, h2⟩ := k.len id m hp hs hm
        rw [h2]; exact h m h1)
    (fun id i path o ad hs h hp => by
      simp only [AV.all] at hp
      simp only [AV.map]
      obtain ⟨h3, h4⟩ := k.some id hp hs
      exact .oe (ρ id) i path o ad h3 fun m hm => by
        obtain ⟨h1, h2⟩ := k.sz id m hp hs hm
        rw [h2, h4]; exact h m h1)
    (fun id hs hp => by
      simp only [AV.all] at hp
      obtain ⟨h1, h2⟩ := k.some id hp hs
      simp only [AV.map]
      rw [← h2]
      exact .mp (ρ id) h1)
    (fun f vs cap _ h hp => by simp only [AV.all] at hp; simp only [AV.map]; exact .fn f vs _ (h hp))
    (fun cs l _ h hp => by simp only [AV.all] at hp; simp only [AV.map]; exact .agg cs _ (h hp))
    (fun _ => by simp only [AV.maps]; exact .nil)
    (fun c cs f fs _ _ h hs hp => by
      simp only [AV.alls, Bool.and_eq_true] at hp
      simp only [AV.maps]
      exact .cons c cs _ _ (h hp.1) (hs hp.2))
    (fun v a _ ha h hp => .one v _ (h hp) (by cases a <;> simp_all [AV.map, AV.isAgg]))
    (fun cs a _ ha h hp => .agg cs _ (h hp) (by cases a <;> simp_all [AV.map, AV.isAgg]))
    (fun vs l _ h hp => by simp only [AV.all] at hp; simp only [AV.map]; exact .tup vs _ (h hp))
    (fun v _ => by simp only [AV.map]; exact .any v)
    (fun _ => by simp only [AV.maps]; exact .nil)
    (fun v vs a as _ _ h hs hp => by
      simp only [AV.alls, Bool.and_eq_true] at hp
      simp only [AV.maps]
      exact .cons v vs _ _ (h hp.1) (hs hp.2)) h
theorem RV.embM (k : EmbM g g' ρ p) (ks : Stays w S w' S') {v : Value} {a : AV} (h : RV g w S v a) : a.all p = true → RV g' w' S' v (a.map ρ) := by
  cases h with
  | one v a h ha => exact fun hp => .one v _ (h.embM k ks hp) (by cases a <;> simp_all [AV.map, AV.isAgg])
  | agg cs a h ha => exact fun hp => .agg cs _ (h.embM k ks hp) (by cases a <;> simp_all [AV.map, AV.isAgg])
  | any v => exact fun hp => by simp only [AV.map]; exact .any v
  | tup vs l h =>
    intro hp
    simp only [AV.all] at hp
    simp only [AV.map]
    have := RA.embM k ks (RA.fn 0 vs l h) (by simpa [AV.all] using hp)
    simp only [AV.map] at this
    generalize e : Value.func (.func 0) #[] vs.toArray = u at this
    generalize e2 : [u] = us at this
    cases this with
    | fn f vs' cap h' =>
      injection e2 with e2
      rw [← e] at e2
      injection e2 with _ _ e3
      have : vs = vs' := by simpa using e3
      subst this
      exact .tup vs _ h'
theorem RVs.embM (k : EmbM g g' ρ p) (ks : Stays w S w' S') : ∀ {us : List Value} {as : List AV}, RVs g w S us as → AV.alls p as = true → RVs g' w' S' us (AV.maps ρ as)
  | _, [], h, _ => by cases h; exact .nil
  | _, a :: as, h, hp => by
    cases h with
    | cons u us _ _ h hs =>
      simp only [AV.alls, Bool.and_eq_true] at hp
      exact .cons _ _ _ _ (h.embM k ks hp.1) (RVs.embM k ks hs hp.2)
theorem RB.embM {id : Nat} (k : EmbM g g' ρ p) (ks : Stays w S w' S') (hh : ∀ j : Nat, w'.heap[j]? = w.heap[j]?) {b : Blk} (hb : b.all p = true)
    (h1 : g'.φ (ρ id) = g.φ id) (h2 : g'.β (ρ id) = g.β id) (h3 : g'.κ (ρ id) = g.κ id) (h4 : g'.vt (ρ id) = g.vt id) (h : RB g w S id b) : RB g' w' S' (ρ id) (b.map ρ) := by
  cases b with
  | var t v =>
    obtain ⟨cs, h6, h7⟩ := h
    exact ⟨cs, by rw [h1, hh]; exact h6, h7.embM k ks hb⟩
  | fvar t v =>
    obtain ⟨cs, h6, h7⟩ := h
    exact ⟨cs, by rw [h1]; exact h6.stays ks, h7.stays ks⟩
  | row t sz es =>
    rcases h with ⟨h6, h7, h8⟩ | ⟨h6, pre, cs, post, fr, h7, h8, h9, h10, h11, h12, h13⟩
    · exact .inl ⟨by rw [h4]; exact h6, h7, by rw [h3]; exact h8⟩
    · exact .inr ⟨by rw [h4]; exact h6, pre, cs, post, fr, by rw [h1, hh]; exact h7, h8, by rw [h2]; exact h9, by rw [h3]; exact h10, h11.stays ks, by rw [h3]; exact h12, by rw [h3]; exact h13⟩
  | frow t sz es =>
    rcases h with ⟨h6, h7⟩ | ⟨h6, cs, h7, h8, h9, h10⟩
    · exact .inl ⟨by rw [h4]; exact h6, h7⟩
    · exact .inr ⟨by rw [h4]; exact h6, cs, by rw [h1, h2]; exact h7.stays ks, h8.stays ks, by rw [h3]; exact h9, by rw [h3]; exact h10⟩
  | mp es =>
    obtain ⟨ents, clock, h6, h7, h8⟩ := h
    refine ⟨ents, clock, by rw [h1, hh]; exact h6, h7, fun i kk v hi => ?_⟩
    obtain ⟨en, k1, k2, k3⟩ := h8 i kk v hi
    refine ⟨en, k1, ?_, ?_⟩
    · have := k2.embM k ks rfl
      simpa [AV.map] using this
    · have := k3.embM k ks rfl
      simpa [AV.map] using this
  | dead => trivial
end
mutual
theorem AV.map_map (ρ σ : Nat → Nat) : ∀ a : AV, (a.map ρ).map σ = a.map (σ ∘ ρ)
  | .c _ => rfl
  | .ov .. => rfl
  | .os _ => rfl
  | .oe .. => rfl
  | .mp _ => rfl
  | .any => rfl
  | .agg l => by simp [AV.map, AV.maps_maps ρ σ l]
  | .tup l => by simp [AV.map, AV.maps_maps ρ σ l]
  | .fn _ l => by simp [AV.map, AV.maps_maps ρ σ l]
theorem AV.maps_maps (ρ σ : Nat → Nat) : ∀ l : List AV, AV.maps σ (AV.maps ρ l) = AV.maps (σ ∘ ρ) l
  | [] => rfl
  | v :: vs => by simp [AV.maps, AV.map_map ρ σ v, AV.maps_maps ρ σ vs]
end
end Go.Fm

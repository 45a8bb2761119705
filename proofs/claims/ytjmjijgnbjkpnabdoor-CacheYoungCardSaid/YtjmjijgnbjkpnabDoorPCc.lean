/-
  A part of the proof: PCc.
-/
import Derived.Test.YtjmjijgnbjkpnabDoorPSha
import Derived.KernelRfl
set_option linter.all false
set_option autoImplicit true
/-
  sha of bytes that are told: words forced one by one.
-/
set_option maxRecDepth 100000
set_option linter.unusedVariables false
set_option linter.unusedSimpArgs false
namespace Go.Fm
open Go Go.Proofs
noncomputable def seqW {α : Type} (x : W32) (k : W32 → α) : α := Nat.rec (motive := fun _ => α) (k (BitVec.ofNat 32 0)) (fun n _ => k (BitVec.ofNat 32 (n + 1))) x.toNat
theorem seqW_eq {α : Type} (x : W32) (k : W32 → α) : seqW x k = k x := by
  have h : ∀ n : Nat, (Nat.rec (motive := fun _ => α) (k (BitVec.ofNat 32 0)) (fun n _ => k (BitVec.ofNat 32 (n + 1))) n : α) = k (BitVec.ofNat 32 n) := by
    intro n; cases n <;> rfl
  unfold seqW
  rw [h]
  congr 1
  simp
noncomputable def seqL {α : Type} (l : List W32) : (List W32 → α) → α := List.rec (motive := fun _ => (List W32 → α) → α) (fun k => k []) (fun x _ ih k => seqW x fun x => ih fun ys => k (x :: ys)) l
theorem seqL_eq {α : Type} : ∀ (l : List W32) (k : List W32 → α), seqL l k = k l
  | [], k => rfl
  | x :: l, k => by
    show seqW x (fun x => seqL l fun ys => k (x :: ys)) = k (x :: l)
    rw [seqW_eq, seqL_eq l]
noncomputable def seqS {α : Type} (s : St) (k : St → α) : α := seqW s.a fun a => seqW s.b fun b => seqW s.c fun c => seqW s.d fun d => seqW s.e fun e => seqW s.f fun f => seqW s.g fun g => seqW s.h fun h => k ⟨a, b, c, d, e, f, g, h⟩
theorem seqS_eq {α : Type} (s : St) (k : St → α) : seqS s k = k s := by
  unfold seqS
  simp only [seqW_eq]
noncomputable def l2K {α : Type} (k : List W32 → α) : Nat → Nat → List W32 → α
  | 0, _, ws => k ws
  | n + 1, i, ws => seqL (ws.set i (nextW ws i)) fun ws => l2K k n (i + 1) ws
theorem l2K_eq {α : Type} (k : List W32 → α) : ∀ (n i : Nat) (ws : List W32), l2K k n i ws = k (l2W n i ws)
  | 0, _, _ => rfl
  | n + 1, i, ws => by rw [l2K, seqL_eq, l2K_eq k n, l2W]
noncomputable def l4K {α : Type} (ws : List W32) (k : St → α) : Nat → Nat → St → α
  | 0, _, s => k s
  | n + 1, i, s => seqS (s.next (nthW kW i) (nthW ws i)) fun s => l4K ws k n (i + 1) s
theorem l4K_eq {α : Type} (ws : List W32) (k : St → α) : ∀ (n i : Nat) (s : St), l4K ws k n i s = k (l4W ws n i s)
  | 0, _, _ => rfl
  | n + 1, i, s => by rw [l4K, seqS_eq, l4K_eq ws k n, l4W]
noncomputable def blockK {α : Type} (bs : List UInt8) (s : St) (k : St → α) : α := seqL (l0W bs 16 0 zeroW) fun w0 => l2K (fun ws => l4K ws (fun v => seqS (s.plus v) k) 64 0 s) 48 16 w0
theorem blockK_eq {α : Type} (bs : List UInt8) (s : St) (k : St → α) : blockK bs s k = k (blockW bs s) := by
  unfold blockK
  rw [seqL_eq, l2K_eq, l4K_eq, seqS_eq]
  rfl
end Go.Fm
/-
  The sums of a tree of two keys, as numbers.
-/
set_option maxRecDepth 100000
set_option linter.unusedVariables false
set_option linter.unusedSimpArgs false
namespace Go.Fm
open Go Go.Proofs
theorem St.l_inj {s t : St} (h : s.l = t.l) : s = t := by
  cases s; cases t
  simp only [St.l, List.cons.injEq, and_true] at h
  simp only [St.mk.injEq]
  exact h
theorem sha_one {m bs : List UInt8} (s : St) (h : blockK (padded m) ivW (fun s => s.l) = s.l) (hp : (padded m).length / 64 = 1) (hb : l8W s 32 0 zero32 = bs) : shaW m = bs := by
  rw [blockK_eq] at h
  rw [shaW, hp, blocksW_s, blocksW_0, St.l_inj h, hb]
theorem sha_two {m bs : List UInt8} (s : St) (h : blockK (padded m) ivW (fun s1 => blockK ((padded m).drop 64) s1 (fun s => s.l)) = s.l) (hp : (padded m).length / 64 = 2) (hb : l8W s 32 0 zero32 = bs) : shaW m = bs := by
  rw [blockK_eq, blockK_eq] at h
  rw [shaW, hp, blocksW_s, blocksW_s, blocksW_0, St.l_inj h, hb]
theorem sum_em : shaW [] = [227, 176, 196, 66, 152, 252, 28, 20, 154, 251, 244, 200, 153, 111, 185, 36, 39, 174, 65, 228, 100, 155, 147, 76, 164, 149, 153, 27, 120, 82, 184, 85] :=
  sha_one ⟨3820012610#32, 2566659092#32, 2600203464#32, 2574235940#32, 665731556#32, 1687917388#32, 2761267483#32, 2018687061#32⟩ (by kernel_rfl) (by kernel_rfl) (by kernel_rfl)
theorem sum_v1 : shaW [49] = [107, 134, 178, 115, 255, 52, 252, 225, 157, 107, 128, 78, 255, 90, 63, 87, 71, 173, 164, 234, 162, 47, 29, 73, 192, 30, 82, 221, 183, 135, 91, 75] :=
  sha_one ⟨1803989619#32, 4281662689#32, 2641068110#32, 4284104535#32, 1202562282#32, 2720996681#32, 3223212765#32, 3079101259#32⟩ (by kernel_rfl) (by kernel_rfl) (by kernel_rfl)
theorem sum_v2 : shaW [50] = [212, 115, 94, 58, 38, 94, 22, 238, 224, 63, 89, 113, 139, 155, 93, 3, 1, 156, 7, 216, 182, 197, 31, 144, 218, 58, 102, 110, 236, 19, 171, 53] :=
  sha_one ⟨3564330554#32, 643700462#32, 3762248049#32, 2342214915#32, 27002840#32, 3066371984#32, 3661260398#32, 3960711989#32⟩ (by kernel_rfl) (by kernel_rfl) (by kernel_rfl)
theorem sum_ka : shaW [0, 1, 97, 107, 134, 178, 115, 255, 52, 252, 225, 157, 107, 128, 78, 255, 90, 63, 87, 71, 173, 164, 234, 162, 47, 29, 73, 192, 30, 82, 221, 183, 135, 91, 75] = [79, 242, 220, 67, 86, 35, 243, 56, 84, 92, 140, 214, 251, 60, 157, 237, 98, 163, 233, 91, 235, 210, 196, 165, 126, 12, 145, 59, 224, 250, 81, 104] :=
  sha_one ⟨1341316163#32, 1445196600#32, 1415351510#32, 4215053805#32, 1654909275#32, 3956458661#32, 2114752827#32, 3774501224#32⟩ (by kernel_rfl) (by kernel_rfl) (by kernel_rfl)
theorem sum_kb : shaW [0, 1, 98, 212, 115, 94, 58, 38, 94, 22, 238, 224, 63, 89, 113, 139, 155, 93, 3, 1, 156, 7, 216, 182, 197, 31, 144, 218, 58, 102, 110, 236, 19, 171, 53] = [122, 87, 192, 2, 101, 155, 110, 41, 12, 23, 208, 244, 214, 208, 229, 199, 204, 254, 183, 199, 16, 242, 128, 71, 172, 172, 225, 160, 215, 254, 40, 249] :=
  sha_one ⟨2052571138#32, 1704685097#32, 202887412#32, 3604014535#32, 3439245255#32, 284328007#32, 2897011104#32, 3623758073#32⟩ (by kernel_rfl) (by kernel_rfl) (by kernel_rfl)
theorem sum_rt : shaW [1, 1, 0, 0, 0, 0, 0, 0, 0, 2, 79, 242, 220, 67, 86, 35, 243, 56, 84, 92, 140, 214, 251, 60, 157, 237, 98, 163, 233, 91, 235, 210, 196, 165, 126, 12, 145, 59, 224, 250, 81, 104, 122, 87, 192, 2, 101, 155, 110, 41, 12, 23, 208, 244, 214, 208, 229, 199, 204, 254, 183, 199, 16, 242, 128, 71, 172, 172, 225, 160, 215, 254, 40, 249] = [2, 71, 123, 189, 226, 109, 66, 150, 71, 86, 12, 251, 75, 239, 20, 164, 69, 181, 107, 208, 190, 134, 229, 130, 102, 246, 91, 148, 176, 87, 7, 140] :=
  sha_two ⟨38239165#32, 3798811286#32, 1196821755#32, 1273959588#32, 1169517520#32, 3196511618#32, 1727421332#32, 2958493580#32⟩ (by kernel_rfl) (by kernel_rfl) (by kernel_rfl)
end Go.Fm

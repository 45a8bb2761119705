/-
  A part of the proof: PKv6.
-/
import Derived.Test.YtjmjijgnbjkpnaaPKvo
import Derived.Test.YtjmjijgnbjkpnaaPKv4
set_option linter.all false
set_option autoImplicit true
/-
  kv: Cut and Get of a key; Put of what may not be.
-/
set_option maxRecDepth 100000
set_option linter.unusedVariables false
set_option linter.unusedSimpArgs false
namespace Go.Fm
open Go Go.Proofs
/-! CF -/
theorem kvcut_fn (b : Bool) (l : List Pr) (hm : l.length ≤ 1000000) (hr : Rise l) (k : List UInt8) (hk : isK k l = true) (L : List Pr) (hL : l.take (posK k l) ++ l.drop (posK k l + 1) = L) :
    fnX (cfg b) An 18 [.ov 0 [] 0, .c (.sl 1 (bytesAV k))] (kvH l) = some (.c (.bool true), kvD L) := by
  rw [fnX_eq, p18_eq]
  have fd := kfind_fn b l k hm hr
  rw [hk] at fd
  obtain ⟨q, r, hd, hq, hlt⟩ := isK_split hk
  have hI : (posK k l : Int) < (l.length : Int) := by omega
  have ha : iAdd .i64 (posK k l : Int) 1 = (posK k l : Int) + 1 := by unfold iAdd; rw [i64_small (by omega) (by omega)]
  have hset : (l.map prC).take (posK k l) ++ (l.map prC).drop (posK k l + 1) = L.map prC := by rw [← hL, List.map_append, List.map_take, List.map_drop]
  clear hL hd
  generalize posK k l = n at *
  simp only [kvH, kvD] at fd ⊢
  generalize hM : l.map prC = M at *
  have hMl : M.length = l.length := by rw [← hM]; simp
  simp [p18, be45, v36, fd, v38, ha, hI, hMl, hset, frz82]
theorem kvcut_no (b : Bool) (l : List Pr) (hm : l.length ≤ 1000000) (hr : Rise l) (k : List UInt8) (hk : isK k l = false) :
    fnX (cfg b) An 18 [.ov 0 [] 0, .c (.sl 1 (bytesAV k))] (kvH l) = some (.c (.bool false), kvH l) := by
  rw [fnX_eq, p18_eq]
  have fd := kfind_fn b l k hm hr
  rw [hk] at fd
  simp only [kvH] at fd ⊢
  generalize l.map prC = M at *
  simp [p18, be45, v36, fd, frz82]
theorem kvcut_nil (b : Bool) (k : List UInt8) : fnX (cfg b) An 18 [.ov 0 [] 0, .c (.sl 1 (bytesAV k))] kvE = some (.c (.bool false), kvE) := by
  rw [fnX_eq, p18_eq]
  have fd := kfind_nil b k
  simp only [kvE] at fd ⊢
  simp [p18, be45, v36, fd, frz82]
theorem kvget_fn (b : Bool) (l : List Pr) (hm : l.length ≤ 1000000) (hr : Rise l) (hok : ∀ p ∈ l, PrOk p) (k : List UInt8) (hk : isK k l = true) :
    fnX (cfg b) An 21 [.ov 0 [] 0, .c (.sl 1 (bytesAV k))] (kvH l) = some (.tup [.c (pV (l.getD (posK k l) default).2), .c (.bool true)], kvH l) := by
  rw [fnX_eq, p21_eq]
  have fd := kfind_fn b l k hm hr
  rw [hk] at fd
  obtain ⟨q, r, hd, hq, hlt⟩ := isK_split hk
  have hI : (posK k l : Int) < (l.length : Int) := by omega
  have hn : nthC (l.map prC) (posK k l) = prC (l.getD (posK k l) default) := nthC_map default hlt
  have hmem : l.getD (posK k l) default ∈ l := by rw [List.getD_eq_getElem?_getD, List.getElem?_eq_getElem hlt]; exact List.getElem_mem _
  have hv := (hok _ hmem).v
  have cc := clone_call b (l.getD (posK k l) default).2 (by omega)
  clear hd
  generalize posK k l = n at *
  generalize l.getD n default = p at *
  simp only [kvH] at fd ⊢
  generalize hM : l.map prC = M at *
  have hMl : M.length = l.length := by rw [← hM]; simp
  simp [p21, be45, v36, fd, hI, hlt, hMl, hn, cc, csz_prC, cag_prC, gp_v, op_v, frz82]
theorem kvget_no (b : Bool) (l : List Pr) (hm : l.length ≤ 1000000) (hr : Rise l) (k : List UInt8) (hk : isK k l = false) :
    fnX (cfg b) An 21 [.ov 0 [] 0, .c (.sl 1 (bytesAV k))] (kvH l) = some (.tup [.c .nilsl, .c (.bool false)], kvH l) := by
  rw [fnX_eq, p21_eq]
  have fd := kfind_fn b l k hm hr
  rw [hk] at fd
  simp only [kvH] at fd ⊢
  generalize l.map prC = M at *
  simp [p21, be45, v36, fd, frz82]
theorem kvget_nil (b : Bool) (k : List UInt8) : fnX (cfg b) An 21 [.ov 0 [] 0, .c (.sl 1 (bytesAV k))] kvE = some (.tup [.c .nilsl, .c (.bool false)], kvE) := by
  rw [fnX_eq, p21_eq]
  have fd := kfind_nil b k
  simp only [kvE] at fd ⊢
  simp [p21, be45, v36, fd, frz82]
/-- Put of a key that is too long. -/
theorem kvputO_long (b : Bool) (k : List UInt8) (v : Option (List UInt8)) (h2 : 96 < k.length) :
    fnX (cfg b) An 17 [.ov 0 [] 0, .os 1, .c (pV v)] (kvEO [.row 5 1 (bytesAV k)]) = some (.c (.int .i64 10), kvEO [.row 5 1 (bytesAV k)]) := by
  rw [fnX_eq, p17_eq]
  have hk0 : ¬ k.length = 0 := by omega
  have hk1 : (96 : Int) < (k.length : Int) := by omega
  have hk2 : ¬ k = [] := by intro h; subst h; simp at h2
  simp only [kvEO]
  simp [p17, be45, hk0, hk1, hk2, len_av, frz82]
theorem kvputO_longH (b : Bool) (k : List UInt8) (v : Option (List UInt8)) (h2 : 96 < k.length) (l : List Pr) :
    fnX (cfg b) An 17 [.ov 0 [] 0, .os 1, .c (pV v)] (kvHO 2 [.row 5 1 (bytesAV k)] l) = some (.c (.int .i64 10), kvHO 2 [.row 5 1 (bytesAV k)] l) := by
  rw [fnX_eq, p17_eq]
  have hk0 : ¬ k.length = 0 := by omega
  have hk1 : (96 : Int) < (k.length : Int) := by omega
  have hk2 : ¬ k = [] := by intro h; subst h; simp at h2
  simp only [kvHO, List.cons_append, List.nil_append]
  simp [p17, be45, hk0, hk1, hk2, len_av, frz82]
theorem kvputO_wide (b : Bool) (k : List UInt8) (v : Option (List UInt8)) (h1 : 0 < k.length) (h2 : k.length ≤ 96) (h3 : 256 < (pB v).length) :
    fnX (cfg b) An 17 [.ov 0 [] 0, .os 1, .c (pV v)] (kvEO [.row 5 1 (bytesAV k)]) = some (.c (.int .i64 3), kvEO [.row 5 1 (bytesAV k)]) := by
  rw [fnX_eq, p17_eq]
  have hk0 : ¬ k.length = 0 := by omega
  have hk1 : ¬ (96 : Int) < (k.length : Int) := by omega
  have hk2 : ¬ k = [] := by intro h; subst h; simp at h1
  have hv1 : (256 : Int) < ((pB v).length : Int) := by omega
  simp only [kvEO]
  simp [p17, be45, hk0, hk1, hk2, hv1, lenOf_pV, len_av, frz82]
theorem kvputO_wideH (b : Bool) (k : List UInt8) (v : Option (List UInt8)) (h1 : 0 < k.length) (h2 : k.length ≤ 96) (h3 : 256 < (pB v).length) (l : List Pr) :
    fnX (cfg b) An 17 [.ov 0 [] 0, .os 1, .c (pV v)] (kvHO 2 [.row 5 1 (bytesAV k)] l) = some (.c (.int .i64 3), kvHO 2 [.row 5 1 (bytesAV k)] l) := by
  rw [fnX_eq, p17_eq]
  have hk0 : ¬ k.length = 0 := by omega
  have hk1 : ¬ (96 : Int) < (k.length : Int) := by omega
  have hk2 : ¬ k = [] := by intro h; subst h; simp at h1
  have hv1 : (256 : Int) < ((pB v).length : Int) := by omega
  simp only [kvHO, List.cons_append, List.nil_append]
  simp [p17, be45, hk0, hk1, hk2, hv1, lenOf_pV, len_av, frz82]
/-- Put of nil. -/
theorem kvput_key (b : Bool) : fnX (cfg b) An 17 [.ov 0 [] 0, .c .nilsl, .c .nilsl] kvE = some (.c (.int .i64 10), kvE) := by
  rw [fnX_eq, p17_eq]
  simp only [kvE]
  simp [p17, be45, frz82]
theorem kvput_keyH (b : Bool) (l : List Pr) : fnX (cfg b) An 17 [.ov 0 [] 0, .c .nilsl, .c .nilsl] (kvH l) = some (.c (.int .i64 10), kvH l) := by
  rw [fnX_eq, p17_eq]
  simp only [kvH]
  simp [p17, be45, frz82]
end Go.Fm

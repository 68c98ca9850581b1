/- LexCeeJoins: the walk. -/
import Derived.Test.YtidicpngmildkaaDoorUj
set_option linter.unusedVariables false
set_option linter.unusedSimpArgs false
namespace Go.Proofs.YtidicpngmildkaaDoor.Jo
open Go.RowKit Go.Proofs.YtidicpngmildkaaDoorW.PrintWords Go.Proofs.YtidicpngmildkaaDoorW.PrintLast Go.Proofs.YtidicpngmildkaaDoorW.PrintMore Go.Proofs.YtidicpngmildkaaDoor.R Go.Proofs.YtidicpngmildkaaDoor.Tx Go.Proofs.YtidicpngmildkaaDoor.Fl Go.Proofs.YtidicpngmildkaaDoor.Aw Go.Proofs.YtidicpngmildkaaDoor.Fm Go.Proofs.YtidicpngmildkaaDoor.Pl
/-- A Diag in a block of its own. -/
def Dv (b : Nat) (c k l m : Int) (W : World) : Prop := W.heap[b]? = some (.cells #[.int .i64 c, .int .i64 k, .int .i64 l, .int .i64 m] 29 (0, 0))
theorem Dv.below {b : Nat} {c k l m : Int} {W W' : World} (h : Dv b c k l m W) (hb : Below W.heap.size W W') : Dv b c k l m W' := (hb.block b (blk_lt h)).trans h
theorem Dv.cells {b : Nat} {c k l m : Int} {W : World} (h : Dv b c k l m W) : W.cell? ⟨b, 0, none⟩ = some (.int .i64 c) ∧ W.cell? ⟨b, 1, none⟩ = some (.int .i64 k) := ⟨(blk_cell h 0).trans rfl, (blk_cell h 1).trans rfl⟩
theorem al (W : World) (o : Obj) : Below W.heap.size W (W.alloc o) := below_alloc (Below.refl _ _) o
def Row (w : World) (v : Value) (l : List Tok) (W : World) : Prop := Kd.R kTok 35 W w.heap.size (fun _ => True) v l
theorem Row.below {w W W' : World} {v : Value} {l : List Tok} (h : Row w v l W) (hb : Below W.heap.size W W') : Row w v l W' := Kd.R_below h hb
theorem Row.lower {w w1 W : World} {v : Value} {l : List Tok} (h : Kd.R kTok 35 W w1.heap.size (fun _ => True) v l) (hb : Below w.heap.size w w1) : Row w v l W := Kd.R_lower h hb.size
theorem Row.grown {w W W' : World} {v : Value} {l : List Tok} {b : Option Nat} (h : Row w v l W) (hg : W.grownBy W' b) (hne : ∀ k, b = some k → some k ≠ v.ownBlock) : Row w v l W' := Kd.R_grown2 h rfl hg hne
def bB (r : Bool) (w : World) (e : Ending) (w' : World) : Prop := e = .returned (.bool r) ∧ Below w.heap.size w w'
theorem aw (w : World) (hT : TabW w) : Calls Tryd.prog 7 #[] w (bB true w) := pantographlaw06_awake.calls true w hT rfl
def AllC (w : World) (r : List Tok × Int × Int × Int × Int) (e : Ending) (w' : World) : Prop := ∃ v0_ : Value, e = .returned (.tuple #[v0_, .agg #[.int .i64 r.2.1, .int .i64 r.2.2.1, .int .i64 r.2.2.2.1, .int .i64 r.2.2.2.2]]) ∧ Kd.R kTok 35 w' w.heap.size (fun _ => True) v0_ r.1 ∧ Below w.heap.size w w'
theorem all_c (a0 : ByteArray) (w : World) (r : List Tok × Int × Int × Int × Int) (hT : TabW w) (h : lexcee_All.f a0 = some r) : Calls Tryd.prog 8 #[.string a0] w (AllC w r) := lexcee_All.calls a0 _ _ _ _ _ w hT h
set_option maxHeartbeats 8000000 in
set_option maxRecDepth 1000000 in
theorem joins_big (s t : ByteArray) (w : World) (ht : TabW w) (hs1 : 3000 < s.size ∨ 3000 < t.size) : Calls Tryd.prog 6 #[.string s, .string t] w (bB true w) := by
  have HT := Lib.hid ht
  clear ht
  by_cases h1 : 3000 < s.size
  · have g1 : ((3000 : Int) < (s.size : Int)) = True := eq_true (by omega)
    have d1 : decide ((3000 : Int) < (s.size : Int)) = true := decide_eq_true (by omega)
    clear hs1 h1
    go_enter Tryd.func6, Tryd.ntmps6
    go_wp2_with (first | (go_at_call 7; go_must (refine (aw _ HT.out).mono ?_); rintro e w9 ⟨rfl, hb⟩; have HB9 := Lib.hid hb; clear hb))
    go_ret
    exact ⟨rfl, HB9.out⟩
  · have g1 : ((3000 : Int) < (s.size : Int)) = False := eq_false (by omega)
    have d1 : decide ((3000 : Int) < (s.size : Int)) = false := decide_eq_false (by omega)
    have g2 : ((3000 : Int) < (t.size : Int)) = True := eq_true (by omega)
    have d2 : decide ((3000 : Int) < (t.size : Int)) = true := decide_eq_true (by omega)
    clear hs1 h1
    go_enter Tryd.func6, Tryd.ntmps6
    go_wp2_with (first | (go_at_call 7; go_must (refine (aw _ HT.out).mono ?_); rintro e w9 ⟨rfl, hb⟩; have HB9 := Lib.hid hb; clear hb))
    go_ret
    exact ⟨rfl, HB9.out⟩
def Jx (w : World) (v1 v2 v3 : Value) (la lb lc : List Tok) (b1 b2 b3 : Nat) (c1 k1 l1 m1 c2 k2 l2 m2 c3 k3 l3 m3 : Int) (W : World) : Prop :=
  Row w v1 la W ∧ Row w v2 lb W ∧ Row w v3 lc W ∧ Dv b1 c1 k1 l1 m1 W ∧ Dv b2 c2 k2 l2 m2 W ∧ Dv b3 c3 k3 l3 m3 W ∧ Below w.heap.size w W
/-- What the laws say of the three answers. -/
def JCase (s : ByteArray) (la lb lc : List Tok) (c1 k1 c2 k2 c3 k3 : Int) : Prop :=
  c1 ≠ 0 ∨ (c1 = 0 ∧ c2 ≠ 0 ∧ c3 = c2 ∧ ∃ k : Nat, k2 = k ∧ k ≤ 3000 ∧ k3 = ((s.size + 1 + k : Nat) : Int)) ∨ (c1 = 0 ∧ c2 = 0 ∧ c3 = 0 ∧ lc.map bareS = (la.map bareS).take (la.length - 1) ++ lb.map bareS ∧ 0 < la.length ∧ la.length ≤ 3001 ∧ lb.length ≤ 3001 ∧ lc.length ≤ 6002)
set_option maxHeartbeats 8000000 in
set_option maxRecDepth 1000000 in
theorem joins_walk (s t : ByteArray) (w : World) (ht : TabW w) (hs1 : s.size ≤ 3000) (hs2 : t.size ≤ 3000) (la lb lc : List Tok) (c1 k1 l1 m1 c2 k2 l2 m2 c3 k3 l3 m3 : Int) (h1 : lexcee_All.f s = some (la, c1, k1, l1, m1)) (h2 : lexcee_All.f t = some (lb, c2, k2, l2, m2)) (h3 : lexcee_All.f (s ++ spB ++ t) = some (lc, c3, k3, l3, m3))
    (hcase : JCase s la lb lc c1 k1 c2 k2 c3 k3) : Calls Tryd.prog 6 #[.string s, .string t] w (bB true w) := by
  have HT := Lib.hid ht
  have H1 := Lib.hid h1
  have H2 := Lib.hid h2
  have H3 := Lib.hid h3
  have HC := Lib.hid hcase
  have g1 : ((3000 : Int) < (s.size : Int)) = False := eq_false (by omega)
  have g2 : ((3000 : Int) < (t.size : Int)) = False := eq_false (by omega)
  have d1 : decide ((3000 : Int) < (s.size : Int)) = false := decide_eq_false (by omega)
  have d2 : decide ((3000 : Int) < (t.size : Int)) = false := decide_eq_false (by omega)
  clear ht h1 h2 h3 hcase
  go_enter Tryd.func6, Tryd.ntmps6
  go_upto_region 6 with (first
    | (go_at_call 8; (with_reducible refine (all_c s _ (la, c1, k1, l1, m1) HT.out H1.out).mono ?_); rintro e w1 ⟨v1, rfl, hR, hb⟩; have HR1 := Lib.hid hR; have HB1 := Lib.hid hb; clear hR hb)
    | (go_at_call 8; (with_reducible refine (all_c t _ (lb, c2, k2, l2, m2) (tabW_below HT.out (below_alloc HB1.out _)) H2.out).mono ?_); rintro e w2 ⟨v2, rfl, hR, hb⟩; have HR2 := Lib.hid hR; have HB2 := Lib.hid hb; have HB2a := Lib.hid (below_weaken (below_alloc HB1.out _) (below_alloc HB1.out _).size hb); clear hR hb)
    | (go_at_call 8; go_must (refine (all_c (s ++ spB ++ t) _ (lc, c3, k3, l3, m3) (tabW_below HT.out (below_alloc HB2a.out _)) H3.out).mono ?_); rintro e w3 ⟨v3, rfl, hR, hb⟩; have HR3 := Lib.hid hR; have HB3 := Lib.hid hb; have HB3a := Lib.hid (below_weaken (below_alloc HB2a.out _) (below_alloc HB2a.out _).size hb); clear hR hb))
  have HRa := Lib.hid (show Row w v1 la w3 from (((Row.below (show Row w v1 la w1 from HR1.out) (al _ _)).below HB2.out).below (al _ _)).below HB3.out)
  have HRb := Lib.hid (show Row w v2 lb w3 from ((Row.lower HR2.out (below_alloc HB1.out _)).below (al _ _)).below HB3.out)
  have HRc := Lib.hid (show Row w v3 lc w3 from Row.lower HR3.out (below_alloc HB2a.out _))
  have HDa := Lib.hid (show Dv w1.heap.size c1 k1 l1 m1 w3 from ((Dv.below (alloc_new w1 _) HB2.out).below (al _ _)).below HB3.out)
  have HDb := Lib.hid (show Dv w2.heap.size c2 k2 l2 m2 w3 from Dv.below (alloc_new w2 _) HB3.out)
  refine wp_gen (fun W => Jx w v1 v2 v3 la lb lc w1.heap.size w2.heap.size w3.heap.size c1 k1 l1 m1 c2 k2 l2 m2 c3 k3 l3 m3 W) ⟨HRa.out.below (al _ _), HRb.out.below (al _ _), HRc.out.below (al _ _), HDa.out.below (al _ _), HDb.out.below (al _ _), alloc_new w3 _, below_alloc HB3a.out _⟩ ?_
  intro W hJ
  have HJ := Lib.hid hJ
  clear hJ HRa HRb HRc HDa HDb HR1 HR2 HR3 HB1 HB2 HB2a HB3 HB3a
  generalize w1.heap.size = b1 at HJ ⊢
  generalize w2.heap.size = b2 at HJ ⊢
  generalize w3.heap.size = b3 at HJ ⊢
  have HB := Lib.hid HJ.out.2.2.2.2.2.2
  obtain ⟨x0, x1⟩ := HJ.out.2.2.2.1.cells
  rcases HC.out with hc | ⟨hc, hc2, hc3, k, hk2, hk, hk3⟩ | ⟨hc, hc2, hc3, hl, hp, n1, n2, n3⟩
  · have d3 : (c1 != 0) = true := by simpa using hc
    clear hc
    go_wp2_with (first | (go_at_call 7; go_must (refine (aw _ (tabW_below HT.out HB.out)).mono ?_); rintro e w9 ⟨rfl, hb⟩; have HB9 := Lib.hid (below_weaken HB.out HB.out.size hb); clear hb))
    go_ret
    exact ⟨rfl, HB9.out⟩
  · obtain ⟨y0, y1⟩ := HJ.out.2.2.2.2.1.cells
    obtain ⟨z0, z1⟩ := HJ.out.2.2.2.2.2.1.cells
    have d3 : (c1 != 0) = false := by simp [hc]
    have d4 : (c2 != 0) = true := by simpa using hc2
    have d5 : (c3 == c2) = true := by simp [hc3]
    obtain ⟨n, hn⟩ : ∃ n, n = s.size + 1 + k := ⟨_, rfl⟩
    rw [← hn] at hk3
    have hw1 : (s.size : Int) + 1 + (k : Int) = (n : Int) := by omega
    subst hk2 hk3
    clear hc hc2 hc3 hn
    go_wp2_with (first | (go_at_call 7; go_must (refine (aw _ (tabW_below HT.out HB.out)).mono ?_); rintro e w9 ⟨rfl, hb⟩; have HB9 := Lib.hid (below_weaken HB.out HB.out.size hb); clear hb))
    go_ret
    exact ⟨rfl, HB9.out⟩
  · obtain ⟨y0, y1⟩ := HJ.out.2.2.2.2.1.cells
    have d3 : (c1 != 0) = false := by simp [hc]
    have d4 : (c2 != 0) = false := by simp [hc2]
    subst hc hc2 hc3
    have HL := Lib.hid hl
    have HPL := Lib.hid hp
    have hn1 : la.length ≤ 1000000 := by omega
    have hn2 : lb.length ≤ 1000000 := by omega
    have hn3 : lc.length ≤ 1000000 := by omega
    clear hl hp n1 n2 n3
    obtain ⟨A1, cc1, rfl, hcl1, hC1⟩ := Kd.R_reads HJ.out.1
    obtain ⟨A2, cc2, rfl, hcl2, hC2⟩ := Kd.R_reads HJ.out.2.1
    obtain ⟨A3, cc3, rfl, hcl3, hC3⟩ := Kd.R_reads HJ.out.2.2.1
    have HC1 := Lib.hid hC1
    have HC2 := Lib.hid hC2
    have HC3 := Lib.hid hC3
    clear hC1 hC2 hC3
    go_upto_region 11 with (first
      | (go_at_call 11; (with_reducible refine (bare_any A1 cc1 la _ HC1.out hn1).mono ?_); rintro e w4 ⟨vx, rfl, hR, hb⟩; have HX := Lib.hid hR; have HB4 := Lib.hid hb; clear hR hb)
      | (go_at_call 11; (with_reducible refine (bare_any A2 cc2 lb _ (Kd.C_below HC2.out HB4.out) hn2).mono ?_); rintro e w5 ⟨vy, rfl, hR, hb⟩; have HY := Lib.hid hR; have HB5 := Lib.hid hb; clear hR hb))
    have HBx := Lib.hid (below_weaken HB.out HB.out.size HB4.out)
    have HBy := Lib.hid (below_weaken HBx.out HBx.out.size HB5.out)
    have HX5 := Lib.hid (Row.below (Row.lower HX.out HB.out) HB5.out)
    have HY5 := Lib.hid (Row.lower HY.out HBx.out)
    have HC5 := Lib.hid (Kd.C_below (Kd.C_below HC3.out HB4.out) HB5.out)
    have HD5 := Lib.hid ((HJ.out.2.2.2.2.2.1.below HB4.out).below HB5.out)
    clear HX HY HB4 HB5 HBx x0 x1 y0 y1
    obtain ⟨gx, cx, hvx, _⟩ := Kd.R_form HX5.out (by rw [List.length_map]; exact HPL.out)
    subst hvx
    have hlx := (Kd.R_reads' HX5.out).2.1
    obtain ⟨Ay, cy, hvy, hly, hCy⟩ := Kd.R_reads HY5.out
    subst hvy
    have HCy := Lib.hid hCy
    clear hCy
    obtain ⟨q, hq⟩ : ∃ q, (la.map bareS).length = q + 1 := ⟨la.length - 1, by rw [List.length_map]; have := HPL.out; omega⟩
    have hq1 : la.length - 1 = q := by rw [List.length_map] at hq; omega
    have hL2 := HL.out
    rw [hq1] at hL2
    have HL2 := Lib.hid hL2
    have hmy : (lb.map bareS).length ≤ 1000000 := by rw [List.length_map]; exact hn2
    have hq4 : q ≤ 1000000 := by rw [List.length_map] at hq; omega
    generalize la.map bareS = lx at *
    generalize lb.map bareS = ly at *
    rw [hq] at hlx ⊢
    have hqc : q ≤ cx := by omega
    have hqcc : (q : Int) ≤ (cx : Int) := by omega
    have hqt : q ≤ lx.length := by omega
    have hqa : ((lx.take q).length + ly.length) * 64 ≤ 140737488355328 := by rw [List.length_take]; omega
    have HQT := Lib.hid hqt
    have HQA := Lib.hid hqa
    clear hqt hqa
    have HX6 := Lib.hid (show Row w (.slice (some ⟨gx, 0, none⟩) (q + 1) cx) lx w5 from by have h := HX5.out; rw [hq] at h; exact h)
    have HQ := Lib.hid hq
    clear hL2 hq hq1 HL HPL HC HJ
    generalize hz : lc.map bareS = lz at *
    have HLZ := Lib.hid hz
    have hzl : lz.length ≤ 1000000 := by rw [← hz, List.length_map]; exact hn3
    obtain ⟨KF, hK⟩ : ∃ KF, pantographref05_Same.f KF lz lz = some true := ⟨_, same_self lz hzl _ (Nat.lt_succ_self _)⟩
    have HSM := Lib.hid hK
    clear hz hK
    go_wp2
    have HB0 := Lib.hid (below_drew HBy.out)
    have HX0 := Lib.hid (Row.below HX6.out (below_drew (Below.refl _ _)))
    have HC0 := Lib.hid (Kd.C_below HC5.out (below_drew (Below.refl _ _)))
    have HCy0 := Lib.hid (Kd.C_below HCy.out (below_drew (Below.refl _ _)))
    have HD0 := Lib.hid (HD5.out.below (below_drew (Below.refl _ _)))
    clear HX5 HX6 HC5 HCy HD5 HY5
    have hwq : wrap64 (q : Int) = (q : Int) := by unfold wrap64; omega
    refine start_ (n := 19) (S := fun w' => w'.cell? ⟨b3, 0, none⟩ = some (.int .i64 0)) (ds := [5, 12, 13, 16]) #[false, false, false, false, false, false, false, false, false, false, false, false, false, false, false, false, false, false, false] (by kernel_rfl) rfl rfl (HD0.out.cells.1) (fun hHeld => ?_)
    generalize hwd : World.drew _ = wd at *
    refine pure_ (i := 0) (N := some 75) (v := ?_) (a' := ?_) #[true, false, false, false, false, false, false, false, false, false, false, false, false, false, false, false, false, false, false] rfl rfl (by kernel_rfl) (fun _ _ _ h => h) (Or.inl ⟨by rfl, ?_⟩) ?_ ?_
    rotate_left
    · intro w'
      go_simp
      with_reducible rfl
    rotate_left
    · simp only [Act.put, List.setIfInBounds_toArray, List.set_cons_zero, List.set_cons_succ, i64_w, i32_w]
      rfl
    refine take_ (i := 1) (N := some 76) (v := ?_) (a' := ?_) #[true, true, false, false, false, false, false, false, false, false, false, false, false, false, false, false, false, false, false] rfl rfl (by kernel_rfl) (fun _ _ _ h => h) (Or.inl ⟨by rfl, ?_⟩) hHeld ?_ ?_
    rotate_left
    · intro w' s0
      go_simp
      with_reducible rfl
    rotate_left
    · simp only [Act.put, List.setIfInBounds_toArray, List.set_cons_zero, List.set_cons_succ, i64_w, i32_w]
      rfl
    refine pure_ (i := 2) (N := some 77) (v := ?_) (a' := ?_) #[true, true, true, false, false, false, false, false, false, false, false, false, false, false, false, false, false, false, false] rfl rfl (by kernel_rfl) (fun _ _ _ h => h) (Or.inl ⟨by rfl, ?_⟩) ?_ ?_
    rotate_left
    · intro w'
      go_simp
      with_reducible rfl
    rotate_left
    · simp only [Act.put, List.setIfInBounds_toArray, List.set_cons_zero, List.set_cons_succ, i64_w, i32_w]
      rfl
    refine pure_ (i := 3) (N := some 78) (v := ?_) (a' := ?_) #[true, true, true, true, false, false, false, false, false, false, false, false, false, false, false, false, false, false, false] rfl rfl (by kernel_rfl) (fun _ _ _ h => h) (Or.inl ⟨by rfl, ?_⟩) ?_ ?_
    rotate_left
    · intro w'
      go_simp
      with_reducible rfl
    rotate_left
    · simp only [Act.put, List.setIfInBounds_toArray, List.set_cons_zero, List.set_cons_succ, i64_w, i32_w]
      rfl
    refine pure_ (i := 4) (N := some 79) (v := ?_) (a' := ?_) #[true, true, true, true, true, false, false, false, false, false, false, false, false, false, false, false, false, false, false] rfl rfl (by kernel_rfl) (fun _ _ _ h => h) (Or.inl ⟨by rfl, ?_⟩) ?_ ?_
    rotate_left
    · intro w'
      go_simp
      with_reducible rfl
    rotate_left
    · simp only [Act.put, List.setIfInBounds_toArray, List.set_cons_zero, List.set_cons_succ, i64_w, i32_w]
      rfl
    refine pure_ (i := 6) (N := some 81) (v := ?_) (a' := ?_) #[true, true, true, true, true, false, true, false, false, false, false, false, false, false, false, false, false, false, false] rfl rfl (by kernel_rfl) (fun _ _ _ h => h) (Or.inl ⟨by rfl, ?_⟩) ?_ ?_
    rotate_left
    · intro w'
      go_simp
      with_reducible rfl
    rotate_left
    · simp only [Act.put, List.setIfInBounds_toArray, List.set_cons_zero, List.set_cons_succ, i64_w, i32_w]
      rfl
    refine pure_ (i := 7) (N := some 82) (v := ?_) (a' := ?_) #[true, true, true, true, true, false, true, true, false, false, false, false, false, false, false, false, false, false, false] rfl rfl (by kernel_rfl) (fun _ _ _ h => h) (Or.inl ⟨by rfl, ?_⟩) ?_ ?_
    rotate_left
    · intro w'
      go_simp
      with_reducible rfl
    rotate_left
    · simp only [Act.put, List.setIfInBounds_toArray, List.set_cons_zero, List.set_cons_succ, i64_w, i32_w]
      rfl
    refine pure_ (i := 8) (N := some 83) (v := ?_) (a' := ?_) #[true, true, true, true, true, false, true, true, true, false, false, false, false, false, false, false, false, false, false] rfl rfl (by kernel_rfl) (fun _ _ _ h => h) (Or.inl ⟨by rfl, ?_⟩) ?_ ?_
    rotate_left
    · intro w'
      go_simp
      with_reducible rfl
    rotate_left
    · simp only [Act.put, List.setIfInBounds_toArray, List.set_cons_zero, List.set_cons_succ, i64_w, i32_w]
      rfl
    refine pure_ (i := 9) (N := some 84) (v := ?_) (a' := ?_) #[true, true, true, true, true, false, true, true, true, true, false, false, false, false, false, false, false, false, false] rfl rfl (by kernel_rfl) (fun _ _ _ h => h) (Or.inl ⟨by rfl, ?_⟩) ?_ ?_
    rotate_left
    · intro w'
      go_simp
      with_reducible rfl
    rotate_left
    · simp only [Act.put, List.setIfInBounds_toArray, List.set_cons_zero, List.set_cons_succ, i64_w, i32_w]
      rfl
    refine pure_ (i := 10) (N := some 85) (v := ?_) (a' := ?_) #[true, true, true, true, true, false, true, true, true, true, true, false, false, false, false, false, false, false, false] rfl rfl (by kernel_rfl) (fun _ _ _ h => h) (Or.inl ⟨by rfl, ?_⟩) ?_ ?_
    rotate_left
    · intro w'
      go_simp
      with_reducible rfl
    rotate_left
    · simp only [Act.put, List.setIfInBounds_toArray, List.set_cons_zero, List.set_cons_succ, i64_w, i32_w]
      rfl
    refine pure_ (i := 11) (N := some 86) (v := ?_) (a' := ?_) #[true, true, true, true, true, false, true, true, true, true, true, true, false, false, false, false, false, false, false] rfl rfl (by kernel_rfl) (fun _ _ _ h => h) (Or.inl ⟨by rfl, ?_⟩) ?_ ?_
    rotate_left
    · intro w'
      go_simp
      with_reducible rfl
    rotate_left
    · simp only [Act.put, List.setIfInBounds_toArray, List.set_cons_zero, List.set_cons_succ, i64_w, i32_w]
      rfl
    refine last_ (i := 5) (N := some 80) #[true, true, true, true, true, true, true, true, true, true, true, true, false, false, false, false, false, false, false] rfl rfl (by kernel_rfl) (by decide) (fun K hK => ?_)
    refine goes_ Tryd.func11 (by kernel_rfl) rfl #[.slice A3 lc.length cc3] (by rfl) rfl rfl (by simp only [List.map_toArray, List.map_cons, List.map_nil]; rfl) ?_
    with_reducible refine (bare_any A3 cc3 lc _ HC0.out hn3).mono ?_
    rintro e w9 ⟨vz, rfl, hR, hb⟩
    refine ⟨_, rfl, ?_⟩
    rw [HLZ.out] at hR
    have HZ9 := Lib.hid hR
    have HX9 := Lib.hid (Row.below HX0.out hb)
    have HY9 := Lib.hid (Kd.C_below HCy0.out hb)
    have HB9 := Lib.hid (below_weaken HB0.out HB0.out.size hb)
    obtain ⟨Az, cz, hvz, hlz, _⟩ := Kd.R_reads HZ9.out
    subst hvz
    have HXL := Lib.hid (Kd.R_lt (show Kd.R kTok 35 wd w.heap.size (fun _ => True) (.slice (some ⟨gx, 0, none⟩) (q + 1) cx) lx from HX0.out))
    clear hb hR HX0 HCy0 HC0 HD0
    refine hK.out _ _ ?_
    clear hK K
    refine norm_ (a' := ?_) ?_ ?_
    rotate_left
    · show Act.put _ (some 80) _ = _
      simp only [Act.put, List.setIfInBounds_toArray, List.set_cons_zero, List.set_cons_succ, i64_w, i32_w]
      rfl
    refine last_ (i := 12) (N := some 87) #[true, true, true, true, true, true, true, true, true, true, true, true, true, false, false, false, false, false, false] rfl rfl (by kernel_rfl) (by decide) (fun K hK => ?_)
    refine Kd.R_append_rows_step kTok (Rr := kTok.K w9) (w0 := w) w.heap.size (by rfl) (.tmp 85) (.tmp 86) 24 35 (.agg #[.int .i64 0, .string ⟨#[]⟩, .int .i64 0, .bool false, .int .i64 0, .int .i64 0, .int .i64 0]) 64 rfl Tryd.underlying24 infoTok rfl (by decide) (by omega) (.slice (some ⟨gx, 0, none⟩) q cx) (lx.take q) ly Ay ly.length cy (fun _ => True) (fun _ => False) rfl rfl ?aO ?aR ?aK (fun _ hk => hk.elim) (fun _ _ => trivial) HB9.out HB9.out.size ?aL ?_
    (case aO => exact Kd.R_take (show Kd.R kTok 35 w9 w.heap.size (fun _ => True) (.slice (some ⟨gx, 0, none⟩) (q + 1) cx) lx from HX9.out) HQT.out)
    (case aR => exact HY9.out)
    (case aK => intro x cs hx; obtain rfl := k35_open hx; exact k35_mkM _ _ _ x)
    (case aL => exact HQA.out)
    intro v7 W7 hR7 hb7 hg7 hat7
    rw [← HL2.out] at hR7
    have HR7 := Lib.hid hR7
    have HB7 := Lib.hid hb7
    have HZ7 := Lib.hid (Row.lower (show Kd.R kTok 35 W7 wd.heap.size (fun _ => True) (.slice Az lz.length cz) lz from Kd.R_grown2 HZ9.out rfl hg7 (fun k1 e1 e2 => absurd (HXL.out k1 e1) (Nat.not_lt_of_le (Kd.R_base HZ9.out k1 e2.symm)))) HB0.out)
    obtain ⟨A7, c7, hv7, hl7, _⟩ := Kd.R_reads HR7.out
    subst hv7
    have HZC := Lib.hid (show Kd.C kTok W7 Az lz.length lz from (Kd.R_reads' (show Kd.R kTok 35 W7 w.heap.size (fun _ => True) (.slice Az lz.length cz) lz from HZ7.out)).2.2)
    have HRC := Lib.hid (show Kd.C kTok W7 A7 lz.length lz from (Kd.R_reads' (show Kd.R kTok 35 W7 w.heap.size (fun _ => True) (.slice A7 lz.length c7) lz from HR7.out)).2.2)
    clear hR7 hb7 hg7 hat7 HX9 HZ9 HXL HY9
    refine hK.out _ _ ?_
    clear hK K
    refine norm_ (a' := ?_) ?_ ?_
    rotate_left
    · show Act.put _ (some 87) _ = _
      simp only [Act.put, List.setIfInBounds_toArray, List.set_cons_zero, List.set_cons_succ, i64_w, i32_w]
      rfl
    refine last_ (i := 13) (N := some 88) #[true, true, true, true, true, true, true, true, true, true, true, true, true, true, false, false, false, false, false] rfl rfl (by kernel_rfl) (by decide) (fun K hK => ?_)
    refine goes_ Tryd.func10 (by kernel_rfl) rfl #[.slice Az lz.length cz, .slice A7 lz.length c7] (by rfl) rfl rfl (by simp only [List.map_toArray, List.map_cons, List.map_nil]; rfl) ?_
    with_reducible refine (pantographref05_Same.calls KF Az cz lz A7 c7 lz true _ HZC.out hlz HRC.out hl7 HSM.out).mono ?_
    rintro e w10 ⟨rfl, hd⟩
    refine ⟨_, rfl, ?_⟩
    obtain ⟨m10, hw10⟩ := hd.out
    subst hw10
    have HB10 := Lib.hid (pw_below_drewN HB7.out m10)
    clear hd HZ7 HR7
    refine hK.out _ _ ?_
    clear hK K
    refine norm_ (a' := ?_) ?_ ?_
    rotate_left
    · show Act.put _ (some 88) _ = _
      simp only [Act.put, List.setIfInBounds_toArray, List.set_cons_zero, List.set_cons_succ, i64_w, i32_w]
      rfl
    refine pure_ (i := 14) (N := some 89) (v := ?_) (a' := ?_) #[true, true, true, true, true, true, true, true, true, true, true, true, true, true, true, false, false, false, false] rfl rfl (by kernel_rfl) (fun _ _ _ h => h) (Or.inl ⟨by rfl, ?_⟩) ?_ ?_
    rotate_left
    · intro w'
      go_simp
      with_reducible rfl
    rotate_left
    · simp only [Act.put, List.setIfInBounds_toArray, List.set_cons_zero, List.set_cons_succ, i64_w, i32_w]
      rfl
    refine pure_ (i := 15) (N := some 90) (v := ?_) (a' := ?_) #[true, true, true, true, true, true, true, true, true, true, true, true, true, true, true, true, false, false, false] rfl rfl (by kernel_rfl) (fun _ _ _ h => h) (Or.inl ⟨by rfl, ?_⟩) ?_ ?_
    rotate_left
    · intro w'
      go_simp
      with_reducible rfl
    rotate_left
    · simp only [Act.put, List.setIfInBounds_toArray, List.set_cons_zero, List.set_cons_succ, i64_w, i32_w]
      rfl
    refine last_ (i := 16) (N := some 91) #[true, true, true, true, true, true, true, true, true, true, true, true, true, true, true, true, true, false, false] rfl rfl (by kernel_rfl) (by decide) (fun K hK => ?_)
    refine goes_ Tryd.func7 (by kernel_rfl) rfl #[] (by rfl) rfl rfl (by simp only [List.map_toArray, List.map_cons, List.map_nil]) ?_
    with_reducible refine (aw _ (tabW_below HT.out HB10.out)).mono ?_
    rintro e w11 ⟨rfl, hb⟩
    refine ⟨_, rfl, ?_⟩
    have HB11 := Lib.hid (below_weaken HB10.out HB10.out.size hb)
    clear hb
    refine hK.out _ _ ?_
    clear hK K
    refine norm_ (a' := ?_) ?_ ?_
    rotate_left
    · show Act.put _ (some 91) _ = _
      simp only [Act.put, List.setIfInBounds_toArray, List.set_cons_zero, List.set_cons_succ, i64_w, i32_w]
      rfl
    refine pure_ (i := 17) (N := some 92) (v := ?_) (a' := ?_) #[true, true, true, true, true, true, true, true, true, true, true, true, true, true, true, true, true, true, false] rfl rfl (by kernel_rfl) (fun _ _ _ h => h) (Or.inl ⟨by rfl, ?_⟩) ?_ ?_
    rotate_left
    · intro w'
      go_simp
      with_reducible rfl
    rotate_left
    · simp only [Act.put, List.setIfInBounds_toArray, List.set_cons_zero, List.set_cons_succ, i64_w, i32_w]
      rfl
    refine pure_ (i := 18) (N := some 4) (v := ?_) (a' := ?_) #[true, true, true, true, true, true, true, true, true, true, true, true, true, true, true, true, true, true, true] rfl rfl (by kernel_rfl) (fun _ _ _ h => h) (Or.inl ⟨by rfl, ?_⟩) ?_ ?_
    rotate_left
    · intro w'
      go_simp
      with_reducible rfl
    rotate_left
    · simp only [Act.put, List.setIfInBounds_toArray, List.set_cons_zero, List.set_cons_succ, i64_w, i32_w]
      rfl
    refine done_ (by kernel_rfl) ?_
    go_wp2
    go_ret
    exact ⟨rfl, HB11.out⟩
end Go.Proofs.YtidicpngmildkaaDoor.Jo

/- WordsAre: the walk. -/
import Derived.Test.YtmgdbmojfadahaaDoorWq
import Derived.Laws.Cover1
set_option linter.unusedVariables false
set_option linter.unusedSimpArgs false
namespace Go.Proofs.YtmgdbmojfadahaaDoor.Wd
open Go.RowKit Go.Proofs.YtmgdbmojfadahaaDoorW.PrintWords Go.Proofs.YtmgdbmojfadahaaDoorW.PrintLast Go.Proofs.YtmgdbmojfadahaaDoorW.PrintMore Go.Proofs.YtmgdbmojfadahaaDoor.R
/-- A row whose cells can be written. -/
def Own (W : World) (g n : Nat) : Prop := ∀ j, j < n → (∃ v, W.cell? ⟨g, j, none⟩ = some v) ∧ W.frozen? ⟨g, j, none⟩ = false
theorem own_set {W : World} {g n : Nat} (h : Own W g n) (k : Nat) (v : Value) : Own (W.setCell ⟨g, k, none⟩ v) g n := by
  intro j hj
  obtain ⟨⟨u, h1⟩, h2⟩ := h j hj
  exact ⟨cell?_setCell_some h1, (World.frozen?_setCell _ _ _ _).trans h2⟩
def OwnA (w W : World) (A : Option Addr) (n : Nat) : Prop := 0 < n → ∃ g, A = some ⟨g, 0, none⟩ ∧ w.heap.size ≤ g ∧ Own W g n
theorem own_row {w W : World} {A : Option Addr} {c : Nat} {xs : List ByteArray} (h : Kd.string.R 9 W w.heap.size (fun _ => True) (.slice A xs.length c) xs) : OwnA w W A xs.length := by
  intro hn
  obtain ⟨inner, hown⟩ := Kd.R_own h
  rcases hown.2 with ⟨hv, h0⟩ | ⟨g, cap, cur, hv, hb, hg, hc1, hc2, hsz, _⟩
  · omega
  · injection hv with h1 h2 h3
    refine ⟨g, h1, hb, fun j hj => ⟨?_, Lib.frozen_of_heap hg j⟩⟩
    have hjs : j < cur.size := by
      have : cur.size = cap * 1 := hsz
      omega
    exact ⟨cur[j], by simp [World.cell?, hg, hjs]⟩
def A1Rel (w : World) (v : Value) (d : Int) (i : Value) (wr : World) : Prop :=
  ∃ k : Nat, k ≤ (lst d).length ∧ i = .int .i64 k ∧ Kd.string.R 9 wr w.heap.size (fun _ => True) v (lst d) ∧ Below w.heap.size w wr
def A2Rel (w : World) (A : Option Addr) (n : Nat) (i : Value) (wr : World) : Prop :=
  ∃ k : Nat, k ≤ n ∧ i = .int .i64 k ∧ OwnA w wr A n ∧ Below w.heap.size w wr
theorem less_next (d : Int) (k : Nat) (h : k + 1 < (lst d).length) : Op.bytesLess (lst d)[k].toList (lst d)[k + 1].toList = true :=
  List.pairwise_iff_getElem.1 (sorted_lst d) k (k + 1) (by omega) h (by omega)
set_option maxHeartbeats 8000000 in
set_option maxRecDepth 1000000 in
theorem wordsAre (d : Int) (s : ByteArray) (w : World) (ht : Tab w) (hw : (Lit.int .i64 d).wf = true) (hs : s.size ≤ 140737488351232) :
    Calls Tryd.prog 3 #[.int .i64 d, .string s] w (RetB (.bool true) w) := by
  have HT := Lib.hid ht
  have hln := lst_len d
  clear ht hw hs
  go_enter Tryd.func3, Tryd.ntmps3
  go_wp2_with (first | (go_at_call 9; go_must (refine (all_any d _ HT.out).mono ?_)))
  rintro e w1 ⟨r, rfl, hR, hb⟩
  have HR1 := Lib.hid hR
  have HB1 := Lib.hid hb
  clear hR hb
  obtain ⟨A, c, rfl, hc, hC⟩ := Kd.R_reads HR1.out
  have HC1 := Lib.hid hC
  clear hC
  go_wp2_with (first | (go_at_call 11; go_must (refine (pantographref04_All.calls d (lst d) _ (lst_all d)).mono ?_)))
  rintro e w2 ⟨r2, rfl, hR, hb⟩
  have HR2 := Lib.hid hR
  have HR1b := Lib.hid (Kd.R_below HR1.out hb)
  have HC1b := Lib.hid (Kd.C_below HC1.out hb)
  have HB2 := Lib.hid (below_weaken HB1.out HB1.out.size hb)
  clear hR hb HB1 HR1 HC1
  obtain ⟨A2, c2, rfl, hc2, hC⟩ := Kd.R_reads HR2.out
  have HC2 := Lib.hid hC
  clear hC HR2
  go_wp2_with (first | (go_at_call 10; go_must (refine (pantographref01_SameTexts.calls 1001 A c (lst d) A2 c2 (lst d) true _ HC1b.out hc HC2.out hc2 (same_f _ (by omega) 1001 (by omega))).mono ?_)))
  rintro e w3 ⟨rfl, hd⟩
  have HB3 := Lib.hid (below_weaken HB2.out HB2.out.size hd.below)
  have HR3 := Lib.hid (Kd.R_below HR1b.out hd.below)
  clear hd HB2 HR1b HC1b HC2
  go_wp2_with (first | (go_at_call 12; go_must (refine (is_any d s _ (tab_below HT.out HB3.out)).mono ?_)))
  rintro e w4 ⟨rfl, hb⟩
  have HB4 := Lib.hid (below_weaken HB3.out HB3.out.size hb)
  have HR4 := Lib.hid (Kd.R_below HR3.out hb)
  clear hb HB3 HR3
  go_wp2_with (first | (go_at_call 13; go_must (refine (pantographref04_Is.calls 1001 d s (mem (lst d) s) _ (is_f d s 1001 (by omega))).mono ?_)))
  rintro e w5 ⟨rfl, hb⟩
  have HB5 := Lib.hid (below_weaken HB4.out HB4.out.size hb)
  have HR5 := Lib.hid (Kd.R_below HR4.out hb)
  clear hb HB4 HR4
  go_wp2
  go_loopw [6] (fun i wr => A1Rel w (.slice A (lst d).length c) d i wr) (fun i _ => (lst d).length - (intOf i).toNat)
  case atStart => exact ⟨0, Nat.zero_le _, rfl, HR5.out, HB5.out⟩
  case round =>
    obtain ⟨k, hk, rfl, hR, hb⟩ := hrel
    have HRk := Lib.hid hR
    have HBk := Lib.hid hb
    clear hR hb HR5 HB5
    by_cases hlt : k < (lst d).length
    · obtain ⟨A3, c3, he3, _, hC⟩ := Kd.R_reads HRk.out
      injection he3 with he1 he2 he3
      subst he1
      have HCk := Lib.hid hC
      have HTk := Lib.hid (tab_below HT.out HBk.out)
      obtain ⟨ad, rfl, hz⟩ := at_s hC k hlt
      clear hz
      have hat : ∀ (j : Nat) (hj : j < (lst d).length) (W : World), Kd.C Kd.string W (some ad) (lst d).length (lst d) → W.cell? (ad.add j) = some (.string (lst d)[j]) := by
        intro j hj W h
        obtain ⟨ad', h1, h2⟩ := at_s h j hj
        injection h1 with h1
        subst h1
        exact h2
      clear hC he2 he3
      cases k with
      | zero =>
        have hcell : Hid (∀ W : World, Kd.C Kd.string W (some ad) (lst d).length (lst d) → W.cell? ad = some (.string (lst d)[0])) := Lib.hid (fun W h => by
          have := hat 0 hlt W h
          rwa [show ad.add 0 = ad from by simp [Addr.add]] at this)
        have hin : mem (lst d) (lst d)[0] = true := (mem_iff _ _).2 (List.getElem_mem _)
        clear hat
        go_wp2
        have HC0 := Lib.hid (Kd.C_below HCk.out (below_drew (Below.refl wr.heap.size wr)))
        have HB0 := Lib.hid (below_drew HBk.out)
        have HT0 := Lib.hid (tab_below HTk.out (below_drew (Below.refl wr.heap.size wr)))
        have HR0 := Lib.hid (Kd.R_below HRk.out (below_drew (Below.refl wr.heap.size wr)))
        clear HCk HTk HRk
        refine start_ (n := 23) (S := fun w' => w'.cell? ad = some (.string (lst d)[0])) (ds := []) #[false, false, false, false, false, false, false, false, false, false, false, false, false, false, false, false, false, false, false, false, false, false, false] (by kernel_rfl) rfl rfl ((hcell.out _ HC0.out)) (fun hHeld => ?_)
        generalize hwd : wr.drew = wd at *
        refine pure_ (i := 0) (N := some 30) (v := ?_) (a' := ?_) #[true, false, false, false, false, false, false, false, false, false, false, false, false, false, false, false, false, false, false, false, false, false, false] rfl rfl (by kernel_rfl) (fun _ _ _ h => h) (Or.inl ⟨by rfl, ?_⟩) ?_ ?_
        rotate_left
        · intro w'
          go_simp
          with_reducible rfl
        rotate_left
        · simp only [Act.put, List.setIfInBounds_toArray, List.set_cons_zero, List.set_cons_succ, i64_w, i32_w]
          rfl
        refine pure_ (i := 1) (N := some 31) (v := ?_) (a' := ?_) #[true, true, false, false, false, false, false, false, false, false, false, false, false, false, false, false, false, false, false, false, false, false, false] rfl rfl (by kernel_rfl) (fun _ _ _ h => h) (Or.inl ⟨by rfl, ?_⟩) ?_ ?_
        rotate_left
        · intro w'
          go_simp
          with_reducible rfl
        rotate_left
        · simp only [Act.put, List.setIfInBounds_toArray, List.set_cons_zero, List.set_cons_succ, i64_w, i32_w]
          rfl
        refine pure_ (i := 2) (N := some 32) (v := ?_) (a' := ?_) #[true, true, true, false, false, false, false, false, false, false, false, false, false, false, false, false, false, false, false, false, false, false, false] rfl rfl (by kernel_rfl) (fun _ _ _ h => h) (Or.inl ⟨by rfl, ?_⟩) ?_ ?_
        rotate_left
        · intro w'
          go_simp
          with_reducible rfl
        rotate_left
        · simp only [Act.put, List.setIfInBounds_toArray, List.set_cons_zero, List.set_cons_succ, i64_w, i32_w]
          rfl
        refine pure_ (i := 3) (N := some 33) (v := ?_) (a' := ?_) #[true, true, true, true, false, false, false, false, false, false, false, false, false, false, false, false, false, false, false, false, false, false, false] rfl rfl (by kernel_rfl) (fun _ _ _ h => h) (Or.inl ⟨by rfl, ?_⟩) ?_ ?_
        rotate_left
        · intro w'
          go_simp
          with_reducible rfl
        rotate_left
        · simp only [Act.put, List.setIfInBounds_toArray, List.set_cons_zero, List.set_cons_succ, i64_w, i32_w]
          rfl
        refine take_ (i := 4) (N := some 34) (v := ?_) (a' := ?_) #[true, true, true, true, true, false, false, false, false, false, false, false, false, false, false, false, false, false, false, false, false, false, false] rfl rfl (by kernel_rfl) (fun _ _ _ h => h) (Or.inl ⟨by rfl, ?_⟩) hHeld ?_ ?_
        rotate_left
        · intro w' s0
          go_simp
          with_reducible rfl
        rotate_left
        · simp only [Act.put, List.setIfInBounds_toArray, List.set_cons_zero, List.set_cons_succ, i64_w, i32_w]
          rfl
        refine one_ (i := 5) (N := some 35) #[true, true, true, true, true, true, false, false, false, false, false, false, false, false, false, false, false, false, false, false, false, false, false] rfl rfl (by kernel_rfl) (by decide) (fun K hK => ?_)
        refine goes_ Tryd.func12 (by kernel_rfl) rfl #[.int .i64 d, .string (lst d)[0]] (by rfl) rfl rfl (by simp only [List.map_toArray, List.map_cons, List.map_nil]; rfl) ?_
        with_reducible refine (is_any d (lst d)[0] _ HT0.out).mono ?_
        rintro e w5 ⟨rfl, hb⟩
        refine ⟨_, rfl, ?_⟩
        have HC5 := Lib.hid (Kd.C_below HC0.out hb)
        have HB5 := Lib.hid (below_weaken HB0.out HB0.out.size hb)
        have HR5 := Lib.hid (Kd.R_below HR0.out hb)
        rw [hin]
        clear hb
        refine hK.out _ _ ((hcell.out _ HC5.out)) (fun hHeld => ?_)
        clear hK K
        refine norm_ (a' := ?_) ?_ ?_
        rotate_left
        · show Act.put _ (some 35) _ = _
          simp only [Act.put, List.setIfInBounds_toArray, List.set_cons_zero, List.set_cons_succ, i64_w, i32_w]
          rfl
        refine pure_ (i := 6) (N := some 36) (v := ?_) (a' := ?_) #[true, true, true, true, true, true, true, false, false, false, false, false, false, false, false, false, false, false, false, false, false, false, false] rfl rfl (by kernel_rfl) (fun _ _ _ h => h) (Or.inl ⟨by rfl, ?_⟩) ?_ ?_
        rotate_left
        · intro w'
          go_simp
          with_reducible rfl
        rotate_left
        · simp only [Act.put, List.setIfInBounds_toArray, List.set_cons_zero, List.set_cons_succ, i64_w, i32_w]
          rfl
        refine pure_ (i := 7) (N := some 37) (v := ?_) (a' := ?_) #[true, true, true, true, true, true, true, true, false, false, false, false, false, false, false, false, false, false, false, false, false, false, false] rfl rfl (by kernel_rfl) (fun _ _ _ h => h) (Or.inl ⟨by rfl, ?_⟩) ?_ ?_
        rotate_left
        · intro w'
          go_simp
          with_reducible rfl
        rotate_left
        · simp only [Act.put, List.setIfInBounds_toArray, List.set_cons_zero, List.set_cons_succ, i64_w, i32_w]
          rfl
        refine pure_ (i := 8) (N := some 38) (v := ?_) (a' := ?_) #[true, true, true, true, true, true, true, true, true, false, false, false, false, false, false, false, false, false, false, false, false, false, false] rfl rfl (by kernel_rfl) (fun _ _ _ h => h) (Or.inl ⟨by rfl, ?_⟩) ?_ ?_
        rotate_left
        · intro w'
          go_simp
          with_reducible rfl
        rotate_left
        · simp only [Act.put, List.setIfInBounds_toArray, List.set_cons_zero, List.set_cons_succ, i64_w, i32_w]
          rfl
        refine pure_ (i := 9) (N := some 39) (v := ?_) (a' := ?_) #[true, true, true, true, true, true, true, true, true, true, false, false, false, false, false, false, false, false, false, false, false, false, false] rfl rfl (by kernel_rfl) (fun _ _ _ h => h) (Or.inl ⟨by rfl, ?_⟩) ?_ ?_
        rotate_left
        · intro w'
          go_simp
          with_reducible rfl
        rotate_left
        · simp only [Act.put, List.setIfInBounds_toArray, List.set_cons_zero, List.set_cons_succ, i64_w, i32_w]
          rfl
        refine pure_ (i := 10) (N := some 40) (v := ?_) (a' := ?_) #[true, true, true, true, true, true, true, true, true, true, true, false, false, false, false, false, false, false, false, false, false, false, false] rfl rfl (by kernel_rfl) (fun _ _ _ h => h) (Or.inl ⟨by rfl, ?_⟩) ?_ ?_
        rotate_left
        · intro w'
          go_simp
          with_reducible rfl
        rotate_left
        · simp only [Act.put, List.setIfInBounds_toArray, List.set_cons_zero, List.set_cons_succ, i64_w, i32_w]
          rfl
        refine pure_ (i := 11) (N := some 41) (v := undef) (a' := ?_) #[true, true, true, true, true, true, true, true, true, true, true, true, false, false, false, false, false, false, false, false, false, false, false] rfl rfl (by kernel_rfl) (fun _ _ _ h => h) (Or.inr ⟨by rfl, rfl⟩) ?_ ?_
        rotate_left
        · simp only [Act.put, List.setIfInBounds_toArray, List.set_cons_zero, List.set_cons_succ, i64_w, i32_w]
          rfl
        refine pure_ (i := 12) (N := some 42) (v := undef) (a' := ?_) #[true, true, true, true, true, true, true, true, true, true, true, true, true, false, false, false, false, false, false, false, false, false, false] rfl rfl (by kernel_rfl) (fun _ _ _ h => h) (Or.inr ⟨by rfl, rfl⟩) ?_ ?_
        rotate_left
        · simp only [Act.put, List.setIfInBounds_toArray, List.set_cons_zero, List.set_cons_succ, i64_w, i32_w]
          rfl
        refine pure_ (i := 13) (N := some 43) (v := undef) (a' := ?_) #[true, true, true, true, true, true, true, true, true, true, true, true, true, true, false, false, false, false, false, false, false, false, false] rfl rfl (by kernel_rfl) (fun _ _ _ h => h) (Or.inr ⟨by rfl, rfl⟩) ?_ ?_
        rotate_left
        · simp only [Act.put, List.setIfInBounds_toArray, List.set_cons_zero, List.set_cons_succ, i64_w, i32_w]
          rfl
        refine pure_ (i := 14) (N := some 44) (v := undef) (a' := ?_) #[true, true, true, true, true, true, true, true, true, true, true, true, true, true, true, false, false, false, false, false, false, false, false] rfl rfl (by kernel_rfl) (fun _ _ _ h => h) (Or.inr ⟨by rfl, rfl⟩) ?_ ?_
        rotate_left
        · simp only [Act.put, List.setIfInBounds_toArray, List.set_cons_zero, List.set_cons_succ, i64_w, i32_w]
          rfl
        refine pure_ (i := 15) (N := some 45) (v := undef) (a' := ?_) #[true, true, true, true, true, true, true, true, true, true, true, true, true, true, true, true, false, false, false, false, false, false, false] rfl rfl (by kernel_rfl) (fun _ _ _ h => h) (Or.inr ⟨by rfl, rfl⟩) ?_ ?_
        rotate_left
        · simp only [Act.put, List.setIfInBounds_toArray, List.set_cons_zero, List.set_cons_succ, i64_w, i32_w]
          rfl
        refine pure_ (i := 16) (N := some 46) (v := undef) (a' := ?_) #[true, true, true, true, true, true, true, true, true, true, true, true, true, true, true, true, true, false, false, false, false, false, false] rfl rfl (by kernel_rfl) (fun _ _ _ h => h) (Or.inr ⟨by rfl, rfl⟩) ?_ ?_
        rotate_left
        · simp only [Act.put, List.setIfInBounds_toArray, List.set_cons_zero, List.set_cons_succ, i64_w, i32_w]
          rfl
        refine pure_ (i := 17) (N := some 47) (v := undef) (a' := ?_) #[true, true, true, true, true, true, true, true, true, true, true, true, true, true, true, true, true, true, false, false, false, false, false] rfl rfl (by kernel_rfl) (fun _ _ _ h => h) (Or.inr ⟨by rfl, rfl⟩) ?_ ?_
        rotate_left
        · simp only [Act.put, List.setIfInBounds_toArray, List.set_cons_zero, List.set_cons_succ, i64_w, i32_w]
          rfl
        refine pure_ (i := 18) (N := some 48) (v := undef) (a' := ?_) #[true, true, true, true, true, true, true, true, true, true, true, true, true, true, true, true, true, true, true, false, false, false, false] rfl rfl (by kernel_rfl) (fun _ _ _ h => h) (Or.inr ⟨by rfl, rfl⟩) ?_ ?_
        rotate_left
        · simp only [Act.put, List.setIfInBounds_toArray, List.set_cons_zero, List.set_cons_succ, i64_w, i32_w]
          rfl
        refine pure_ (i := 19) (N := some 49) (v := undef) (a' := ?_) #[true, true, true, true, true, true, true, true, true, true, true, true, true, true, true, true, true, true, true, true, false, false, false] rfl rfl (by kernel_rfl) (fun _ _ _ h => h) (Or.inr ⟨by rfl, rfl⟩) ?_ ?_
        rotate_left
        · simp only [Act.put, List.setIfInBounds_toArray, List.set_cons_zero, List.set_cons_succ, i64_w, i32_w]
          rfl
        refine pure_ (i := 20) (N := some 50) (v := undef) (a' := ?_) #[true, true, true, true, true, true, true, true, true, true, true, true, true, true, true, true, true, true, true, true, true, false, false] rfl rfl (by kernel_rfl) (fun _ _ _ h => h) (Or.inr ⟨by rfl, rfl⟩) ?_ ?_
        rotate_left
        · simp only [Act.put, List.setIfInBounds_toArray, List.set_cons_zero, List.set_cons_succ, i64_w, i32_w]
          rfl
        refine pure_ (i := 21) (N := some 51) (v := ?_) (a' := ?_) #[true, true, true, true, true, true, true, true, true, true, true, true, true, true, true, true, true, true, true, true, true, true, false] rfl rfl (by kernel_rfl) (fun _ _ _ h => h) (Or.inl ⟨by rfl, ?_⟩) ?_ ?_
        rotate_left
        · intro w'
          go_simp
          with_reducible rfl
        rotate_left
        · simp only [Act.put, List.setIfInBounds_toArray, List.set_cons_zero, List.set_cons_succ, i64_w, i32_w]
          rfl
        refine pure_ (i := 22) (N := some 52) (v := ?_) (a' := ?_) #[true, true, true, true, true, true, true, true, true, true, true, true, true, true, true, true, true, true, true, true, true, true, true] rfl rfl (by kernel_rfl) (fun _ _ _ h => h) (Or.inl ⟨by rfl, ?_⟩) ?_ ?_
        rotate_left
        · intro w'
          go_simp
          with_reducible rfl
        rotate_left
        · simp only [Act.put, List.setIfInBounds_toArray, List.set_cons_zero, List.set_cons_succ, i64_w, i32_w]
          rfl
        refine done_ (by kernel_rfl) ?_
        go_wp2
        go_round
        · exact ⟨1, by omega, by simp, HR5.out, HB5.out⟩
        · simp only [intOf]; omega
      | succ j =>
        obtain ⟨m, hmj⟩ : ∃ m, m = j + 1 := ⟨_, rfl⟩
        rw [← hmj]
        have hlm : m < (lst d).length := by omega
        have hlj : j < (lst d).length := by omega
        have hcell := Lib.hid (hat m hlm)
        have hcell0 := Lib.hid (hat j hlj)
        have hin : mem (lst d) (lst d)[m] = true := (mem_iff _ _).2 (List.getElem_mem _)
        have hls : Op.bytesLess (lst d)[j].toList (lst d)[m].toList = true := by
          have := less_next d j hlt
          simp only [hmj]
          exact this
        have hgt : (0 : Int) < (m : Int) := by omega
        have hgt3 : 0 < m := by omega
        have hgt2 : decide ((0 : Int) < (m : Int)) = true := decide_eq_true hgt
        have hgt4 : decide (0 < m) = true := decide_eq_true hgt3
        have hp : wrap64 ((m : Int) - 1) = (j : Int) := by unfold wrap64; omega
        have HMJ := Lib.hid hmj
        have HLT := Lib.hid hlt
        clear hat hmj hlt
        go_wp2
        have HC0 := Lib.hid (Kd.C_below HCk.out (below_drew (Below.refl wr.heap.size wr)))
        have HB0 := Lib.hid (below_drew HBk.out)
        have HT0 := Lib.hid (tab_below HTk.out (below_drew (Below.refl wr.heap.size wr)))
        have HR0 := Lib.hid (Kd.R_below HRk.out (below_drew (Below.refl wr.heap.size wr)))
        clear HCk HTk HRk
        refine start_ (n := 23) (S := fun w' => w'.cell? (ad.add m) = some (.string (lst d)[m]) ∧ w'.cell? (ad.add j) = some (.string (lst d)[j])) (ds := []) #[false, false, false, false, false, false, false, false, false, false, false, false, false, false, false, false, false, false, false, false, false, false, false] (by kernel_rfl) rfl rfl ⟨(hcell.out _ HC0.out), (hcell0.out _ HC0.out)⟩ (fun hHeld => ?_)
        generalize hwd : wr.drew = wd at *
        refine pure_ (i := 0) (N := some 30) (v := ?_) (a' := ?_) #[true, false, false, false, false, false, false, false, false, false, false, false, false, false, false, false, false, false, false, false, false, false, false] rfl rfl (by kernel_rfl) (fun _ _ _ h => h) (Or.inl ⟨by rfl, ?_⟩) ?_ ?_
        rotate_left
        · intro w'
          go_simp
          with_reducible rfl
        rotate_left
        · simp only [Act.put, List.setIfInBounds_toArray, List.set_cons_zero, List.set_cons_succ, i64_w, i32_w]
          rfl
        refine pure_ (i := 1) (N := some 31) (v := ?_) (a' := ?_) #[true, true, false, false, false, false, false, false, false, false, false, false, false, false, false, false, false, false, false, false, false, false, false] rfl rfl (by kernel_rfl) (fun _ _ _ h => h) (Or.inl ⟨by rfl, ?_⟩) ?_ ?_
        rotate_left
        · intro w'
          go_simp
          with_reducible rfl
        rotate_left
        · simp only [Act.put, List.setIfInBounds_toArray, List.set_cons_zero, List.set_cons_succ, i64_w, i32_w]
          rfl
        refine pure_ (i := 2) (N := some 32) (v := ?_) (a' := ?_) #[true, true, true, false, false, false, false, false, false, false, false, false, false, false, false, false, false, false, false, false, false, false, false] rfl rfl (by kernel_rfl) (fun _ _ _ h => h) (Or.inl ⟨by rfl, ?_⟩) ?_ ?_
        rotate_left
        · intro w'
          go_simp
          with_reducible rfl
        rotate_left
        · simp only [Act.put, List.setIfInBounds_toArray, List.set_cons_zero, List.set_cons_succ, i64_w, i32_w]
          rfl
        refine pure_ (i := 3) (N := some 33) (v := ?_) (a' := ?_) #[true, true, true, true, false, false, false, false, false, false, false, false, false, false, false, false, false, false, false, false, false, false, false] rfl rfl (by kernel_rfl) (fun _ _ _ h => h) (Or.inl ⟨by rfl, ?_⟩) ?_ ?_
        rotate_left
        · intro w'
          go_simp
          with_reducible rfl
        rotate_left
        · simp only [Act.put, List.setIfInBounds_toArray, List.set_cons_zero, List.set_cons_succ, i64_w, i32_w]
          rfl
        refine take_ (i := 4) (N := some 34) (v := ?_) (a' := ?_) #[true, true, true, true, true, false, false, false, false, false, false, false, false, false, false, false, false, false, false, false, false, false, false] rfl rfl (by kernel_rfl) (fun _ _ _ h => h) (Or.inl ⟨by rfl, ?_⟩) hHeld ?_ ?_
        rotate_left
        · rintro w' ⟨s0, s1⟩
          go_simp
          with_reducible rfl
        rotate_left
        · simp only [Act.put, List.setIfInBounds_toArray, List.set_cons_zero, List.set_cons_succ, i64_w, i32_w]
          rfl
        refine one_ (i := 5) (N := some 35) #[true, true, true, true, true, true, false, false, false, false, false, false, false, false, false, false, false, false, false, false, false, false, false] rfl rfl (by kernel_rfl) (by decide) (fun K hK => ?_)
        refine goes_ Tryd.func12 (by kernel_rfl) rfl #[.int .i64 d, .string (lst d)[m]] (by rfl) rfl rfl (by simp only [List.map_toArray, List.map_cons, List.map_nil]; rfl) ?_
        with_reducible refine (is_any d (lst d)[m] _ HT0.out).mono ?_
        rintro e w5 ⟨rfl, hb⟩
        refine ⟨_, rfl, ?_⟩
        have HC5 := Lib.hid (Kd.C_below HC0.out hb)
        have HB5 := Lib.hid (below_weaken HB0.out HB0.out.size hb)
        have HR5 := Lib.hid (Kd.R_below HR0.out hb)
        rw [hin]
        clear hb
        refine hK.out _ _ ⟨(hcell.out _ HC5.out), (hcell0.out _ HC5.out)⟩ (fun hHeld => ?_)
        clear hK K
        refine norm_ (a' := ?_) ?_ ?_
        rotate_left
        · show Act.put _ (some 35) _ = _
          simp only [Act.put, List.setIfInBounds_toArray, List.set_cons_zero, List.set_cons_succ, i64_w, i32_w]
          rfl
        refine pure_ (i := 6) (N := some 36) (v := ?_) (a' := ?_) #[true, true, true, true, true, true, true, false, false, false, false, false, false, false, false, false, false, false, false, false, false, false, false] rfl rfl (by kernel_rfl) (fun _ _ _ h => h) (Or.inl ⟨by rfl, ?_⟩) ?_ ?_
        rotate_left
        · intro w'
          go_simp
          with_reducible rfl
        rotate_left
        · simp only [Act.put, List.setIfInBounds_toArray, List.set_cons_zero, List.set_cons_succ, i64_w, i32_w]
          rfl
        refine pure_ (i := 7) (N := some 37) (v := ?_) (a' := ?_) #[true, true, true, true, true, true, true, true, false, false, false, false, false, false, false, false, false, false, false, false, false, false, false] rfl rfl (by kernel_rfl) (fun _ _ _ h => h) (Or.inl ⟨by rfl, ?_⟩) ?_ ?_
        rotate_left
        · intro w'
          go_simp
          with_reducible rfl
        rotate_left
        · simp only [Act.put, List.setIfInBounds_toArray, List.set_cons_zero, List.set_cons_succ, i64_w, i32_w]
          rfl
        refine pure_ (i := 8) (N := some 38) (v := ?_) (a' := ?_) #[true, true, true, true, true, true, true, true, true, false, false, false, false, false, false, false, false, false, false, false, false, false, false] rfl rfl (by kernel_rfl) (fun _ _ _ h => h) (Or.inl ⟨by rfl, ?_⟩) ?_ ?_
        rotate_left
        · intro w'
          go_simp
          with_reducible rfl
        rotate_left
        · simp only [Act.put, List.setIfInBounds_toArray, List.set_cons_zero, List.set_cons_succ, i64_w, i32_w]
          rfl
        refine pure_ (i := 9) (N := some 39) (v := ?_) (a' := ?_) #[true, true, true, true, true, true, true, true, true, true, false, false, false, false, false, false, false, false, false, false, false, false, false] rfl rfl (by kernel_rfl) (fun _ _ _ h => h) (Or.inl ⟨by rfl, ?_⟩) ?_ ?_
        rotate_left
        · intro w'
          go_simp
          with_reducible rfl
        rotate_left
        · simp only [Act.put, List.setIfInBounds_toArray, List.set_cons_zero, List.set_cons_succ, i64_w, i32_w]
          rfl
        refine pure_ (i := 10) (N := some 40) (v := ?_) (a' := ?_) #[true, true, true, true, true, true, true, true, true, true, true, false, false, false, false, false, false, false, false, false, false, false, false] rfl rfl (by kernel_rfl) (fun _ _ _ h => h) (Or.inl ⟨by rfl, ?_⟩) ?_ ?_
        rotate_left
        · intro w'
          go_simp
          with_reducible rfl
        rotate_left
        · simp only [Act.put, List.setIfInBounds_toArray, List.set_cons_zero, List.set_cons_succ, i64_w, i32_w]
          rfl
        refine pure_ (i := 11) (N := some 41) (v := ?_) (a' := ?_) #[true, true, true, true, true, true, true, true, true, true, true, true, false, false, false, false, false, false, false, false, false, false, false] rfl rfl (by kernel_rfl) (fun _ _ _ h => h) (Or.inl ⟨by rfl, ?_⟩) ?_ ?_
        rotate_left
        · intro w'
          go_simp
          with_reducible rfl
        rotate_left
        · simp only [Act.put, List.setIfInBounds_toArray, List.set_cons_zero, List.set_cons_succ, i64_w, i32_w]
          rfl
        refine pure_ (i := 12) (N := some 42) (v := ?_) (a' := ?_) #[true, true, true, true, true, true, true, true, true, true, true, true, true, false, false, false, false, false, false, false, false, false, false] rfl rfl (by kernel_rfl) (fun _ _ _ h => h) (Or.inl ⟨by rfl, ?_⟩) ?_ ?_
        rotate_left
        · intro w'
          go_simp
          with_reducible rfl
        rotate_left
        · simp only [Act.put, List.setIfInBounds_toArray, List.set_cons_zero, List.set_cons_succ, i64_w, i32_w]
          rfl
        refine pure_ (i := 13) (N := some 43) (v := ?_) (a' := ?_) #[true, true, true, true, true, true, true, true, true, true, true, true, true, true, false, false, false, false, false, false, false, false, false] rfl rfl (by kernel_rfl) (fun _ _ _ h => h) (Or.inl ⟨by rfl, ?_⟩) ?_ ?_
        rotate_left
        · intro w'
          go_simp
          with_reducible rfl
        rotate_left
        · simp only [Act.put, List.setIfInBounds_toArray, List.set_cons_zero, List.set_cons_succ, i64_w, i32_w]
          rfl
        refine pure_ (i := 14) (N := some 44) (v := ?_) (a' := ?_) #[true, true, true, true, true, true, true, true, true, true, true, true, true, true, true, false, false, false, false, false, false, false, false] rfl rfl (by kernel_rfl) (fun _ _ _ h => h) (Or.inl ⟨by rfl, ?_⟩) ?_ ?_
        rotate_left
        · intro w'
          go_simp
          with_reducible rfl
        rotate_left
        · simp only [Act.put, List.setIfInBounds_toArray, List.set_cons_zero, List.set_cons_succ, i64_w, i32_w]
          rfl
        refine pure_ (i := 16) (N := some 46) (v := ?_) (a' := ?_) #[true, true, true, true, true, true, true, true, true, true, true, true, true, true, true, false, true, false, false, false, false, false, false] rfl rfl (by kernel_rfl) (fun _ _ _ h => h) (Or.inl ⟨by rfl, ?_⟩) ?_ ?_
        rotate_left
        · intro w'
          go_simp
          with_reducible rfl
        rotate_left
        · simp only [Act.put, List.setIfInBounds_toArray, List.set_cons_zero, List.set_cons_succ, i64_w, i32_w]
          rfl
        refine pure_ (i := 17) (N := some 47) (v := ?_) (a' := ?_) #[true, true, true, true, true, true, true, true, true, true, true, true, true, true, true, false, true, true, false, false, false, false, false] rfl rfl (by kernel_rfl) (fun _ _ _ h => h) (Or.inl ⟨by rfl, ?_⟩) ?_ ?_
        rotate_left
        · intro w'
          go_simp
          with_reducible rfl
        rotate_left
        · simp only [Act.put, List.setIfInBounds_toArray, List.set_cons_zero, List.set_cons_succ, i64_w, i32_w]
          rfl
        refine pure_ (i := 18) (N := some 48) (v := ?_) (a' := ?_) #[true, true, true, true, true, true, true, true, true, true, true, true, true, true, true, false, true, true, true, false, false, false, false] rfl rfl (by kernel_rfl) (fun _ _ _ h => h) (Or.inl ⟨by rfl, ?_⟩) ?_ ?_
        rotate_left
        · intro w'
          go_simp
          with_reducible rfl
        rotate_left
        · simp only [Act.put, List.setIfInBounds_toArray, List.set_cons_zero, List.set_cons_succ, i64_w, i32_w]
          rfl
        refine take_ (i := 15) (N := some 45) (v := ?_) (a' := ?_) #[true, true, true, true, true, true, true, true, true, true, true, true, true, true, true, true, true, true, true, false, false, false, false] rfl rfl (by kernel_rfl) (fun _ _ _ h => h) (Or.inl ⟨by rfl, ?_⟩) hHeld ?_ ?_
        rotate_left
        · rintro w' ⟨s0, s1⟩
          go_simp
          with_reducible rfl
        rotate_left
        · simp only [Act.put, List.setIfInBounds_toArray, List.set_cons_zero, List.set_cons_succ, i64_w, i32_w]
          rfl
        refine take_ (i := 19) (N := some 49) (v := ?_) (a' := ?_) #[true, true, true, true, true, true, true, true, true, true, true, true, true, true, true, true, true, true, true, true, false, false, false] rfl rfl (by kernel_rfl) (fun _ _ _ h => h) (Or.inl ⟨by rfl, ?_⟩) hHeld ?_ ?_
        rotate_left
        · rintro w' ⟨s0, s1⟩
          go_simp
          with_reducible rfl
        rotate_left
        · simp only [Act.put, List.setIfInBounds_toArray, List.set_cons_zero, List.set_cons_succ, i64_w, i32_w]
          rfl
        refine pure_ (i := 20) (N := some 50) (v := ?_) (a' := ?_) #[true, true, true, true, true, true, true, true, true, true, true, true, true, true, true, true, true, true, true, true, true, false, false] rfl rfl (by kernel_rfl) (fun _ _ _ h => h) (Or.inl ⟨by rfl, ?_⟩) ?_ ?_
        rotate_left
        · intro w'
          go_simp
          with_reducible rfl
        rotate_left
        · simp only [Act.put, List.setIfInBounds_toArray, List.set_cons_zero, List.set_cons_succ, i64_w, i32_w]
          rfl
        refine pure_ (i := 21) (N := some 51) (v := ?_) (a' := ?_) #[true, true, true, true, true, true, true, true, true, true, true, true, true, true, true, true, true, true, true, true, true, true, false] rfl rfl (by kernel_rfl) (fun _ _ _ h => h) (Or.inl ⟨by rfl, ?_⟩) ?_ ?_
        rotate_left
        · intro w'
          go_simp
          with_reducible rfl
        rotate_left
        · simp only [Act.put, List.setIfInBounds_toArray, List.set_cons_zero, List.set_cons_succ, i64_w, i32_w]
          rfl
        refine pure_ (i := 22) (N := some 52) (v := ?_) (a' := ?_) #[true, true, true, true, true, true, true, true, true, true, true, true, true, true, true, true, true, true, true, true, true, true, true] rfl rfl (by kernel_rfl) (fun _ _ _ h => h) (Or.inl ⟨by rfl, ?_⟩) ?_ ?_
        rotate_left
        · intro w'
          go_simp
          with_reducible rfl
        rotate_left
        · simp only [Act.put, List.setIfInBounds_toArray, List.set_cons_zero, List.set_cons_succ, i64_w, i32_w]
          rfl
        refine done_ (by kernel_rfl) ?_
        go_wp2
        go_round
        · have := HMJ.out; exact ⟨m + 1, by omega, by simp, HR5.out, HB5.out⟩
        · have := HMJ.out; simp only [intOf]; omega
    · obtain rfl : k = (lst d).length := by omega
      have HO := Lib.hid (own_row HRk.out)
      clear HRk
      go_wp2
      go_loopw [7] (fun i wr => A2Rel w A (lst d).length i wr) (fun i _ => (lst d).length - (intOf i).toNat)
      case atStart => exact ⟨0, Nat.zero_le _, rfl, HO.out, HBk.out⟩
      case round =>
        obtain ⟨k, hk, rfl, ho, hb⟩ := hrel
        have HOk := Lib.hid ho
        have HB6 := Lib.hid hb
        clear ho hb HO HBk
        by_cases hlt : k < (lst d).length
        · obtain ⟨g, rfl, hg, hw⟩ := HOk.out (by omega)
          obtain ⟨⟨u, hcu⟩, hfr⟩ := hw k hlt
          have HW := Lib.hid hw
          clear hw
          go_wp2
          go_round
          · exact ⟨k + 1, by omega, by simp, fun _ => ⟨g, rfl, hg, own_set HW.out k _⟩, below_set HB6.out hg⟩
          · simp only [intOf]; omega
        · obtain rfl : k = (lst d).length := by omega
          clear HOk
          go_wp2_with (first | (go_at_call 9; go_must (refine (all_any d _ (tab_below HT.out HB6.out)).mono ?_)))
          rintro e w7 ⟨r, rfl, hR, hb⟩
          have HR7 := Lib.hid hR
          have HB7 := Lib.hid (below_weaken HB6.out HB6.out.size hb)
          clear hR hb HB6
          obtain ⟨A7, c7, rfl, hc7, hC⟩ := Kd.R_reads HR7.out
          have HC7 := Lib.hid hC
          clear hC HR7
          go_wp2_with (first | (go_at_call 11; go_must (refine (pantographref04_All.calls d (lst d) _ (lst_all d)).mono ?_)))
          rintro e w8 ⟨r8, rfl, hR, hb⟩
          have HR8 := Lib.hid hR
          have HC7b := Lib.hid (Kd.C_below HC7.out hb)
          have HB8 := Lib.hid (below_weaken HB7.out HB7.out.size hb)
          clear hR hb HB7 HC7
          obtain ⟨A8, c8, rfl, hc8, hC⟩ := Kd.R_reads HR8.out
          have HC8 := Lib.hid hC
          clear hC HR8
          go_wp2_with (first | (go_at_call 10; go_must (refine (pantographref01_SameTexts.calls 1001 A7 c7 (lst d) A8 c8 (lst d) true _ HC7b.out hc7 HC8.out hc8 (same_f _ (by omega) 1001 (by omega))).mono ?_)))
          rintro e w9 ⟨rfl, hd⟩
          have HB9 := Lib.hid (below_weaken HB8.out HB8.out.size hd.below)
          clear hd HB8
          go_wp2_with (first | (go_at_call 14; go_must (refine (awake _ (tab_below HT.out HB9.out)).mono ?_); rintro e w10 ⟨rfl, hb⟩; have HB10 := Lib.hid (below_weaken HB9.out HB9.out.size hb); clear hb))
          go_ret
          exact ⟨rfl, HB10.out⟩
end Go.Proofs.YtmgdbmojfadahaaDoor.Wd

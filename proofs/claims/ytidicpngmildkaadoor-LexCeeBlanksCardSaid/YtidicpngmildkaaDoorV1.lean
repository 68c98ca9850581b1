-- Printed by this session's own program over the printer of the kit (wip/tools/xprint.py); not by print.sh. Lean checks it.
import Derived.Test.YtidicpngmildkaaDoorV0
namespace Go.Proofs.YtidicpngmildkaaDoor.V
open Go.Proofs.YtidicpngmildkaaDoor.Fl Go.Proofs.YtidicpngmildkaaDoor.Aw Go.Proofs.YtidicpngmildkaaDoor.R Go.Proofs.YtidicpngmildkaaDoor.Q
open Go.RowKit Go.Proofs.YtidicpngmildkaaDoorW.PrintWords Go.Proofs.YtidicpngmildkaaDoorW.PrintLast Go.Proofs.YtidicpngmildkaaDoorW.PrintMore
attribute [local go_sem] max2_int min2_int max_two min_two max_three min_three max_four min_four   -- for this text's walks alone
set_option linter.unusedVariables false
set_option linter.unusedSimpArgs false

/-! ### pantographref05_Text: function 9 -/
def pantographref05_Text.j0 : Nat → Int → Int → Bool → Int → ByteArray → Int → Bool → Int → Int → Int → Option (ByteArray)
  | 0, _, _, _, _, _, _, _, _, _, _ => none
  | k + 1, x0, x6, x7, x102000, x102001, x102002, x102003, x102004, x102005, x102006 => if x7 = true then (some x102001) else (if x6 = 3 then ((pantographref01_Digits.f k x102002).bind fun t102 => (some t102)) else (if x6 = 4 then ((pantographref05_CharText.f k x0 x102002).bind fun t103 => (some t103)) else (if x6 = 6 then ((pantographref02_Print.f k x0 x102001).bind fun t104 => (some t104)) else (some (⟨#[]⟩ : ByteArray)))))
def pantographref05_Text.f (k : Nat) (a0 : Int) (a1_0 : Int) (a1_1 : ByteArray) (a1_2 : Int) (a1_3 : Bool) (a1_4 : Int) (a1_5 : Int) (a1_6 : Int) : Option (ByteArray) := if a1_0 = 1 then (pantographref05_Text.j0 k a0 a1_0 (a1_0 == 1) a1_0 a1_1 a1_2 a1_3 a1_4 a1_5 a1_6) else (if a1_0 = 2 then (pantographref05_Text.j0 k a0 a1_0 (a1_0 == 2) a1_0 a1_1 a1_2 a1_3 a1_4 a1_5 a1_6) else (pantographref05_Text.j0 k a0 a1_0 (a1_0 == 5) a1_0 a1_1 a1_2 a1_3 a1_4 a1_5 a1_6))
theorem pantographref05_Text.mono_l : ∀ k, (∀ y0 y1 y2 y3 y4 y5 y6 y7 y8 y9, LeO (pantographref05_Text.j0 k y0 y1 y2 y3 y4 y5 y6 y7 y8 y9) (pantographref05_Text.j0 (k + 1) y0 y1 y2 y3 y4 y5 y6 y7 y8 y9))
  | 0 => fun _ _ _ _ _ _ _ _ _ _ r h => by simp [pantographref05_Text.j0] at h
  | k + 1 => by
    have ih0 := pantographref05_Text.mono_l k
    · intro y0 y1 y2 y3 y4 y5 y6 y7 y8 y9
      unfold pantographref05_Text.j0
      repeat' first
      | (with_reducible exact ih0 _ _ _ _ _ _ _ _ _ _)
      | (with_reducible exact pantographref01_Digits.mono _ _)
      | (with_reducible exact pantographref02_Print.mono _ _ _)
      | (with_reducible exact pantographref05_CharText.mono _ _ _)
      | (with_reducible exact LeO.refl _)
      | (with_reducible exact LeO.none _)
      | (with_reducible refine LeO.ite ?_ ?_)
      | (with_reducible refine LeO.bind ?_ (fun _ => ?_))
      | exact ih0 _ _ _ _ _ _ _ _ _ _
      | exact pantographref01_Digits.mono _ _
      | exact pantographref02_Print.mono _ _ _
      | exact pantographref05_CharText.mono _ _ _
      | exact LeO.none _
      | refine LeO.ite ?_ ?_
      | refine LeO.bind ?_ (fun _ => ?_)
theorem pantographref05_Text.mono : ∀ a0 a1 a2 a3 a4 a5 a6 a7 k, LeO (pantographref05_Text.f k a0 a1 a2 a3 a4 a5 a6 a7) (pantographref05_Text.f (k + 1) a0 a1 a2 a3 a4 a5 a6 a7) := by
  intro a0 a1 a2 a3 a4 a5 a6 a7 k
  have ih0 := pantographref05_Text.mono_l k
  unfold pantographref05_Text.f
  repeat' first
      | (with_reducible exact ih0 _ _ _ _ _ _ _ _ _ _)
      | (with_reducible exact pantographref01_Digits.mono _ _)
      | (with_reducible exact pantographref02_Print.mono _ _ _)
      | (with_reducible exact pantographref05_CharText.mono _ _ _)
      | (with_reducible exact LeO.refl _)
      | (with_reducible exact LeO.none _)
      | (with_reducible refine LeO.ite ?_ ?_)
      | (with_reducible refine LeO.bind ?_ (fun _ => ?_))
      | exact ih0 _ _ _ _ _ _ _ _ _ _
      | exact pantographref01_Digits.mono _ _
      | exact pantographref02_Print.mono _ _ _
      | exact pantographref05_CharText.mono _ _ _
      | exact LeO.none _
      | refine LeO.ite ?_ ?_
      | refine LeO.bind ?_ (fun _ => ?_)
set_option maxHeartbeats 8000000 in
set_option maxRecDepth 100000 in
theorem pantographref05_Text.calls (k : Nat) (a0 : Int) (a1_0 : Int) (a1_1 : ByteArray) (a1_2 : Int) (a1_3 : Bool) (a1_4 : Int) (a1_5 : Int) (a1_6 : Int) (r : ByteArray) (w : World) (h : pantographref05_Text.f k a0 a1_0 a1_1 a1_2 a1_3 a1_4 a1_5 a1_6 = some r) :
    Calls Tryd.prog 9 #[.int .i64 a0, .agg #[.int .i64 a1_0, .string a1_1, .int .i64 a1_2, .bool a1_3, .int .i64 a1_4, .int .i64 a1_5, .int .i64 a1_6]] w fun e w' => e = .returned (.string r) ∧ Below w.heap.size w w' := by
  have hu35 := Tryd.underlying35
  have HB := Aside0.mk (Below.refl w.heap.size w)
  have H : (if a1_0 = 1 then (pantographref05_Text.j0 k a0 a1_0 (a1_0 == 1) a1_0 a1_1 a1_2 a1_3 a1_4 a1_5 a1_6) else (if a1_0 = 2 then (pantographref05_Text.j0 k a0 a1_0 (a1_0 == 2) a1_0 a1_1 a1_2 a1_3 a1_4 a1_5 a1_6) else (pantographref05_Text.j0 k a0 a1_0 (a1_0 == 5) a1_0 a1_1 a1_2 a1_3 a1_4 a1_5 a1_6))) = some r := h
  clear h
  have HC3 := Aside0.mk H
  clear H
  go_enter Tryd.func9, Tryd.ntmps9
  go_upto_if 7 with (first | ((with_reducible refine gate_dst (N := 3) rfl ?_); refine box_event ?hg (N := 3) ?hd (cs := #[.int .i64 a1_0, .string a1_1, .int .i64 a1_2, .bool a1_3, .int .i64 a1_4, .int .i64 a1_5, .int .i64 a1_6]) (t := 35) ?hr ?_; (case hd => rfl); (case hg => rfl); (case hr => first | (go_simp; done) | (go_simp; rfl)); intro gb101 hg w4 hbox hb; have n0_ := Aside0.mk (below_step (by repeat (first | (with_reducible first | exact HB.out | apply below_alloc | apply pw_below_drewN | apply below_drew1) | exact HB.out)) hb); have n1_ := Aside0.mk (hbox); have n2_ := Aside0.mk ((by rw [hg]; exact (below_size (by repeat (first | (with_reducible first | exact HB.out | apply below_alloc | apply pw_below_drewN | apply below_drew1) | exact HB.out))) : w.heap.size ≤ gb101)); have n3_ := Aside0.mk ((by rw [hg]; exact (below_size (by repeat (first | (with_reducible first | exact HB.out | apply below_alloc | apply pw_below_drewN | apply below_drew1) | exact HB.out))) : w.heap.size ≤ gb101)); clear HB; have HB := n0_; have BK101 := n1_; have GW101 := n2_; have GE101 := n3_; clear n0_ n1_ n2_ n3_; clear hb hbox hg; have hcz5_0 : w4.cell? ⟨gb101, 0, none⟩ = some (.int .i64 a1_0) := (blk_cell BK101.out 0).trans rfl; have hcz5_1 : w4.cell? ⟨gb101, 1, none⟩ = some (.string a1_1) := (blk_cell BK101.out 1).trans rfl; have hcz5_2 : w4.cell? ⟨gb101, 2, none⟩ = some (.int .i64 a1_2) := (blk_cell BK101.out 2).trans rfl; have hcz5_3 : w4.cell? ⟨gb101, 3, none⟩ = some (.bool a1_3) := (blk_cell BK101.out 3).trans rfl; have hcz5_4 : w4.cell? ⟨gb101, 4, none⟩ = some (.int .i64 a1_4) := (blk_cell BK101.out 4).trans rfl; have hcz5_5 : w4.cell? ⟨gb101, 5, none⟩ = some (.int .i64 a1_5) := (blk_cell BK101.out 5).trans rfl; have hcz5_6 : w4.cell? ⟨gb101, 6, none⟩ = some (.int .i64 a1_6) := (blk_cell BK101.out 6).trans rfl; have hfz5_0 := blk_frozen BK101.out 0; have hfz5_1 := blk_frozen BK101.out 1; have hfz5_2 := blk_frozen BK101.out 2; have hfz5_3 := blk_frozen BK101.out 3; have hfz5_4 := blk_frozen BK101.out 4; have hfz5_5 := blk_frozen BK101.out 5; have hfz5_6 := blk_frozen BK101.out 6))
  (try simp only [Act.put, List.setIfInBounds_toArray, List.set_cons_zero, List.set_cons_succ])
  go_cut [7] (fun v7 wc => ∃ (kq : Nat) (x7_2 : Bool), v7 = .bool x7_2 ∧ Aside0 (pantographref05_Text.j0 kq a0 a1_0 x7_2 a1_0 a1_1 a1_2 a1_3 a1_4 a1_5 a1_6 = some r) ∧ Aside0 (kq ≤ k) ∧ Aside0 (wc.heap[gb101]? = some (.cells #[.int .i64 a1_0, .string a1_1, .int .i64 a1_2, .bool a1_3, .int .i64 a1_4, .int .i64 a1_5, .int .i64 a1_6] 35 (0, 0))) ∧ Aside0 (Below w.heap.size w wc))
  case first =>
    have H := HC3.out
    clear HC3
    by_cases c6 : a1_0 = 1
    · rw [if_pos c6] at H
      have c6b0 : (a1_0 == 1) = true := beq_iff_eq.mpr c6
      have c6b1 : (a1_0 != 1) = false := bne_eq_false_iff_eq.mpr c6
      clear c6
      (first | rw [c6b0] | (simp only [i64_w, i32_w]; rw [c6b0]) | skip)
      have H' := Aside0.mk H
      clear H
      go_wp2
      go_meet
      case rel => exact ⟨_, ((a1_0 == 1)), (by first | rfl | (simp; done) | (simp [*]; done)), H', ⟨by first | omega | exact Nat.le_refl _⟩, ⟨by (with_reducible repeat (first | refine blk_drewN ?_ _ | refine blk_drew ?_ | refine blk_alloc ?_ _)); exact BK101.out⟩, ⟨by repeat (first | (with_reducible first | exact HB.out | apply below_alloc | apply pw_below_drewN | apply below_drew1 | refine below_set ?_ GE101.out) | exact HB.out)⟩⟩
    · rw [if_neg c6] at H
      have c6b0 : (a1_0 == 1) = false := beq_eq_false_iff_ne.mpr c6
      have c6b1 : (a1_0 != 1) = true := bne_iff_ne.mpr c6
      (first | rw [c6b0] | (simp only [i64_w, i32_w]; rw [c6b0]) | skip)
      by_cases c7 : a1_0 = 2
      · rw [if_pos c7] at H
        have c7b0 : (a1_0 == 2) = true := beq_iff_eq.mpr c7
        have c7b1 : (a1_0 != 2) = false := bne_eq_false_iff_eq.mpr c7
        clear c7
        have H' := Aside0.mk H
        clear H
        go_wp2
        go_meet
        case rel => exact ⟨_, ((a1_0 == 2)), (by first | rfl | (simp; done) | (simp [*]; done)), H', ⟨by first | omega | exact Nat.le_refl _⟩, ⟨by (with_reducible repeat (first | refine blk_drewN ?_ _ | refine blk_drew ?_ | refine blk_alloc ?_ _)); exact BK101.out⟩, ⟨by repeat (first | (with_reducible first | exact HB.out | apply below_alloc | apply pw_below_drewN | apply below_drew1 | refine below_set ?_ GE101.out) | exact HB.out)⟩⟩
      · rw [if_neg c7] at H
        have c7b0 : (a1_0 == 2) = false := beq_eq_false_iff_ne.mpr c7
        have c7b1 : (a1_0 != 2) = true := bne_iff_ne.mpr c7
        have H' := Aside0.mk H
        clear H
        go_wp2
        go_meet
        case rel => exact ⟨_, ((a1_0 == 5)), (by first | rfl | (simp; done) | (simp [*]; done)), H', ⟨by first | omega | exact Nat.le_refl _⟩, ⟨by (with_reducible repeat (first | refine blk_drewN ?_ _ | refine blk_drew ?_ | refine blk_alloc ?_ _)); exact BK101.out⟩, ⟨by repeat (first | (with_reducible first | exact HB.out | apply below_alloc | apply pw_below_drewN | apply below_drew1 | refine below_set ?_ GE101.out) | exact HB.out)⟩⟩
  case rest =>
    clear HC3
    try clear p2
    try clear c6
    try clear c6b0
    try clear c6b1
    try clear c7
    try clear c7b0
    try clear c7b1
    try clear hcz5_0
    try clear hcz5_1
    try clear hcz5_2
    try clear hcz5_3
    try clear hcz5_4
    try clear hcz5_5
    try clear hcz5_6
    try clear hfz5_0
    try clear hfz5_1
    try clear hfz5_2
    try clear hfz5_3
    try clear hfz5_4
    try clear hfz5_5
    try clear hfz5_6
    obtain ⟨kq, x7_2, rfl, HA, HJ2, BK101, HB⟩ := hcut
    cases kq with
    | zero => exact absurd HA.out (by simp [pantographref05_Text.j0])
    | succ kj2 =>
      have H := HA.out
      clear HA
      simp only [pantographref05_Text.j0] at H
      by_cases c8 : x7_2 = true
      · subst c8
        have H1 : (some a1_1) = some r := by rw [if_pos rfl] at H; exact H
        clear H
        have H := H1
        clear H1
        obtain rfl := Option.some.inj H
        have hcz9_0 : wc.cell? ⟨gb101, 0, none⟩ = some (.int .i64 a1_0) := (blk_cell BK101.out 0).trans rfl
        have hcz9_1 : wc.cell? ⟨gb101, 1, none⟩ = some (.string a1_1) := (blk_cell BK101.out 1).trans rfl
        have hcz9_2 : wc.cell? ⟨gb101, 2, none⟩ = some (.int .i64 a1_2) := (blk_cell BK101.out 2).trans rfl
        have hcz9_3 : wc.cell? ⟨gb101, 3, none⟩ = some (.bool a1_3) := (blk_cell BK101.out 3).trans rfl
        have hcz9_4 : wc.cell? ⟨gb101, 4, none⟩ = some (.int .i64 a1_4) := (blk_cell BK101.out 4).trans rfl
        have hcz9_5 : wc.cell? ⟨gb101, 5, none⟩ = some (.int .i64 a1_5) := (blk_cell BK101.out 5).trans rfl
        have hcz9_6 : wc.cell? ⟨gb101, 6, none⟩ = some (.int .i64 a1_6) := (blk_cell BK101.out 6).trans rfl
        have hfz9_0 := blk_frozen BK101.out 0
        have hfz9_1 := blk_frozen BK101.out 1
        have hfz9_2 := blk_frozen BK101.out 2
        have hfz9_3 := blk_frozen BK101.out 3
        have hfz9_4 := blk_frozen BK101.out 4
        have hfz9_5 := blk_frozen BK101.out 5
        have hfz9_6 := blk_frozen BK101.out 6
        go_wp2
        go_ret
        exact ⟨by first | rfl | (simp [errW_none, errW_some] <;> rfl) | (simp [*, errW_none, errW_some] <;> rfl), by repeat (first | (with_reducible first | exact HB.out | apply below_alloc | apply pw_below_drewN | apply below_drew1 | refine below_set ?_ GE101.out) | exact HB.out)⟩
      · replace c8 := Bool.eq_false_iff.mpr c8
        subst c8
        have H1 : (if a1_0 = 3 then ((pantographref01_Digits.f kj2 a1_2).bind fun t102 => (some t102)) else (if a1_0 = 4 then ((pantographref05_CharText.f kj2 a0 a1_2).bind fun t103 => (some t103)) else (if a1_0 = 6 then ((pantographref02_Print.f kj2 a0 a1_1).bind fun t104 => (some t104)) else (some (⟨#[]⟩ : ByteArray))))) = some r := by rw [if_neg (show ¬ (false = true) by decide)] at H; exact H
        clear H
        have H := H1
        clear H1
        by_cases c10 : a1_0 = 3
        · rw [if_pos c10] at H
          have c10b0 : (a1_0 == 3) = true := beq_iff_eq.mpr c10
          have c10b1 : (a1_0 != 3) = false := bne_eq_false_iff_eq.mpr c10
          clear c10
          replace H := Option.bind_eq_some_iff.mp H
          obtain ⟨t102, A110, H⟩ := H
          replace H : (some t102) = some r := H
          have A11 := Aside0.mk A110
          clear A110
          obtain rfl := Option.some.inj H
          have hcz12_0 : wc.cell? ⟨gb101, 0, none⟩ = some (.int .i64 a1_0) := (blk_cell BK101.out 0).trans rfl
          have hcz12_1 : wc.cell? ⟨gb101, 1, none⟩ = some (.string a1_1) := (blk_cell BK101.out 1).trans rfl
          have hcz12_2 : wc.cell? ⟨gb101, 2, none⟩ = some (.int .i64 a1_2) := (blk_cell BK101.out 2).trans rfl
          have hcz12_3 : wc.cell? ⟨gb101, 3, none⟩ = some (.bool a1_3) := (blk_cell BK101.out 3).trans rfl
          have hcz12_4 : wc.cell? ⟨gb101, 4, none⟩ = some (.int .i64 a1_4) := (blk_cell BK101.out 4).trans rfl
          have hcz12_5 : wc.cell? ⟨gb101, 5, none⟩ = some (.int .i64 a1_5) := (blk_cell BK101.out 5).trans rfl
          have hcz12_6 : wc.cell? ⟨gb101, 6, none⟩ = some (.int .i64 a1_6) := (blk_cell BK101.out 6).trans rfl
          have hfz12_0 := blk_frozen BK101.out 0
          have hfz12_1 := blk_frozen BK101.out 1
          have hfz12_2 := blk_frozen BK101.out 2
          have hfz12_3 := blk_frozen BK101.out 3
          have hfz12_4 := blk_frozen BK101.out 4
          have hfz12_5 := blk_frozen BK101.out 5
          have hfz12_6 := blk_frozen BK101.out 6
          go_wp2_with (first | ((with_reducible refine gate_callee (f := 21) rfl ?_); refine goesL_ (some 17) rfl rfl Tryd.func21 (by kernel_rfl) rfl #[.int .i64 a1_2] rfl (by (try simp only [List.map_toArray, List.map_cons, List.map_nil]); first | done | rfl | (simp only [List.length_drop, List.length_take]; rfl)) ?_; (with_reducible refine (pantographref01_Digits.calls kj2 a1_2 t102 _ A11.out).mono ?_); rintro e w13 ⟨rfl, hb⟩; refine ⟨_, rfl, ?_⟩; have n0_ := Aside0.mk (blk_below (g := gb101) (o := .cells #[.int .i64 a1_0, .string a1_1, .int .i64 a1_2, .bool a1_3, .int .i64 a1_4, .int .i64 a1_5, .int .i64 a1_6] 35 (0, 0)) (by (with_reducible repeat (first | refine blk_drewN ?_ _ | refine blk_drew ?_ | refine blk_alloc ?_ _)); exact BK101.out) hb); have n1_ := Aside0.mk (below_step (by repeat (first | (with_reducible first | exact HB.out | apply below_alloc | apply pw_below_drewN | apply below_drew1 | refine below_set ?_ GE101.out) | exact HB.out)) hb); clear BK101; clear HB; have BK101 := n0_; have HB := n1_; clear n0_ n1_; (try clear hb); (try clear hb2); (try clear hk); (try clear hi)))
          go_ret
          exact ⟨by first | rfl | (simp [errW_none, errW_some] <;> rfl) | (simp [*, errW_none, errW_some] <;> rfl), by repeat (first | (with_reducible first | exact HB.out | apply below_alloc | apply pw_below_drewN | apply below_drew1 | refine below_set ?_ GE101.out) | exact HB.out)⟩
        · rw [if_neg c10] at H
          have c10b0 : (a1_0 == 3) = false := beq_eq_false_iff_ne.mpr c10
          have c10b1 : (a1_0 != 3) = true := bne_iff_ne.mpr c10
          by_cases c14 : a1_0 = 4
          · rw [if_pos c14] at H
            have c14b0 : (a1_0 == 4) = true := beq_iff_eq.mpr c14
            have c14b1 : (a1_0 != 4) = false := bne_eq_false_iff_eq.mpr c14
            clear c14
            replace H := Option.bind_eq_some_iff.mp H
            obtain ⟨t103, A150, H⟩ := H
            replace H : (some t103) = some r := H
            have A15 := Aside0.mk A150
            clear A150
            obtain rfl := Option.some.inj H
            have hcz16_0 : wc.cell? ⟨gb101, 0, none⟩ = some (.int .i64 a1_0) := (blk_cell BK101.out 0).trans rfl
            have hcz16_1 : wc.cell? ⟨gb101, 1, none⟩ = some (.string a1_1) := (blk_cell BK101.out 1).trans rfl
            have hcz16_2 : wc.cell? ⟨gb101, 2, none⟩ = some (.int .i64 a1_2) := (blk_cell BK101.out 2).trans rfl
            have hcz16_3 : wc.cell? ⟨gb101, 3, none⟩ = some (.bool a1_3) := (blk_cell BK101.out 3).trans rfl
            have hcz16_4 : wc.cell? ⟨gb101, 4, none⟩ = some (.int .i64 a1_4) := (blk_cell BK101.out 4).trans rfl
            have hcz16_5 : wc.cell? ⟨gb101, 5, none⟩ = some (.int .i64 a1_5) := (blk_cell BK101.out 5).trans rfl
            have hcz16_6 : wc.cell? ⟨gb101, 6, none⟩ = some (.int .i64 a1_6) := (blk_cell BK101.out 6).trans rfl
            have hfz16_0 := blk_frozen BK101.out 0
            have hfz16_1 := blk_frozen BK101.out 1
            have hfz16_2 := blk_frozen BK101.out 2
            have hfz16_3 := blk_frozen BK101.out 3
            have hfz16_4 := blk_frozen BK101.out 4
            have hfz16_5 := blk_frozen BK101.out 5
            have hfz16_6 := blk_frozen BK101.out 6
            go_wp2_with (first | ((with_reducible refine gate_callee (f := 12) rfl ?_); refine goesL_ (some 23) rfl rfl Tryd.func12 (by kernel_rfl) rfl #[.int .i64 a0, .int .i64 a1_2] rfl (by (try simp only [List.map_toArray, List.map_cons, List.map_nil]); first | done | rfl | (simp only [List.length_drop, List.length_take]; rfl)) ?_; (with_reducible refine (pantographref05_CharText.calls kj2 a0 a1_2 t103 _ A15.out).mono ?_); rintro e w17 ⟨rfl, hb⟩; refine ⟨_, rfl, ?_⟩; have n0_ := Aside0.mk (blk_below (g := gb101) (o := .cells #[.int .i64 a1_0, .string a1_1, .int .i64 a1_2, .bool a1_3, .int .i64 a1_4, .int .i64 a1_5, .int .i64 a1_6] 35 (0, 0)) (by (with_reducible repeat (first | refine blk_drewN ?_ _ | refine blk_drew ?_ | refine blk_alloc ?_ _)); exact BK101.out) hb); have n1_ := Aside0.mk (below_step (by repeat (first | (with_reducible first | exact HB.out | apply below_alloc | apply pw_below_drewN | apply below_drew1 | refine below_set ?_ GE101.out) | exact HB.out)) hb); clear BK101; clear HB; have BK101 := n0_; have HB := n1_; clear n0_ n1_; (try clear hb); (try clear hb2); (try clear hk); (try clear hi)))
            go_ret
            exact ⟨by first | rfl | (simp [errW_none, errW_some] <;> rfl) | (simp [*, errW_none, errW_some] <;> rfl), by repeat (first | (with_reducible first | exact HB.out | apply below_alloc | apply pw_below_drewN | apply below_drew1 | refine below_set ?_ GE101.out) | exact HB.out)⟩
          · rw [if_neg c14] at H
            have c14b0 : (a1_0 == 4) = false := beq_eq_false_iff_ne.mpr c14
            have c14b1 : (a1_0 != 4) = true := bne_iff_ne.mpr c14
            by_cases c18 : a1_0 = 6
            · rw [if_pos c18] at H
              have c18b0 : (a1_0 == 6) = true := beq_iff_eq.mpr c18
              have c18b1 : (a1_0 != 6) = false := bne_eq_false_iff_eq.mpr c18
              clear c18
              replace H := Option.bind_eq_some_iff.mp H
              obtain ⟨t104, A190, H⟩ := H
              replace H : (some t104) = some r := H
              have A19 := Aside0.mk A190
              clear A190
              obtain rfl := Option.some.inj H
              have hcz20_0 : wc.cell? ⟨gb101, 0, none⟩ = some (.int .i64 a1_0) := (blk_cell BK101.out 0).trans rfl
              have hcz20_1 : wc.cell? ⟨gb101, 1, none⟩ = some (.string a1_1) := (blk_cell BK101.out 1).trans rfl
              have hcz20_2 : wc.cell? ⟨gb101, 2, none⟩ = some (.int .i64 a1_2) := (blk_cell BK101.out 2).trans rfl
              have hcz20_3 : wc.cell? ⟨gb101, 3, none⟩ = some (.bool a1_3) := (blk_cell BK101.out 3).trans rfl
              have hcz20_4 : wc.cell? ⟨gb101, 4, none⟩ = some (.int .i64 a1_4) := (blk_cell BK101.out 4).trans rfl
              have hcz20_5 : wc.cell? ⟨gb101, 5, none⟩ = some (.int .i64 a1_5) := (blk_cell BK101.out 5).trans rfl
              have hcz20_6 : wc.cell? ⟨gb101, 6, none⟩ = some (.int .i64 a1_6) := (blk_cell BK101.out 6).trans rfl
              have hfz20_0 := blk_frozen BK101.out 0
              have hfz20_1 := blk_frozen BK101.out 1
              have hfz20_2 := blk_frozen BK101.out 2
              have hfz20_3 := blk_frozen BK101.out 3
              have hfz20_4 := blk_frozen BK101.out 4
              have hfz20_5 := blk_frozen BK101.out 5
              have hfz20_6 := blk_frozen BK101.out 6
              go_wp2_with (first | ((with_reducible refine gate_callee (f := 22) rfl ?_); refine goesL_ (some 29) rfl rfl Tryd.func22 (by kernel_rfl) rfl #[.int .i64 a0, .string a1_1] rfl (by (try simp only [List.map_toArray, List.map_cons, List.map_nil]); first | done | rfl | (simp only [List.length_drop, List.length_take]; rfl)) ?_; (with_reducible refine (pantographref02_Print.calls kj2 a0 a1_1 t104 _ A19.out).mono ?_); rintro e w21 ⟨rfl, hb⟩; refine ⟨_, rfl, ?_⟩; have n0_ := Aside0.mk (blk_below (g := gb101) (o := .cells #[.int .i64 a1_0, .string a1_1, .int .i64 a1_2, .bool a1_3, .int .i64 a1_4, .int .i64 a1_5, .int .i64 a1_6] 35 (0, 0)) (by (with_reducible repeat (first | refine blk_drewN ?_ _ | refine blk_drew ?_ | refine blk_alloc ?_ _)); exact BK101.out) hb); have n1_ := Aside0.mk (below_step (by repeat (first | (with_reducible first | exact HB.out | apply below_alloc | apply pw_below_drewN | apply below_drew1 | refine below_set ?_ GE101.out) | exact HB.out)) hb); clear BK101; clear HB; have BK101 := n0_; have HB := n1_; clear n0_ n1_; (try clear hb); (try clear hb2); (try clear hk); (try clear hi)))
              go_ret
              exact ⟨by first | rfl | (simp [errW_none, errW_some] <;> rfl) | (simp [*, errW_none, errW_some] <;> rfl), by repeat (first | (with_reducible first | exact HB.out | apply below_alloc | apply pw_below_drewN | apply below_drew1 | refine below_set ?_ GE101.out) | exact HB.out)⟩
            · rw [if_neg c18] at H
              have c18b0 : (a1_0 == 6) = false := beq_eq_false_iff_ne.mpr c18
              have c18b1 : (a1_0 != 6) = true := bne_iff_ne.mpr c18
              obtain rfl := Option.some.inj H
              go_wp2
              go_ret
              exact ⟨by first | rfl | (simp [errW_none, errW_some] <;> rfl) | (simp [*, errW_none, errW_some] <;> rfl), by repeat (first | (with_reducible first | exact HB.out | apply below_alloc | apply pw_below_drewN | apply below_drew1 | refine below_set ?_ GE101.out) | exact HB.out)⟩

end Go.Proofs.YtidicpngmildkaaDoor.V

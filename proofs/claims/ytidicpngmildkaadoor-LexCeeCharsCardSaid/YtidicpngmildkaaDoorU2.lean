-- Printed by this session's own program over the printer of the kit (wip/tools/xprint.py); not by print.sh. Lean checks it.
import Derived.Test.YtidicpngmildkaaDoorU0
namespace Go.Proofs.YtidicpngmildkaaDoor.U
open Go.Proofs.YtidicpngmildkaaDoor.Fl Go.Proofs.YtidicpngmildkaaDoor.Aw Go.Proofs.YtidicpngmildkaaDoor.R
open Go.RowKit Go.Proofs.YtidicpngmildkaaDoorW.PrintWords Go.Proofs.YtidicpngmildkaaDoorW.PrintLast Go.Proofs.YtidicpngmildkaaDoorW.PrintMore
attribute [local go_sem] max2_int min2_int max_two min_two max_three min_three max_four min_four   -- for this text's walks alone
set_option linter.unusedVariables false
set_option linter.unusedSimpArgs false

/-! ### pantographlaw06_LexCeeChars: function 4 -/
def pantographlaw06_LexCeeChars.j0 : Nat → Int → ByteArray → ByteArray → Bool → Option (Bool)
 | 0, _, _, _, _ => none
 | k + 1, x0, x1, x5, x41 => if x41 = true then (some false) else (if (x1.size : Int) > 3000 then ((pantographlaw06_awake.f).bind fun t112 => (some t112)) else (if x5.size + 1 ≤ 9223372036854775807 then (if x5.size + (⟨#[32]⟩ : ByteArray).size + x1.size ≤ 9223372036854775807 then ((lexcee_All.f ((x5 ++ (⟨#[32]⟩ : ByteArray)) ++ x1)).bind fun bt113 => (if bt113.2.1 = 0 then (if (bt113.1.length : Int) > 1 then (if 0 < (bt113.1.length : Int) then (if ((rd_T35 bt113.1 0).f2) = (wrap64 (x0)) then ((pantographlaw06_awake.f).bind fun t122 => (some t122)) else (some false)) else (none)) else (some false)) else ((pantographlaw06_awake.f).bind fun t123 => (some t123)))) else (none)) else (none)))
def pantographlaw06_LexCeeChars.f (k : Nat) (a0 : Int) (a1 : ByteArray) : Option (Bool) := (pantographref05_CharText.f k 1 (wrap64 (a0))).bind fun t101 => ((lexcee_All.f t101).bind fun bt102 => (if bt102.2.1 = 0 then (if (bt102.1.length : Int) = 2 then (if 0 < (bt102.1.length : Int) then (if ((rd_T35 bt102.1 0).f0) = 4 then (pantographlaw06_LexCeeChars.j0 k a0 a1 t101 (((rd_T35 bt102.1 0).f2) != (wrap64 (a0)))) else (pantographlaw06_LexCeeChars.j0 k a0 a1 t101 true)) else (none)) else (pantographlaw06_LexCeeChars.j0 k a0 a1 t101 true)) else (pantographlaw06_LexCeeChars.j0 k a0 a1 t101 true)))
theorem pantographlaw06_LexCeeChars.mono_l : ∀ k, (∀ y0 y1 y2 y3, LeO (pantographlaw06_LexCeeChars.j0 k y0 y1 y2 y3) (pantographlaw06_LexCeeChars.j0 (k + 1) y0 y1 y2 y3))
 | 0 => fun _ _ _ _ r h => by simp [pantographlaw06_LexCeeChars.j0] at h
 | k + 1 => by
  have ih0 := pantographlaw06_LexCeeChars.mono_l k
  ·intro y0 y1 y2 y3
   unfold pantographlaw06_LexCeeChars.j0
   repeat' first
   | (with_reducible exact ih0 _ _ _ _)
   | (with_reducible exact pantographref05_CharText.mono _ _ _)
   | (with_reducible exact LeO.refl _)
   | (with_reducible exact LeO.none _)
   | (with_reducible refine LeO.ite ?_ ?_)
   | (with_reducible refine LeO.bind ?_ (fun _ => ?_))
   | exact ih0 _ _ _ _
   | exact pantographref05_CharText.mono _ _ _
   | exact LeO.none _
   | refine LeO.ite ?_ ?_
   | refine LeO.bind ?_ (fun _ => ?_)
theorem pantographlaw06_LexCeeChars.mono : ∀ a0 a1 k, LeO (pantographlaw06_LexCeeChars.f k a0 a1) (pantographlaw06_LexCeeChars.f (k + 1) a0 a1) := by
 intro a0 a1 k
 have ih0 := pantographlaw06_LexCeeChars.mono_l k
 unfold pantographlaw06_LexCeeChars.f
 repeat' first
   | (with_reducible exact ih0 _ _ _ _)
   | (with_reducible exact pantographref05_CharText.mono _ _ _)
   | (with_reducible exact LeO.refl _)
   | (with_reducible exact LeO.none _)
   | (with_reducible refine LeO.ite ?_ ?_)
   | (with_reducible refine LeO.bind ?_ (fun _ => ?_))
   | exact ih0 _ _ _ _
   | exact pantographref05_CharText.mono _ _ _
   | exact LeO.none _
   | refine LeO.ite ?_ ?_
   | refine LeO.bind ?_ (fun _ => ?_)
set_option maxHeartbeats 8000000 in
set_option maxRecDepth 100000 in
theorem pantographlaw06_LexCeeChars.calls (k : Nat) (a0 : Int) (a1 : ByteArray) (r : Bool) (w : World) (hT : TabW w) (h : pantographlaw06_LexCeeChars.f k a0 a1 = some r) :
  Calls Tryd.prog 4 #[.int .u8 a0, .string a1] w fun e w' => e = .returned (.bool r) ∧ Below w.heap.size w w' := by
 have hu29 := Tryd.underlying29
 have HB := Aside0.mk (Below.refl w.heap.size w)
 have HT := Aside0.mk hT
 clear hT
 have H : ((pantographref05_CharText.f k 1 (wrap64 (a0))).bind fun t101 => ((lexcee_All.f t101).bind fun bt102 => (if bt102.2.1 = 0 then (if (bt102.1.length : Int) = 2 then (if 0 < (bt102.1.length : Int) then (if ((rd_T35 bt102.1 0).f0) = 4 then (pantographlaw06_LexCeeChars.j0 k a0 a1 t101 (((rd_T35 bt102.1 0).f2) != (wrap64 (a0)))) else (pantographlaw06_LexCeeChars.j0 k a0 a1 t101 true)) else (none)) else (pantographlaw06_LexCeeChars.j0 k a0 a1 t101 true)) else (pantographlaw06_LexCeeChars.j0 k a0 a1 t101 true)))) = some r := h
 clear h
 replace H := Option.bind_eq_some_iff.mp H
 obtain ⟨t101, A30, H⟩ := H
 replace H : ((lexcee_All.f t101).bind fun bt102 => (if bt102.2.1 = 0 then (if (bt102.1.length : Int) = 2 then (if 0 < (bt102.1.length : Int) then (if ((rd_T35 bt102.1 0).f0) = 4 then (pantographlaw06_LexCeeChars.j0 k a0 a1 t101 (((rd_T35 bt102.1 0).f2) != (wrap64 (a0)))) else (pantographlaw06_LexCeeChars.j0 k a0 a1 t101 true)) else (none)) else (pantographlaw06_LexCeeChars.j0 k a0 a1 t101 true)) else (pantographlaw06_LexCeeChars.j0 k a0 a1 t101 true))) = some r := H
 have A3 := Aside0.mk A30
 clear A30
 replace H := Option.bind_eq_some_iff.mp H
 obtain ⟨⟨t102, t105, t106, t107, t108⟩, A40, H⟩ := H
 replace H : (if t105 = 0 then (if (t102.length : Int) = 2 then (if 0 < (t102.length : Int) then (if ((rd_T35 t102 0).f0) = 4 then (pantographlaw06_LexCeeChars.j0 k a0 a1 t101 (((rd_T35 t102 0).f2) != (wrap64 (a0)))) else (pantographlaw06_LexCeeChars.j0 k a0 a1 t101 true)) else (none)) else (pantographlaw06_LexCeeChars.j0 k a0 a1 t101 true)) else (pantographlaw06_LexCeeChars.j0 k a0 a1 t101 true)) = some r := H
 have A4 := Aside0.mk A40
 clear A40
 have HC5 := Aside0.mk H
 clear H
 go_enter Tryd.func4, Tryd.ntmps4
 go_upto_region 3 with (first | ((with_reducible refine gate_callee (f := 12) rfl ?_); refine goesL_ (some 12) rfl rfl Tryd.func12 (by kernel_rfl) rfl #[.int .i64 1, .int .i64 (wrap64 (a0))] rfl (by (try simp only [List.map_toArray, List.map_cons, List.map_nil]); first | done | rfl | (simp only [List.length_drop, List.length_take]; rfl)) ?_; (with_reducible refine (pantographref05_CharText.calls k 1 (wrap64 (a0)) t101 _ A3.out).mono ?_); rintro e w6 ⟨rfl, hb⟩; refine ⟨_, rfl, ?_⟩; have n0_ := Aside0.mk (below_step (by repeat (first | (with_reducible first | exact HB.out | apply below_alloc | apply pw_below_drewN | apply below_drew1) | exact HB.out)) hb); clear HB; have HB := n0_; clear n0_; (try clear hb); (try clear hb2); (try clear hk); (try clear hi)) | ((with_reducible refine gate_callee (f := 8) rfl ?_); refine goesL_ (some 15) rfl rfl Tryd.func8 (by kernel_rfl) rfl #[.string t101] rfl (by (try simp only [List.map_toArray, List.map_cons, List.map_nil]); first | done | rfl | (simp only [List.length_drop, List.length_take]; rfl)) ?_; (with_reducible refine (lexcee_All.calls t101 t102 t105 t106 t107 t108 _ ?side1 A4.out).mono ?_); (case side1 => exact tabW_below HT.out (by repeat (first | (with_reducible first | exact HB.out | apply below_alloc | apply pw_below_drewN | apply below_drew1) | exact HB.out))); rintro e w7 ⟨v103, rfl, ho0, hb⟩; refine ⟨_, rfl, ?_⟩; have n0_ := Aside0.mk (Kd.R_lower ho0 (below_size (by repeat (first | (with_reducible first | exact HB.out | apply below_alloc | apply pw_below_drewN | apply below_drew1) | exact HB.out)))); have n1_ := Aside0.mk (below_step (by repeat (first | (with_reducible first | exact HB.out | apply below_alloc | apply pw_below_drewN | apply below_drew1) | exact HB.out)) hb); clear HB; have HO104 := n0_; have HB := n1_; clear n0_ n1_; (try clear hb); (try clear hb2); (try clear hk); (try clear hi); (try clear ho0)) | ((with_reducible refine gate_dst (N := 7) rfl ?_); (try (refine gate_guard (by rfl) ?_; dsimp only)); refine box_event ?hg (N := 7) ?hd (cs := #[.int .i64 0, .int .i64 0, .int .i64 0, .int .i64 0]) (t := 29) ?hr ?_; (case hd => rfl); (case hg => rfl); (case hr => first | (go_simp; done) | (go_simp; rfl)); intro gb109 hg w8 hbox hb; have n0_ := Aside0.mk (Kd.R_below (by (with_reducible repeat (first | apply Kd.R_alloc | apply Kd.R_drewN | apply Kd.R_drew)); exact HO104.out) hb); have n1_ := Aside0.mk (below_step (by repeat (first | (with_reducible first | exact HB.out | apply below_alloc | apply pw_below_drewN | apply below_drew1) | exact HB.out)) hb); have n2_ := Aside0.mk (hbox); have n3_ := Aside0.mk ((by rw [hg]; exact (below_size (by repeat (first | (with_reducible first | exact HB.out | apply below_alloc | apply pw_below_drewN | apply below_drew1) | exact HB.out))) : w.heap.size ≤ gb109)); have n4_ := Aside0.mk ((by rw [hg]; exact (below_size (by repeat (first | (with_reducible first | exact HB.out | apply below_alloc | apply pw_below_drewN | apply below_drew1) | exact HB.out))) : w.heap.size ≤ gb109)); clear HO104; clear HB; have HO104 := n0_; have HB := n1_; have BK109 := n2_; have GW109 := n3_; have GE109 := n4_; clear n0_ n1_ n2_ n3_ n4_; clear hb hbox hg; have hcz9_0 : w8.cell? ⟨gb109, 0, none⟩ = some (.int .i64 0) := (blk_cell BK109.out 0).trans rfl; have hcz9_1 : w8.cell? ⟨gb109, 1, none⟩ = some (.int .i64 0) := (blk_cell BK109.out 1).trans rfl; have hcz9_2 : w8.cell? ⟨gb109, 2, none⟩ = some (.int .i64 0) := (blk_cell BK109.out 2).trans rfl; have hcz9_3 : w8.cell? ⟨gb109, 3, none⟩ = some (.int .i64 0) := (blk_cell BK109.out 3).trans rfl; have hfz9_0 := blk_frozen BK109.out 0; have hfz9_1 := blk_frozen BK109.out 1; have hfz9_2 := blk_frozen BK109.out 2; have hfz9_3 := blk_frozen BK109.out 3))
 (try simp only [Act.put, List.setIfInBounds_toArray, List.set_cons_zero, List.set_cons_succ])
 go_cut [41] (fun v41 wc => ∃ (kq : Nat) (x41_4 : Bool), v41 = .bool x41_4 ∧ Aside0 (pantographlaw06_LexCeeChars.j0 kq a0 a1 t101 x41_4 = some r) ∧ Aside0 (kq ≤ k) ∧ Aside0 (wc.heap[gb109]? = some (.cells #[.int .i64 t105, .int .i64 t106, .int .i64 t107, .int .i64 t108] 29 (0, 0))) ∧ Aside0 (Below w.heap.size w wc))
 case first =>
  have H := HC5.out
  clear HC5
  by_cases c10 : t105 = 0
  ·rw [if_pos c10] at H
   have c10b0 : (t105 == 0) = true := beq_iff_eq.mpr c10
   have c10b1 : (t105 != 0) = false := bne_eq_false_iff_eq.mpr c10
   clear c10
   (first | rw [c10b0] | (simp only [i64_w, i32_w]; rw [c10b0]) | skip)
   by_cases c11 : (t102.length : Int) = 2
   ·rw [if_pos c11] at H
    have c11b0 : ((t102.length : Int) == 2) = true := beq_iff_eq.mpr c11
    have c11b1 : ((t102.length : Int) != 2) = false := bne_eq_false_iff_eq.mpr c11
    clear c11
    by_cases c12 : 0 < (t102.length : Int)
    ·rw [if_pos c12] at H
     have c12b0 : decide (0 < (t102.length : Int)) = true := decide_eq_true c12
     have c12b1 : decide (0 < t102.length) = true := decide_eq_true (by omega)
     clear c12
     by_cases c13 : ((rd_T35 t102 0).f0) = 4
     ·rw [if_pos c13] at H
      have c13b0 : (((rd_T35 t102 0).f0) == 4) = true := beq_iff_eq.mpr c13
      have c13b1 : (((rd_T35 t102 0).f0) != 4) = false := bne_eq_false_iff_eq.mpr c13
      clear c13
      have H' := Aside0.mk H
      clear H
      have hcz14_0 : w8.cell? ⟨gb109, 0, none⟩ = some (.int .i64 0) := (blk_cell BK109.out 0).trans rfl
      have hcz14_1 : w8.cell? ⟨gb109, 1, none⟩ = some (.int .i64 0) := (blk_cell BK109.out 1).trans rfl
      have hcz14_2 : w8.cell? ⟨gb109, 2, none⟩ = some (.int .i64 0) := (blk_cell BK109.out 2).trans rfl
      have hcz14_3 : w8.cell? ⟨gb109, 3, none⟩ = some (.int .i64 0) := (blk_cell BK109.out 3).trans rfl
      have hfz14_0 := blk_frozen BK109.out 0
      have hfz14_1 := blk_frozen BK109.out 1
      have hfz14_2 := blk_frozen BK109.out 2
      have hfz14_3 := blk_frozen BK109.out 3
      obtain ⟨Ao15, co15, eo15⟩ := Kd.R_slice HO104.out
      subst eo15
      have p110 : 0 ≤ (0 : Int) := (by omega)
      have q110 : 0 < (t102.length : Int) := of_decide_eq_true (by first | (with_reducible assumption) | assumption)
      obtain ⟨ad110, e110, hx110_0, hx110_1, hx110_2, hx110_3, hx110_4, hx110_5, hx110_6⟩ := at_T35 (Kd.R_reads' HO104.out).2.2 0 p110 q110
      cases e110
      have qi110 : (0 < t102.length) = True := eq_true (by omega)
      (try rw [show ((0 : Int)).toNat = 0 from rfl] at hx110_0)
      (try rw [show 0 * 7 = 0 from rfl] at hx110_0)
      (try rw [Addr.add_zero'] at hx110_0)
      (try rw [show ((0 : Int)).toNat = 0 from rfl] at hx110_1)
      (try rw [show 0 * 7 = 0 from rfl] at hx110_1)
      (try rw [Addr.add_zero'] at hx110_1)
      (try rw [show ((0 : Int)).toNat = 0 from rfl] at hx110_2)
      (try rw [show 0 * 7 = 0 from rfl] at hx110_2)
      (try rw [Addr.add_zero'] at hx110_2)
      (try rw [show ((0 : Int)).toNat = 0 from rfl] at hx110_3)
      (try rw [show 0 * 7 = 0 from rfl] at hx110_3)
      (try rw [Addr.add_zero'] at hx110_3)
      (try rw [show ((0 : Int)).toNat = 0 from rfl] at hx110_4)
      (try rw [show 0 * 7 = 0 from rfl] at hx110_4)
      (try rw [Addr.add_zero'] at hx110_4)
      (try rw [show ((0 : Int)).toNat = 0 from rfl] at hx110_5)
      (try rw [show 0 * 7 = 0 from rfl] at hx110_5)
      (try rw [Addr.add_zero'] at hx110_5)
      (try rw [show ((0 : Int)).toNat = 0 from rfl] at hx110_6)
      (try rw [show 0 * 7 = 0 from rfl] at hx110_6)
      (try rw [Addr.add_zero'] at hx110_6)
      have hn110_0 : ad110.block ≠ gb109 := Kd.own_blk (Kd.R_ne HO104.out BK109.out (by decide))
      have hn110_1 : ad110.block ≠ gb109 := Kd.own_blk (Kd.R_ne HO104.out BK109.out (by decide))
      have hn110_2 : ad110.block ≠ gb109 := Kd.own_blk (Kd.R_ne HO104.out BK109.out (by decide))
      have hn110_3 : ad110.block ≠ gb109 := Kd.own_blk (Kd.R_ne HO104.out BK109.out (by decide))
      replace hx110_0 := (cell_far (p := ⟨gb109, 0, none⟩) (by first | (rw [add_block]; exact hn110_0) | (show (Addr.add _ _).block ≠ _; rw [add_block]; exact hn110_0) | exact hn110_0) (.int .i64 t105)).trans hx110_0
      replace hx110_1 := (cell_far (p := ⟨gb109, 0, none⟩) (by first | (rw [add_block]; exact hn110_0) | (show (Addr.add _ _).block ≠ _; rw [add_block]; exact hn110_0) | exact hn110_0) (.int .i64 t105)).trans hx110_1
      replace hx110_2 := (cell_far (p := ⟨gb109, 0, none⟩) (by first | (rw [add_block]; exact hn110_0) | (show (Addr.add _ _).block ≠ _; rw [add_block]; exact hn110_0) | exact hn110_0) (.int .i64 t105)).trans hx110_2
      replace hx110_3 := (cell_far (p := ⟨gb109, 0, none⟩) (by first | (rw [add_block]; exact hn110_0) | (show (Addr.add _ _).block ≠ _; rw [add_block]; exact hn110_0) | exact hn110_0) (.int .i64 t105)).trans hx110_3
      replace hx110_4 := (cell_far (p := ⟨gb109, 0, none⟩) (by first | (rw [add_block]; exact hn110_0) | (show (Addr.add _ _).block ≠ _; rw [add_block]; exact hn110_0) | exact hn110_0) (.int .i64 t105)).trans hx110_4
      replace hx110_5 := (cell_far (p := ⟨gb109, 0, none⟩) (by first | (rw [add_block]; exact hn110_0) | (show (Addr.add _ _).block ≠ _; rw [add_block]; exact hn110_0) | exact hn110_0) (.int .i64 t105)).trans hx110_5
      replace hx110_6 := (cell_far (p := ⟨gb109, 0, none⟩) (by first | (rw [add_block]; exact hn110_0) | (show (Addr.add _ _).block ≠ _; rw [add_block]; exact hn110_0) | exact hn110_0) (.int .i64 t105)).trans hx110_6
      replace hx110_0 := (cell_far (p := ⟨gb109, 1, none⟩) (by first | (rw [add_block]; exact hn110_1) | (show (Addr.add _ _).block ≠ _; rw [add_block]; exact hn110_1) | exact hn110_1) (.int .i64 t106)).trans hx110_0
      replace hx110_1 := (cell_far (p := ⟨gb109, 1, none⟩) (by first | (rw [add_block]; exact hn110_1) | (show (Addr.add _ _).block ≠ _; rw [add_block]; exact hn110_1) | exact hn110_1) (.int .i64 t106)).trans hx110_1
      replace hx110_2 := (cell_far (p := ⟨gb109, 1, none⟩) (by first | (rw [add_block]; exact hn110_1) | (show (Addr.add _ _).block ≠ _; rw [add_block]; exact hn110_1) | exact hn110_1) (.int .i64 t106)).trans hx110_2
      replace hx110_3 := (cell_far (p := ⟨gb109, 1, none⟩) (by first | (rw [add_block]; exact hn110_1) | (show (Addr.add _ _).block ≠ _; rw [add_block]; exact hn110_1) | exact hn110_1) (.int .i64 t106)).trans hx110_3
      replace hx110_4 := (cell_far (p := ⟨gb109, 1, none⟩) (by first | (rw [add_block]; exact hn110_1) | (show (Addr.add _ _).block ≠ _; rw [add_block]; exact hn110_1) | exact hn110_1) (.int .i64 t106)).trans hx110_4
      replace hx110_5 := (cell_far (p := ⟨gb109, 1, none⟩) (by first | (rw [add_block]; exact hn110_1) | (show (Addr.add _ _).block ≠ _; rw [add_block]; exact hn110_1) | exact hn110_1) (.int .i64 t106)).trans hx110_5
      replace hx110_6 := (cell_far (p := ⟨gb109, 1, none⟩) (by first | (rw [add_block]; exact hn110_1) | (show (Addr.add _ _).block ≠ _; rw [add_block]; exact hn110_1) | exact hn110_1) (.int .i64 t106)).trans hx110_6
      replace hx110_0 := (cell_far (p := ⟨gb109, 2, none⟩) (by first | (rw [add_block]; exact hn110_2) | (show (Addr.add _ _).block ≠ _; rw [add_block]; exact hn110_2) | exact hn110_2) (.int .i64 t107)).trans hx110_0
      replace hx110_1 := (cell_far (p := ⟨gb109, 2, none⟩) (by first | (rw [add_block]; exact hn110_2) | (show (Addr.add _ _).block ≠ _; rw [add_block]; exact hn110_2) | exact hn110_2) (.int .i64 t107)).trans hx110_1
      replace hx110_2 := (cell_far (p := ⟨gb109, 2, none⟩) (by first | (rw [add_block]; exact hn110_2) | (show (Addr.add _ _).block ≠ _; rw [add_block]; exact hn110_2) | exact hn110_2) (.int .i64 t107)).trans hx110_2
      replace hx110_3 := (cell_far (p := ⟨gb109, 2, none⟩) (by first | (rw [add_block]; exact hn110_2) | (show (Addr.add _ _).block ≠ _; rw [add_block]; exact hn110_2) | exact hn110_2) (.int .i64 t107)).trans hx110_3
      replace hx110_4 := (cell_far (p := ⟨gb109, 2, none⟩) (by first | (rw [add_block]; exact hn110_2) | (show (Addr.add _ _).block ≠ _; rw [add_block]; exact hn110_2) | exact hn110_2) (.int .i64 t107)).trans hx110_4
      replace hx110_5 := (cell_far (p := ⟨gb109, 2, none⟩) (by first | (rw [add_block]; exact hn110_2) | (show (Addr.add _ _).block ≠ _; rw [add_block]; exact hn110_2) | exact hn110_2) (.int .i64 t107)).trans hx110_5
      replace hx110_6 := (cell_far (p := ⟨gb109, 2, none⟩) (by first | (rw [add_block]; exact hn110_2) | (show (Addr.add _ _).block ≠ _; rw [add_block]; exact hn110_2) | exact hn110_2) (.int .i64 t107)).trans hx110_6
      replace hx110_0 := (cell_far (p := ⟨gb109, 3, none⟩) (by first | (rw [add_block]; exact hn110_3) | (show (Addr.add _ _).block ≠ _; rw [add_block]; exact hn110_3) | exact hn110_3) (.int .i64 t108)).trans hx110_0
      replace hx110_1 := (cell_far (p := ⟨gb109, 3, none⟩) (by first | (rw [add_block]; exact hn110_3) | (show (Addr.add _ _).block ≠ _; rw [add_block]; exact hn110_3) | exact hn110_3) (.int .i64 t108)).trans hx110_1
      replace hx110_2 := (cell_far (p := ⟨gb109, 3, none⟩) (by first | (rw [add_block]; exact hn110_3) | (show (Addr.add _ _).block ≠ _; rw [add_block]; exact hn110_3) | exact hn110_3) (.int .i64 t108)).trans hx110_2
      replace hx110_3 := (cell_far (p := ⟨gb109, 3, none⟩) (by first | (rw [add_block]; exact hn110_3) | (show (Addr.add _ _).block ≠ _; rw [add_block]; exact hn110_3) | exact hn110_3) (.int .i64 t108)).trans hx110_3
      replace hx110_4 := (cell_far (p := ⟨gb109, 3, none⟩) (by first | (rw [add_block]; exact hn110_3) | (show (Addr.add _ _).block ≠ _; rw [add_block]; exact hn110_3) | exact hn110_3) (.int .i64 t108)).trans hx110_4
      replace hx110_5 := (cell_far (p := ⟨gb109, 3, none⟩) (by first | (rw [add_block]; exact hn110_3) | (show (Addr.add _ _).block ≠ _; rw [add_block]; exact hn110_3) | exact hn110_3) (.int .i64 t108)).trans hx110_5
      replace hx110_6 := (cell_far (p := ⟨gb109, 3, none⟩) (by first | (rw [add_block]; exact hn110_3) | (show (Addr.add _ _).block ≠ _; rw [add_block]; exact hn110_3) | exact hn110_3) (.int .i64 t108)).trans hx110_6
      clear hn110_0
      clear hn110_1
      clear hn110_2
      clear hn110_3
      replace p110 := eq_true p110
      replace q110 := eq_true q110
      have p111 : 0 ≤ (0 : Int) := (by omega)
      have q111 : 0 < (t102.length : Int) := of_decide_eq_true (by first | (with_reducible assumption) | assumption)
      obtain ⟨ad111, e111, hx111_0, hx111_1, hx111_2, hx111_3, hx111_4, hx111_5, hx111_6⟩ := at_T35 (Kd.R_reads' HO104.out).2.2 0 p111 q111
      obtain rfl : ad110 = ad111 := (by injection e111)
      have qi111 : (0 < t102.length) = True := eq_true (by omega)
      (try rw [show ((0 : Int)).toNat = 0 from rfl] at hx111_0)
      (try rw [show 0 * 7 = 0 from rfl] at hx111_0)
      (try rw [Addr.add_zero'] at hx111_0)
      (try rw [show ((0 : Int)).toNat = 0 from rfl] at hx111_1)
      (try rw [show 0 * 7 = 0 from rfl] at hx111_1)
      (try rw [Addr.add_zero'] at hx111_1)
      (try rw [show ((0 : Int)).toNat = 0 from rfl] at hx111_2)
      (try rw [show 0 * 7 = 0 from rfl] at hx111_2)
      (try rw [Addr.add_zero'] at hx111_2)
      (try rw [show ((0 : Int)).toNat = 0 from rfl] at hx111_3)
      (try rw [show 0 * 7 = 0 from rfl] at hx111_3)
      (try rw [Addr.add_zero'] at hx111_3)
      (try rw [show ((0 : Int)).toNat = 0 from rfl] at hx111_4)
      (try rw [show 0 * 7 = 0 from rfl] at hx111_4)
      (try rw [Addr.add_zero'] at hx111_4)
      (try rw [show ((0 : Int)).toNat = 0 from rfl] at hx111_5)
      (try rw [show 0 * 7 = 0 from rfl] at hx111_5)
      (try rw [Addr.add_zero'] at hx111_5)
      (try rw [show ((0 : Int)).toNat = 0 from rfl] at hx111_6)
      (try rw [show 0 * 7 = 0 from rfl] at hx111_6)
      (try rw [Addr.add_zero'] at hx111_6)
      have hn111_0 : ad110.block ≠ gb109 := Kd.own_blk (Kd.R_ne HO104.out BK109.out (by decide))
      have hn111_1 : ad110.block ≠ gb109 := Kd.own_blk (Kd.R_ne HO104.out BK109.out (by decide))
      have hn111_2 : ad110.block ≠ gb109 := Kd.own_blk (Kd.R_ne HO104.out BK109.out (by decide))
      have hn111_3 : ad110.block ≠ gb109 := Kd.own_blk (Kd.R_ne HO104.out BK109.out (by decide))
      replace hx111_0 := (cell_far (p := ⟨gb109, 0, none⟩) (by first | (rw [add_block]; exact hn111_0) | (show (Addr.add _ _).block ≠ _; rw [add_block]; exact hn111_0) | exact hn111_0) (.int .i64 t105)).trans hx111_0
      replace hx111_1 := (cell_far (p := ⟨gb109, 0, none⟩) (by first | (rw [add_block]; exact hn111_0) | (show (Addr.add _ _).block ≠ _; rw [add_block]; exact hn111_0) | exact hn111_0) (.int .i64 t105)).trans hx111_1
      replace hx111_2 := (cell_far (p := ⟨gb109, 0, none⟩) (by first | (rw [add_block]; exact hn111_0) | (show (Addr.add _ _).block ≠ _; rw [add_block]; exact hn111_0) | exact hn111_0) (.int .i64 t105)).trans hx111_2
      replace hx111_3 := (cell_far (p := ⟨gb109, 0, none⟩) (by first | (rw [add_block]; exact hn111_0) | (show (Addr.add _ _).block ≠ _; rw [add_block]; exact hn111_0) | exact hn111_0) (.int .i64 t105)).trans hx111_3
      replace hx111_4 := (cell_far (p := ⟨gb109, 0, none⟩) (by first | (rw [add_block]; exact hn111_0) | (show (Addr.add _ _).block ≠ _; rw [add_block]; exact hn111_0) | exact hn111_0) (.int .i64 t105)).trans hx111_4
      replace hx111_5 := (cell_far (p := ⟨gb109, 0, none⟩) (by first | (rw [add_block]; exact hn111_0) | (show (Addr.add _ _).block ≠ _; rw [add_block]; exact hn111_0) | exact hn111_0) (.int .i64 t105)).trans hx111_5
      replace hx111_6 := (cell_far (p := ⟨gb109, 0, none⟩) (by first | (rw [add_block]; exact hn111_0) | (show (Addr.add _ _).block ≠ _; rw [add_block]; exact hn111_0) | exact hn111_0) (.int .i64 t105)).trans hx111_6
      replace hx111_0 := (cell_far (p := ⟨gb109, 1, none⟩) (by first | (rw [add_block]; exact hn111_1) | (show (Addr.add _ _).block ≠ _; rw [add_block]; exact hn111_1) | exact hn111_1) (.int .i64 t106)).trans hx111_0
      replace hx111_1 := (cell_far (p := ⟨gb109, 1, none⟩) (by first | (rw [add_block]; exact hn111_1) | (show (Addr.add _ _).block ≠ _; rw [add_block]; exact hn111_1) | exact hn111_1) (.int .i64 t106)).trans hx111_1
      replace hx111_2 := (cell_far (p := ⟨gb109, 1, none⟩) (by first | (rw [add_block]; exact hn111_1) | (show (Addr.add _ _).block ≠ _; rw [add_block]; exact hn111_1) | exact hn111_1) (.int .i64 t106)).trans hx111_2
      replace hx111_3 := (cell_far (p := ⟨gb109, 1, none⟩) (by first | (rw [add_block]; exact hn111_1) | (show (Addr.add _ _).block ≠ _; rw [add_block]; exact hn111_1) | exact hn111_1) (.int .i64 t106)).trans hx111_3
      replace hx111_4 := (cell_far (p := ⟨gb109, 1, none⟩) (by first | (rw [add_block]; exact hn111_1) | (show (Addr.add _ _).block ≠ _; rw [add_block]; exact hn111_1) | exact hn111_1) (.int .i64 t106)).trans hx111_4
      replace hx111_5 := (cell_far (p := ⟨gb109, 1, none⟩) (by first | (rw [add_block]; exact hn111_1) | (show (Addr.add _ _).block ≠ _; rw [add_block]; exact hn111_1) | exact hn111_1) (.int .i64 t106)).trans hx111_5
      replace hx111_6 := (cell_far (p := ⟨gb109, 1, none⟩) (by first | (rw [add_block]; exact hn111_1) | (show (Addr.add _ _).block ≠ _; rw [add_block]; exact hn111_1) | exact hn111_1) (.int .i64 t106)).trans hx111_6
      replace hx111_0 := (cell_far (p := ⟨gb109, 2, none⟩) (by first | (rw [add_block]; exact hn111_2) | (show (Addr.add _ _).block ≠ _; rw [add_block]; exact hn111_2) | exact hn111_2) (.int .i64 t107)).trans hx111_0
      replace hx111_1 := (cell_far (p := ⟨gb109, 2, none⟩) (by first | (rw [add_block]; exact hn111_2) | (show (Addr.add _ _).block ≠ _; rw [add_block]; exact hn111_2) | exact hn111_2) (.int .i64 t107)).trans hx111_1
      replace hx111_2 := (cell_far (p := ⟨gb109, 2, none⟩) (by first | (rw [add_block]; exact hn111_2) | (show (Addr.add _ _).block ≠ _; rw [add_block]; exact hn111_2) | exact hn111_2) (.int .i64 t107)).trans hx111_2
      replace hx111_3 := (cell_far (p := ⟨gb109, 2, none⟩) (by first | (rw [add_block]; exact hn111_2) | (show (Addr.add _ _).block ≠ _; rw [add_block]; exact hn111_2) | exact hn111_2) (.int .i64 t107)).trans hx111_3
      replace hx111_4 := (cell_far (p := ⟨gb109, 2, none⟩) (by first | (rw [add_block]; exact hn111_2) | (show (Addr.add _ _).block ≠ _; rw [add_block]; exact hn111_2) | exact hn111_2) (.int .i64 t107)).trans hx111_4
      replace hx111_5 := (cell_far (p := ⟨gb109, 2, none⟩) (by first | (rw [add_block]; exact hn111_2) | (show (Addr.add _ _).block ≠ _; rw [add_block]; exact hn111_2) | exact hn111_2) (.int .i64 t107)).trans hx111_5
      replace hx111_6 := (cell_far (p := ⟨gb109, 2, none⟩) (by first | (rw [add_block]; exact hn111_2) | (show (Addr.add _ _).block ≠ _; rw [add_block]; exact hn111_2) | exact hn111_2) (.int .i64 t107)).trans hx111_6
      replace hx111_0 := (cell_far (p := ⟨gb109, 3, none⟩) (by first | (rw [add_block]; exact hn111_3) | (show (Addr.add _ _).block ≠ _; rw [add_block]; exact hn111_3) | exact hn111_3) (.int .i64 t108)).trans hx111_0
      replace hx111_1 := (cell_far (p := ⟨gb109, 3, none⟩) (by first | (rw [add_block]; exact hn111_3) | (show (Addr.add _ _).block ≠ _; rw [add_block]; exact hn111_3) | exact hn111_3) (.int .i64 t108)).trans hx111_1
      replace hx111_2 := (cell_far (p := ⟨gb109, 3, none⟩) (by first | (rw [add_block]; exact hn111_3) | (show (Addr.add _ _).block ≠ _; rw [add_block]; exact hn111_3) | exact hn111_3) (.int .i64 t108)).trans hx111_2
      replace hx111_3 := (cell_far (p := ⟨gb109, 3, none⟩) (by first | (rw [add_block]; exact hn111_3) | (show (Addr.add _ _).block ≠ _; rw [add_block]; exact hn111_3) | exact hn111_3) (.int .i64 t108)).trans hx111_3
      replace hx111_4 := (cell_far (p := ⟨gb109, 3, none⟩) (by first | (rw [add_block]; exact hn111_3) | (show (Addr.add _ _).block ≠ _; rw [add_block]; exact hn111_3) | exact hn111_3) (.int .i64 t108)).trans hx111_4
      replace hx111_5 := (cell_far (p := ⟨gb109, 3, none⟩) (by first | (rw [add_block]; exact hn111_3) | (show (Addr.add _ _).block ≠ _; rw [add_block]; exact hn111_3) | exact hn111_3) (.int .i64 t108)).trans hx111_5
      replace hx111_6 := (cell_far (p := ⟨gb109, 3, none⟩) (by first | (rw [add_block]; exact hn111_3) | (show (Addr.add _ _).block ≠ _; rw [add_block]; exact hn111_3) | exact hn111_3) (.int .i64 t108)).trans hx111_6
      clear hn111_0
      clear hn111_1
      clear hn111_2
      clear hn111_3
      replace p111 := eq_true p111
      replace q111 := eq_true q111
      go_wp2
      go_meet
      case rel => exact ⟨_, ((((rd_T35 t102 0).f2) != (wrap64 (a0)))), (by first | rfl | (simp; done) | (simp [*]; done)), H', ⟨by first | omega | exact Nat.le_refl _⟩, ⟨by (with_reducible repeat (first | refine blk_drewN ?_ _ | refine blk_drew ?_ | refine blk_alloc ?_ _)); refine blk_put (cs := #[.int .i64 t105, .int .i64 t106, .int .i64 t107, .int .i64 0]) ?_ 3 _ rfl; (with_reducible repeat (first | refine blk_drewN ?_ _ | refine blk_drew ?_ | refine blk_alloc ?_ _)); refine blk_put (cs := #[.int .i64 t105, .int .i64 t106, .int .i64 0, .int .i64 0]) ?_ 2 _ rfl; (with_reducible repeat (first | refine blk_drewN ?_ _ | refine blk_drew ?_ | refine blk_alloc ?_ _)); refine blk_put (cs := #[.int .i64 t105, .int .i64 0, .int .i64 0, .int .i64 0]) ?_ 1 _ rfl; (with_reducible repeat (first | refine blk_drewN ?_ _ | refine blk_drew ?_ | refine blk_alloc ?_ _)); refine blk_put (cs := #[.int .i64 0, .int .i64 0, .int .i64 0, .int .i64 0]) ?_ 0 _ rfl; (with_reducible repeat (first | refine blk_drewN ?_ _ | refine blk_drew ?_ | refine blk_alloc ?_ _)); exact BK109.out⟩, ⟨by repeat (first | (with_reducible first | exact HB.out | apply below_alloc | apply pw_below_drewN | apply below_drew1 | refine below_set ?_ GE109.out) | exact HB.out)⟩⟩
     ·rw [if_neg c13] at H
      have c13b0 : (((rd_T35 t102 0).f0) == 4) = false := beq_eq_false_iff_ne.mpr c13
      have c13b1 : (((rd_T35 t102 0).f0) != 4) = true := bne_iff_ne.mpr c13
      have H' := Aside0.mk H
      clear H
      have hcz16_0 : w8.cell? ⟨gb109, 0, none⟩ = some (.int .i64 0) := (blk_cell BK109.out 0).trans rfl
      have hcz16_1 : w8.cell? ⟨gb109, 1, none⟩ = some (.int .i64 0) := (blk_cell BK109.out 1).trans rfl
      have hcz16_2 : w8.cell? ⟨gb109, 2, none⟩ = some (.int .i64 0) := (blk_cell BK109.out 2).trans rfl
      have hcz16_3 : w8.cell? ⟨gb109, 3, none⟩ = some (.int .i64 0) := (blk_cell BK109.out 3).trans rfl
      have hfz16_0 := blk_frozen BK109.out 0
      have hfz16_1 := blk_frozen BK109.out 1
      have hfz16_2 := blk_frozen BK109.out 2
      have hfz16_3 := blk_frozen BK109.out 3
      obtain ⟨Ao17, co17, eo17⟩ := Kd.R_slice HO104.out
      subst eo17
      have p110 : 0 ≤ (0 : Int) := (by omega)
      have q110 : 0 < (t102.length : Int) := of_decide_eq_true (by first | (with_reducible assumption) | assumption)
      obtain ⟨ad110, e110, hx110_0, hx110_1, hx110_2, hx110_3, hx110_4, hx110_5, hx110_6⟩ := at_T35 (Kd.R_reads' HO104.out).2.2 0 p110 q110
      cases e110
      have qi110 : (0 < t102.length) = True := eq_true (by omega)
      (try rw [show ((0 : Int)).toNat = 0 from rfl] at hx110_0)
      (try rw [show 0 * 7 = 0 from rfl] at hx110_0)
      (try rw [Addr.add_zero'] at hx110_0)
      (try rw [show ((0 : Int)).toNat = 0 from rfl] at hx110_1)
      (try rw [show 0 * 7 = 0 from rfl] at hx110_1)
      (try rw [Addr.add_zero'] at hx110_1)
      (try rw [show ((0 : Int)).toNat = 0 from rfl] at hx110_2)
      (try rw [show 0 * 7 = 0 from rfl] at hx110_2)
      (try rw [Addr.add_zero'] at hx110_2)
      (try rw [show ((0 : Int)).toNat = 0 from rfl] at hx110_3)
      (try rw [show 0 * 7 = 0 from rfl] at hx110_3)
      (try rw [Addr.add_zero'] at hx110_3)
      (try rw [show ((0 : Int)).toNat = 0 from rfl] at hx110_4)
      (try rw [show 0 * 7 = 0 from rfl] at hx110_4)
      (try rw [Addr.add_zero'] at hx110_4)
      (try rw [show ((0 : Int)).toNat = 0 from rfl] at hx110_5)
      (try rw [show 0 * 7 = 0 from rfl] at hx110_5)
      (try rw [Addr.add_zero'] at hx110_5)
      (try rw [show ((0 : Int)).toNat = 0 from rfl] at hx110_6)
      (try rw [show 0 * 7 = 0 from rfl] at hx110_6)
      (try rw [Addr.add_zero'] at hx110_6)
      have hn110_0 : ad110.block ≠ gb109 := Kd.own_blk (Kd.R_ne HO104.out BK109.out (by decide))
      have hn110_1 : ad110.block ≠ gb109 := Kd.own_blk (Kd.R_ne HO104.out BK109.out (by decide))
      have hn110_2 : ad110.block ≠ gb109 := Kd.own_blk (Kd.R_ne HO104.out BK109.out (by decide))
      have hn110_3 : ad110.block ≠ gb109 := Kd.own_blk (Kd.R_ne HO104.out BK109.out (by decide))
      replace hx110_0 := (cell_far (p := ⟨gb109, 0, none⟩) (by first | (rw [add_block]; exact hn110_0) | (show (Addr.add _ _).block ≠ _; rw [add_block]; exact hn110_0) | exact hn110_0) (.int .i64 t105)).trans hx110_0
      replace hx110_1 := (cell_far (p := ⟨gb109, 0, none⟩) (by first | (rw [add_block]; exact hn110_0) | (show (Addr.add _ _).block ≠ _; rw [add_block]; exact hn110_0) | exact hn110_0) (.int .i64 t105)).trans hx110_1
      replace hx110_2 := (cell_far (p := ⟨gb109, 0, none⟩) (by first | (rw [add_block]; exact hn110_0) | (show (Addr.add _ _).block ≠ _; rw [add_block]; exact hn110_0) | exact hn110_0) (.int .i64 t105)).trans hx110_2
      replace hx110_3 := (cell_far (p := ⟨gb109, 0, none⟩) (by first | (rw [add_block]; exact hn110_0) | (show (Addr.add _ _).block ≠ _; rw [add_block]; exact hn110_0) | exact hn110_0) (.int .i64 t105)).trans hx110_3
      replace hx110_4 := (cell_far (p := ⟨gb109, 0, none⟩) (by first | (rw [add_block]; exact hn110_0) | (show (Addr.add _ _).block ≠ _; rw [add_block]; exact hn110_0) | exact hn110_0) (.int .i64 t105)).trans hx110_4
      replace hx110_5 := (cell_far (p := ⟨gb109, 0, none⟩) (by first | (rw [add_block]; exact hn110_0) | (show (Addr.add _ _).block ≠ _; rw [add_block]; exact hn110_0) | exact hn110_0) (.int .i64 t105)).trans hx110_5
      replace hx110_6 := (cell_far (p := ⟨gb109, 0, none⟩) (by first | (rw [add_block]; exact hn110_0) | (show (Addr.add _ _).block ≠ _; rw [add_block]; exact hn110_0) | exact hn110_0) (.int .i64 t105)).trans hx110_6
      replace hx110_0 := (cell_far (p := ⟨gb109, 1, none⟩) (by first | (rw [add_block]; exact hn110_1) | (show (Addr.add _ _).block ≠ _; rw [add_block]; exact hn110_1) | exact hn110_1) (.int .i64 t106)).trans hx110_0
      replace hx110_1 := (cell_far (p := ⟨gb109, 1, none⟩) (by first | (rw [add_block]; exact hn110_1) | (show (Addr.add _ _).block ≠ _; rw [add_block]; exact hn110_1) | exact hn110_1) (.int .i64 t106)).trans hx110_1
      replace hx110_2 := (cell_far (p := ⟨gb109, 1, none⟩) (by first | (rw [add_block]; exact hn110_1) | (show (Addr.add _ _).block ≠ _; rw [add_block]; exact hn110_1) | exact hn110_1) (.int .i64 t106)).trans hx110_2
      replace hx110_3 := (cell_far (p := ⟨gb109, 1, none⟩) (by first | (rw [add_block]; exact hn110_1) | (show (Addr.add _ _).block ≠ _; rw [add_block]; exact hn110_1) | exact hn110_1) (.int .i64 t106)).trans hx110_3
      replace hx110_4 := (cell_far (p := ⟨gb109, 1, none⟩) (by first | (rw [add_block]; exact hn110_1) | (show (Addr.add _ _).block ≠ _; rw [add_block]; exact hn110_1) | exact hn110_1) (.int .i64 t106)).trans hx110_4
      replace hx110_5 := (cell_far (p := ⟨gb109, 1, none⟩) (by first | (rw [add_block]; exact hn110_1) | (show (Addr.add _ _).block ≠ _; rw [add_block]; exact hn110_1) | exact hn110_1) (.int .i64 t106)).trans hx110_5
      replace hx110_6 := (cell_far (p := ⟨gb109, 1, none⟩) (by first | (rw [add_block]; exact hn110_1) | (show (Addr.add _ _).block ≠ _; rw [add_block]; exact hn110_1) | exact hn110_1) (.int .i64 t106)).trans hx110_6
      replace hx110_0 := (cell_far (p := ⟨gb109, 2, none⟩) (by first | (rw [add_block]; exact hn110_2) | (show (Addr.add _ _).block ≠ _; rw [add_block]; exact hn110_2) | exact hn110_2) (.int .i64 t107)).trans hx110_0
      replace hx110_1 := (cell_far (p := ⟨gb109, 2, none⟩) (by first | (rw [add_block]; exact hn110_2) | (show (Addr.add _ _).block ≠ _; rw [add_block]; exact hn110_2) | exact hn110_2) (.int .i64 t107)).trans hx110_1
      replace hx110_2 := (cell_far (p := ⟨gb109, 2, none⟩) (by first | (rw [add_block]; exact hn110_2) | (show (Addr.add _ _).block ≠ _; rw [add_block]; exact hn110_2) | exact hn110_2) (.int .i64 t107)).trans hx110_2
      replace hx110_3 := (cell_far (p := ⟨gb109, 2, none⟩) (by first | (rw [add_block]; exact hn110_2) | (show (Addr.add _ _).block ≠ _; rw [add_block]; exact hn110_2) | exact hn110_2) (.int .i64 t107)).trans hx110_3
      replace hx110_4 := (cell_far (p := ⟨gb109, 2, none⟩) (by first | (rw [add_block]; exact hn110_2) | (show (Addr.add _ _).block ≠ _; rw [add_block]; exact hn110_2) | exact hn110_2) (.int .i64 t107)).trans hx110_4
      replace hx110_5 := (cell_far (p := ⟨gb109, 2, none⟩) (by first | (rw [add_block]; exact hn110_2) | (show (Addr.add _ _).block ≠ _; rw [add_block]; exact hn110_2) | exact hn110_2) (.int .i64 t107)).trans hx110_5
      replace hx110_6 := (cell_far (p := ⟨gb109, 2, none⟩) (by first | (rw [add_block]; exact hn110_2) | (show (Addr.add _ _).block ≠ _; rw [add_block]; exact hn110_2) | exact hn110_2) (.int .i64 t107)).trans hx110_6
      replace hx110_0 := (cell_far (p := ⟨gb109, 3, none⟩) (by first | (rw [add_block]; exact hn110_3) | (show (Addr.add _ _).block ≠ _; rw [add_block]; exact hn110_3) | exact hn110_3) (.int .i64 t108)).trans hx110_0
      replace hx110_1 := (cell_far (p := ⟨gb109, 3, none⟩) (by first | (rw [add_block]; exact hn110_3) | (show (Addr.add _ _).block ≠ _; rw [add_block]; exact hn110_3) | exact hn110_3) (.int .i64 t108)).trans hx110_1
      replace hx110_2 := (cell_far (p := ⟨gb109, 3, none⟩) (by first | (rw [add_block]; exact hn110_3) | (show (Addr.add _ _).block ≠ _; rw [add_block]; exact hn110_3) | exact hn110_3) (.int .i64 t108)).trans hx110_2
      replace hx110_3 := (cell_far (p := ⟨gb109, 3, none⟩) (by first | (rw [add_block]; exact hn110_3) | (show (Addr.add _ _).block ≠ _; rw [add_block]; exact hn110_3) | exact hn110_3) (.int .i64 t108)).trans hx110_3
      replace hx110_4 := (cell_far (p := ⟨gb109, 3, none⟩) (by first | (rw [add_block]; exact hn110_3) | (show (Addr.add _ _).block ≠ _; rw [add_block]; exact hn110_3) | exact hn110_3) (.int .i64 t108)).trans hx110_4
      replace hx110_5 := (cell_far (p := ⟨gb109, 3, none⟩) (by first | (rw [add_block]; exact hn110_3) | (show (Addr.add _ _).block ≠ _; rw [add_block]; exact hn110_3) | exact hn110_3) (.int .i64 t108)).trans hx110_5
      replace hx110_6 := (cell_far (p := ⟨gb109, 3, none⟩) (by first | (rw [add_block]; exact hn110_3) | (show (Addr.add _ _).block ≠ _; rw [add_block]; exact hn110_3) | exact hn110_3) (.int .i64 t108)).trans hx110_6
      clear hn110_0
      clear hn110_1
      clear hn110_2
      clear hn110_3
      replace p110 := eq_true p110
      replace q110 := eq_true q110
      go_wp2
      go_meet
      case rel => exact ⟨_, (true), (by first | rfl | (simp; done) | (simp [*]; done)), H', ⟨by first | omega | exact Nat.le_refl _⟩, ⟨by (with_reducible repeat (first | refine blk_drewN ?_ _ | refine blk_drew ?_ | refine blk_alloc ?_ _)); refine blk_put (cs := #[.int .i64 t105, .int .i64 t106, .int .i64 t107, .int .i64 0]) ?_ 3 _ rfl; (with_reducible repeat (first | refine blk_drewN ?_ _ | refine blk_drew ?_ | refine blk_alloc ?_ _)); refine blk_put (cs := #[.int .i64 t105, .int .i64 t106, .int .i64 0, .int .i64 0]) ?_ 2 _ rfl; (with_reducible repeat (first | refine blk_drewN ?_ _ | refine blk_drew ?_ | refine blk_alloc ?_ _)); refine blk_put (cs := #[.int .i64 t105, .int .i64 0, .int .i64 0, .int .i64 0]) ?_ 1 _ rfl; (with_reducible repeat (first | refine blk_drewN ?_ _ | refine blk_drew ?_ | refine blk_alloc ?_ _)); refine blk_put (cs := #[.int .i64 0, .int .i64 0, .int .i64 0, .int .i64 0]) ?_ 0 _ rfl; (with_reducible repeat (first | refine blk_drewN ?_ _ | refine blk_drew ?_ | refine blk_alloc ?_ _)); exact BK109.out⟩, ⟨by repeat (first | (with_reducible first | exact HB.out | apply below_alloc | apply pw_below_drewN | apply below_drew1 | refine below_set ?_ GE109.out) | exact HB.out)⟩⟩
    ·rw [if_neg c12] at H
     exact absurd H (by simp)
   ·rw [if_neg c11] at H
    have c11b0 : ((t102.length : Int) == 2) = false := beq_eq_false_iff_ne.mpr c11
    have c11b1 : ((t102.length : Int) != 2) = true := bne_iff_ne.mpr c11
    have H' := Aside0.mk H
    clear H
    have hcz18_0 : w8.cell? ⟨gb109, 0, none⟩ = some (.int .i64 0) := (blk_cell BK109.out 0).trans rfl
    have hcz18_1 : w8.cell? ⟨gb109, 1, none⟩ = some (.int .i64 0) := (blk_cell BK109.out 1).trans rfl
    have hcz18_2 : w8.cell? ⟨gb109, 2, none⟩ = some (.int .i64 0) := (blk_cell BK109.out 2).trans rfl
    have hcz18_3 : w8.cell? ⟨gb109, 3, none⟩ = some (.int .i64 0) := (blk_cell BK109.out 3).trans rfl
    have hfz18_0 := blk_frozen BK109.out 0
    have hfz18_1 := blk_frozen BK109.out 1
    have hfz18_2 := blk_frozen BK109.out 2
    have hfz18_3 := blk_frozen BK109.out 3
    obtain ⟨Ao19, co19, eo19⟩ := Kd.R_slice HO104.out
    subst eo19
    go_wp2
    go_meet
    case rel => exact ⟨_, (true), (by first | rfl | (simp; done) | (simp [*]; done)), H', ⟨by first | omega | exact Nat.le_refl _⟩, ⟨by (with_reducible repeat (first | refine blk_drewN ?_ _ | refine blk_drew ?_ | refine blk_alloc ?_ _)); refine blk_put (cs := #[.int .i64 t105, .int .i64 t106, .int .i64 t107, .int .i64 0]) ?_ 3 _ rfl; (with_reducible repeat (first | refine blk_drewN ?_ _ | refine blk_drew ?_ | refine blk_alloc ?_ _)); refine blk_put (cs := #[.int .i64 t105, .int .i64 t106, .int .i64 0, .int .i64 0]) ?_ 2 _ rfl; (with_reducible repeat (first | refine blk_drewN ?_ _ | refine blk_drew ?_ | refine blk_alloc ?_ _)); refine blk_put (cs := #[.int .i64 t105, .int .i64 0, .int .i64 0, .int .i64 0]) ?_ 1 _ rfl; (with_reducible repeat (first | refine blk_drewN ?_ _ | refine blk_drew ?_ | refine blk_alloc ?_ _)); refine blk_put (cs := #[.int .i64 0, .int .i64 0, .int .i64 0, .int .i64 0]) ?_ 0 _ rfl; (with_reducible repeat (first | refine blk_drewN ?_ _ | refine blk_drew ?_ | refine blk_alloc ?_ _)); exact BK109.out⟩, ⟨by repeat (first | (with_reducible first | exact HB.out | apply below_alloc | apply pw_below_drewN | apply below_drew1 | refine below_set ?_ GE109.out) | exact HB.out)⟩⟩
  ·rw [if_neg c10] at H
   have c10b0 : (t105 == 0) = false := beq_eq_false_iff_ne.mpr c10
   have c10b1 : (t105 != 0) = true := bne_iff_ne.mpr c10
   (first | rw [c10b0] | (simp only [i64_w, i32_w]; rw [c10b0]) | skip)
   have H' := Aside0.mk H
   clear H
   have hcz20_0 : w8.cell? ⟨gb109, 0, none⟩ = some (.int .i64 0) := (blk_cell BK109.out 0).trans rfl
   have hcz20_1 : w8.cell? ⟨gb109, 1, none⟩ = some (.int .i64 0) := (blk_cell BK109.out 1).trans rfl
   have hcz20_2 : w8.cell? ⟨gb109, 2, none⟩ = some (.int .i64 0) := (blk_cell BK109.out 2).trans rfl
   have hcz20_3 : w8.cell? ⟨gb109, 3, none⟩ = some (.int .i64 0) := (blk_cell BK109.out 3).trans rfl
   have hfz20_0 := blk_frozen BK109.out 0
   have hfz20_1 := blk_frozen BK109.out 1
   have hfz20_2 := blk_frozen BK109.out 2
   have hfz20_3 := blk_frozen BK109.out 3
   go_wp2
   go_meet
   case rel => exact ⟨_, (true), (by first | rfl | (simp; done) | (simp [*]; done)), H', ⟨by first | omega | exact Nat.le_refl _⟩, ⟨by (with_reducible repeat (first | refine blk_drewN ?_ _ | refine blk_drew ?_ | refine blk_alloc ?_ _)); refine blk_put (cs := #[.int .i64 t105, .int .i64 t106, .int .i64 t107, .int .i64 0]) ?_ 3 _ rfl; (with_reducible repeat (first | refine blk_drewN ?_ _ | refine blk_drew ?_ | refine blk_alloc ?_ _)); refine blk_put (cs := #[.int .i64 t105, .int .i64 t106, .int .i64 0, .int .i64 0]) ?_ 2 _ rfl; (with_reducible repeat (first | refine blk_drewN ?_ _ | refine blk_drew ?_ | refine blk_alloc ?_ _)); refine blk_put (cs := #[.int .i64 t105, .int .i64 0, .int .i64 0, .int .i64 0]) ?_ 1 _ rfl; (with_reducible repeat (first | refine blk_drewN ?_ _ | refine blk_drew ?_ | refine blk_alloc ?_ _)); refine blk_put (cs := #[.int .i64 0, .int .i64 0, .int .i64 0, .int .i64 0]) ?_ 0 _ rfl; (with_reducible repeat (first | refine blk_drewN ?_ _ | refine blk_drew ?_ | refine blk_alloc ?_ _)); exact BK109.out⟩, ⟨by repeat (first | (with_reducible first | exact HB.out | apply below_alloc | apply pw_below_drewN | apply below_drew1 | refine below_set ?_ GE109.out) | exact HB.out)⟩⟩
 case rest =>
  clear HC5
  try clear c1
  try clear p1
  try clear q1
  try clear hx1
  try clear qi1
  try clear p2
  try clear c4
  try clear p6
  try clear c8
  try clear c10
  try clear c10b0
  try clear c10b1
  try clear c11
  try clear c11b0
  try clear c11b1
  try clear p11
  try clear q11
  try clear hx11
  try clear qi11
  try clear c12
  try clear c12b0
  try clear c12b1
  try clear c13
  try clear c13b0
  try clear c13b1
  try clear hcz14_0
  try clear hcz14_1
  try clear hcz14_2
  try clear hcz14_3
  try clear hcz16_0
  try clear hcz16_1
  try clear hcz16_2
  try clear hcz16_3
  try clear hcz18_0
  try clear hcz18_1
  try clear hcz18_2
  try clear hcz18_3
  try clear hcz20_0
  try clear hcz20_1
  try clear hcz20_2
  try clear hcz20_3
  try clear hcz9_0
  try clear hcz9_1
  try clear hcz9_2
  try clear hcz9_3
  try clear hfz14_0
  try clear hfz14_1
  try clear hfz14_2
  try clear hfz14_3
  try clear hfz16_0
  try clear hfz16_1
  try clear hfz16_2
  try clear hfz16_3
  try clear hfz18_0
  try clear hfz18_1
  try clear hfz18_2
  try clear hfz18_3
  try clear hfz20_0
  try clear hfz20_1
  try clear hfz20_2
  try clear hfz20_3
  try clear hfz9_0
  try clear hfz9_1
  try clear hfz9_2
  try clear hfz9_3
  try clear hx110_0
  try clear hx110_1
  try clear hx110_2
  try clear hx110_3
  try clear hx110_4
  try clear hx110_5
  try clear hx110_6
  try clear hx111_0
  try clear hx111_1
  try clear hx111_2
  try clear hx111_3
  try clear hx111_4
  try clear hx111_5
  try clear hx111_6
  try clear p110
  try clear p111
  try clear q110
  try clear q111
  obtain ⟨kq, x41_4, rfl, HA, HJ4, BK109, HB⟩ := hcut
  cases kq with
  | zero => exact absurd HA.out (by simp [pantographlaw06_LexCeeChars.j0])
  | succ kj4 =>
   have H := HA.out
   clear HA
   simp only [pantographlaw06_LexCeeChars.j0] at H
   by_cases c21 : x41_4 = true
   ·subst c21
    have H1 : (some false) = some r := by rw [if_pos rfl] at H; exact H
    clear H
    have H := H1
    clear H1
    obtain rfl := Option.some.inj H
    go_wp2
    go_ret
    exact ⟨by first | rfl | (simp [errW_none, errW_some] <;> rfl) | (simp [*, errW_none, errW_some] <;> rfl), by repeat (first | (with_reducible first | exact HB.out | apply below_alloc | apply pw_below_drewN | apply below_drew1 | refine below_set ?_ GE109.out) | exact HB.out)⟩
   ·replace c21 := Bool.eq_false_iff.mpr c21
    subst c21
    have H1 : (if (a1.size : Int) > 3000 then ((pantographlaw06_awake.f).bind fun t112 => (some t112)) else (if t101.size + 1 ≤ 9223372036854775807 then (if t101.size + (⟨#[32]⟩ : ByteArray).size + a1.size ≤ 9223372036854775807 then ((lexcee_All.f ((t101 ++ (⟨#[32]⟩ : ByteArray)) ++ a1)).bind fun bt113 => (if bt113.2.1 = 0 then (if (bt113.1.length : Int) > 1 then (if 0 < (bt113.1.length : Int) then (if ((rd_T35 bt113.1 0).f2) = (wrap64 (a0)) then ((pantographlaw06_awake.f).bind fun t122 => (some t122)) else (some false)) else (none)) else (some false)) else ((pantographlaw06_awake.f).bind fun t123 => (some t123)))) else (none)) else (none))) = some r := by rw [if_neg (show ¬ (false = true) by decide)] at H; exact H
    clear H
    have H := H1
    clear H1
    by_cases c22 : (a1.size : Int) > 3000
    ·rw [if_pos c22] at H
     have c22b0 : decide (3000 < (a1.size : Int)) = true := decide_eq_true c22
     have c22b1 : decide (3000 < a1.size) = true := decide_eq_true (by omega)
     clear c22
     replace H := Option.bind_eq_some_iff.mp H
     obtain ⟨t112, A230, H⟩ := H
     replace H : (some t112) = some r := H
     have A23 := Aside0.mk A230
     clear A230
     obtain rfl := Option.some.inj H
     go_wp2_with (first | ((with_reducible refine gate_callee (f := 7) rfl ?_); refine goesL_ (some 45) rfl rfl Tryd.func7 (by kernel_rfl) rfl #[] rfl (by (try simp only [List.map_toArray, List.map_cons, List.map_nil]); first | done | rfl | (simp only [List.length_drop, List.length_take]; rfl)) ?_; (with_reducible refine (pantographlaw06_awake.calls  t112 _ ?side1 A23.out).mono ?_); (case side1 => exact tabW_below HT.out (by repeat (first | (with_reducible first | exact HB.out | apply below_alloc | apply pw_below_drewN | apply below_drew1 | refine below_set ?_ GE109.out) | exact HB.out))); rintro e w24 ⟨rfl, hb⟩; refine ⟨_, rfl, ?_⟩; have n0_ := Aside0.mk (blk_below (g := gb109) (o := .cells #[.int .i64 t105, .int .i64 t106, .int .i64 t107, .int .i64 t108] 29 (0, 0)) (by (with_reducible repeat (first | refine blk_drewN ?_ _ | refine blk_drew ?_ | refine blk_alloc ?_ _)); exact BK109.out) hb); have n1_ := Aside0.mk (below_step (by repeat (first | (with_reducible first | exact HB.out | apply below_alloc | apply pw_below_drewN | apply below_drew1 | refine below_set ?_ GE109.out) | exact HB.out)) hb); clear BK109; clear HB; have BK109 := n0_; have HB := n1_; clear n0_ n1_; (try clear hb); (try clear hb2); (try clear hk); (try clear hi)))
     go_ret
     exact ⟨by first | rfl | (simp [errW_none, errW_some] <;> rfl) | (simp [*, errW_none, errW_some] <;> rfl), by repeat (first | (with_reducible first | exact HB.out | apply below_alloc | apply pw_below_drewN | apply below_drew1 | refine below_set ?_ GE109.out) | exact HB.out)⟩
    ·rw [if_neg c22] at H
     have c22b0 : decide (3000 < (a1.size : Int)) = false := decide_eq_false c22
     have c22b1 : decide (3000 < a1.size) = false := decide_eq_false (by omega)
     clear c22
     by_cases c25 : t101.size + 1 ≤ 9223372036854775807
     ·rw [if_pos c25] at H
      have c25b0 := eq_true c25
      have c25b1 : decide (t101.size + 1 ≤ 9223372036854775807) = true := decide_eq_true c25
      try have c25b2 : (9223372036854775807 < t101.size + 1) = False := eq_false (Nat.not_lt.2 c25)
      by_cases c26 : t101.size + (⟨#[32]⟩ : ByteArray).size + a1.size ≤ 9223372036854775807
      ·rw [if_pos c26] at H
       have c26b0 := eq_true c26
       have c26b1 : decide (t101.size + (⟨#[32]⟩ : ByteArray).size + a1.size ≤ 9223372036854775807) = true := decide_eq_true c26
       try have c26b2 : (9223372036854775807 < t101.size + (⟨#[32]⟩ : ByteArray).size + a1.size) = False := eq_false (Nat.not_lt.2 c26)
       have c26b4 : (9223372036854775807 < t101.size + 1 + a1.size) = False := c26b2
       replace H := Option.bind_eq_some_iff.mp H
       obtain ⟨⟨t113, t116, t117, t118, t119⟩, A270, H⟩ := H
       replace H : (if t116 = 0 then (if (t113.length : Int) > 1 then (if 0 < (t113.length : Int) then (if ((rd_T35 t113 0).f2) = (wrap64 (a0)) then ((pantographlaw06_awake.f).bind fun t122 => (some t122)) else (some false)) else (none)) else (some false)) else ((pantographlaw06_awake.f).bind fun t123 => (some t123))) = some r := H
       have A27 := Aside0.mk A270
       clear A270
       by_cases c28 : t116 = 0
       ·rw [if_pos c28] at H
        have c28b0 : (t116 == 0) = true := beq_iff_eq.mpr c28
        have c28b1 : (t116 != 0) = false := bne_eq_false_iff_eq.mpr c28
        clear c28
        by_cases c29 : (t113.length : Int) > 1
        ·rw [if_pos c29] at H
         have c29b0 : decide (1 < (t113.length : Int)) = true := decide_eq_true c29
         have c29b1 : decide (1 < t113.length) = true := decide_eq_true (by omega)
         clear c29
         by_cases c30 : 0 < (t113.length : Int)
         ·rw [if_pos c30] at H
          have c30b0 : decide (0 < (t113.length : Int)) = true := decide_eq_true c30
          have c30b1 : decide (0 < t113.length) = true := decide_eq_true (by omega)
          clear c30
          by_cases c31 : ((rd_T35 t113 0).f2) = (wrap64 (a0))
          ·rw [if_pos c31] at H
           have c31b0 : (((rd_T35 t113 0).f2) == (wrap64 (a0))) = true := beq_iff_eq.mpr c31
           have c31b1 : (((rd_T35 t113 0).f2) != (wrap64 (a0))) = false := bne_eq_false_iff_eq.mpr c31
           clear c31
           replace H := Option.bind_eq_some_iff.mp H
           obtain ⟨t122, A320, H⟩ := H
           replace H : (some t122) = some r := H
           have A32 := Aside0.mk A320
           clear A320
           obtain rfl := Option.some.inj H
           go_wp2_with (first | ((with_reducible refine gate_callee (f := 8) rfl ?_); refine goesL_ (some 51) rfl rfl Tryd.func8 (by kernel_rfl) rfl #[.string ((t101 ++ (⟨#[32]⟩ : ByteArray)) ++ a1)] rfl (by (try simp only [List.map_toArray, List.map_cons, List.map_nil]); first | done | rfl | (simp only [List.length_drop, List.length_take]; rfl)) ?_; (with_reducible refine (lexcee_All.calls ((t101 ++ (⟨#[32]⟩ : ByteArray)) ++ a1) t113 t116 t117 t118 t119 _ ?side1 A27.out).mono ?_); (case side1 => exact tabW_below HT.out (by repeat (first | (with_reducible first | exact HB.out | apply below_alloc | apply pw_below_drewN | apply below_drew1 | refine below_set ?_ GE109.out) | exact HB.out))); rintro e w33 ⟨v114, rfl, ho0, hb⟩; refine ⟨_, rfl, ?_⟩; have n0_ := Aside0.mk (Kd.R_lower ho0 (below_size (by repeat (first | (with_reducible first | exact HB.out | apply below_alloc | apply pw_below_drewN | apply below_drew1 | refine below_set ?_ GE109.out) | exact HB.out)))); have n1_ := Aside0.mk (blk_below (g := gb109) (o := .cells #[.int .i64 t105, .int .i64 t106, .int .i64 t107, .int .i64 t108] 29 (0, 0)) (by (with_reducible repeat (first | refine blk_drewN ?_ _ | refine blk_drew ?_ | refine blk_alloc ?_ _)); exact BK109.out) hb); have n2_ := Aside0.mk (below_step (by repeat (first | (with_reducible first | exact HB.out | apply below_alloc | apply pw_below_drewN | apply below_drew1 | refine below_set ?_ GE109.out) | exact HB.out)) hb); clear BK109; clear HB; have HO115 := n0_; have BK109 := n1_; have HB := n2_; clear n0_ n1_ n2_; (try clear hb); (try clear hb2); (try clear hk); (try clear hi); (try clear ho0)) | ((with_reducible refine gate_dst (N := 9) rfl ?_); (try (refine gate_guard (by rfl) ?_; dsimp only)); refine box_event ?hg (N := 9) ?hd (cs := #[.int .i64 0, .int .i64 0, .int .i64 0, .int .i64 0]) (t := 29) ?hr ?_; (case hd => rfl); (case hg => rfl); (case hr => first | (go_simp; done) | (go_simp; rfl)); intro gb120 hg w34 hbox hb; have n0_ := Aside0.mk (Kd.R_below (by (with_reducible repeat (first | apply Kd.R_alloc | apply Kd.R_drewN | apply Kd.R_drew)); exact HO115.out) hb); have n1_ := Aside0.mk (blk_below (g := gb109) (o := .cells #[.int .i64 t105, .int .i64 t106, .int .i64 t107, .int .i64 t108] 29 (0, 0)) (by (with_reducible repeat (first | refine blk_drewN ?_ _ | refine blk_drew ?_ | refine blk_alloc ?_ _)); exact BK109.out) hb); have n2_ := Aside0.mk (below_step (by repeat (first | (with_reducible first | exact HB.out | apply below_alloc | apply pw_below_drewN | apply below_drew1 | refine below_set ?_ GE109.out) | exact HB.out)) hb); have n3_ := Aside0.mk (hbox); have n4_ := Aside0.mk ((by rw [hg]; exact (below_size (by repeat (first | (with_reducible first | exact HB.out | apply below_alloc | apply pw_below_drewN | apply below_drew1 | refine below_set ?_ GE109.out) | exact HB.out))) : w.heap.size ≤ gb120)); have n5_ := Aside0.mk ((by rw [hg]; exact (below_size (by repeat (first | (with_reducible first | exact HB.out | apply below_alloc | apply pw_below_drewN | apply below_drew1 | refine below_set ?_ GE109.out) | exact HB.out))) : w.heap.size ≤ gb120)); have n6_ := Aside0.mk ((by rw [hg]; exact Nat.ne_of_lt (blk_lt (g := gb109) (o := .cells #[.int .i64 t105, .int .i64 t106, .int .i64 t107, .int .i64 t108] 29 (0, 0)) (by (with_reducible repeat (first | refine blk_drewN ?_ _ | refine blk_drew ?_ | refine blk_alloc ?_ _)); exact BK109.out)) : gb109 ≠ gb120)); have n7_ := Aside0.mk ((by rw [hg]; exact Nat.ne_of_gt (blk_lt (g := gb109) (o := .cells #[.int .i64 t105, .int .i64 t106, .int .i64 t107, .int .i64 t108] 29 (0, 0)) (by (with_reducible repeat (first | refine blk_drewN ?_ _ | refine blk_drew ?_ | refine blk_alloc ?_ _)); exact BK109.out)) : gb120 ≠ gb109)); clear HO115; clear BK109; clear HB; have HO115 := n0_; have BK109 := n1_; have HB := n2_; have BK120 := n3_; have GW120 := n4_; have GE120 := n5_; have NB109_120 := n6_; have NB120_109 := n7_; clear n0_ n1_ n2_ n3_ n4_ n5_ n6_ n7_; clear hb hbox hg; have hnb35 := NB120_109.out; have hnc35 := NB109_120.out; have hcz36_0 : w34.cell? ⟨gb120, 0, none⟩ = some (.int .i64 0) := (blk_cell BK120.out 0).trans rfl; have hcz36_1 : w34.cell? ⟨gb120, 1, none⟩ = some (.int .i64 0) := (blk_cell BK120.out 1).trans rfl; have hcz36_2 : w34.cell? ⟨gb120, 2, none⟩ = some (.int .i64 0) := (blk_cell BK120.out 2).trans rfl; have hcz36_3 : w34.cell? ⟨gb120, 3, none⟩ = some (.int .i64 0) := (blk_cell BK120.out 3).trans rfl; have hfz36_0 := blk_frozen BK120.out 0; have hfz36_1 := blk_frozen BK120.out 1; have hfz36_2 := blk_frozen BK120.out 2; have hfz36_3 := blk_frozen BK120.out 3; obtain ⟨Ao37, co37, eo37⟩ := Kd.R_slice HO115.out; subst eo37; have p121 : 0 ≤ (0 : Int) := (by omega); have q121 : 0 < (t113.length : Int) := of_decide_eq_true (by first | (with_reducible assumption) | assumption); obtain ⟨ad121, e121, hx121_0, hx121_1, hx121_2, hx121_3, hx121_4, hx121_5, hx121_6⟩ := at_T35 (Kd.R_reads' HO115.out).2.2 0 p121 q121; cases e121; have qi121 : (0 < t113.length) = True := eq_true (by omega); (try rw [show ((0 : Int)).toNat = 0 from rfl] at hx121_0); (try rw [show 0 * 7 = 0 from rfl] at hx121_0); (try rw [Addr.add_zero'] at hx121_0); (try rw [show ((0 : Int)).toNat = 0 from rfl] at hx121_1); (try rw [show 0 * 7 = 0 from rfl] at hx121_1); (try rw [Addr.add_zero'] at hx121_1); (try rw [show ((0 : Int)).toNat = 0 from rfl] at hx121_2); (try rw [show 0 * 7 = 0 from rfl] at hx121_2); (try rw [Addr.add_zero'] at hx121_2); (try rw [show ((0 : Int)).toNat = 0 from rfl] at hx121_3); (try rw [show 0 * 7 = 0 from rfl] at hx121_3); (try rw [Addr.add_zero'] at hx121_3); (try rw [show ((0 : Int)).toNat = 0 from rfl] at hx121_4); (try rw [show 0 * 7 = 0 from rfl] at hx121_4); (try rw [Addr.add_zero'] at hx121_4); (try rw [show ((0 : Int)).toNat = 0 from rfl] at hx121_5); (try rw [show 0 * 7 = 0 from rfl] at hx121_5); (try rw [Addr.add_zero'] at hx121_5); (try rw [show ((0 : Int)).toNat = 0 from rfl] at hx121_6); (try rw [show 0 * 7 = 0 from rfl] at hx121_6); (try rw [Addr.add_zero'] at hx121_6); have hn121_0 : ad121.block ≠ gb120 := Kd.own_blk (Kd.R_ne HO115.out BK120.out (by decide)); have hn121_1 : ad121.block ≠ gb120 := Kd.own_blk (Kd.R_ne HO115.out BK120.out (by decide)); have hn121_2 : ad121.block ≠ gb120 := Kd.own_blk (Kd.R_ne HO115.out BK120.out (by decide)); have hn121_3 : ad121.block ≠ gb120 := Kd.own_blk (Kd.R_ne HO115.out BK120.out (by decide)); replace hx121_0 := (cell_far (p := ⟨gb120, 0, none⟩) (by first | (rw [add_block]; exact hn121_0) | (show (Addr.add _ _).block ≠ _; rw [add_block]; exact hn121_0) | exact hn121_0) (.int .i64 t116)).trans hx121_0; replace hx121_1 := (cell_far (p := ⟨gb120, 0, none⟩) (by first | (rw [add_block]; exact hn121_0) | (show (Addr.add _ _).block ≠ _; rw [add_block]; exact hn121_0) | exact hn121_0) (.int .i64 t116)).trans hx121_1; replace hx121_2 := (cell_far (p := ⟨gb120, 0, none⟩) (by first | (rw [add_block]; exact hn121_0) | (show (Addr.add _ _).block ≠ _; rw [add_block]; exact hn121_0) | exact hn121_0) (.int .i64 t116)).trans hx121_2; replace hx121_3 := (cell_far (p := ⟨gb120, 0, none⟩) (by first | (rw [add_block]; exact hn121_0) | (show (Addr.add _ _).block ≠ _; rw [add_block]; exact hn121_0) | exact hn121_0) (.int .i64 t116)).trans hx121_3; replace hx121_4 := (cell_far (p := ⟨gb120, 0, none⟩) (by first | (rw [add_block]; exact hn121_0) | (show (Addr.add _ _).block ≠ _; rw [add_block]; exact hn121_0) | exact hn121_0) (.int .i64 t116)).trans hx121_4; replace hx121_5 := (cell_far (p := ⟨gb120, 0, none⟩) (by first | (rw [add_block]; exact hn121_0) | (show (Addr.add _ _).block ≠ _; rw [add_block]; exact hn121_0) | exact hn121_0) (.int .i64 t116)).trans hx121_5; replace hx121_6 := (cell_far (p := ⟨gb120, 0, none⟩) (by first | (rw [add_block]; exact hn121_0) | (show (Addr.add _ _).block ≠ _; rw [add_block]; exact hn121_0) | exact hn121_0) (.int .i64 t116)).trans hx121_6; replace hx121_0 := (cell_far (p := ⟨gb120, 1, none⟩) (by first | (rw [add_block]; exact hn121_1) | (show (Addr.add _ _).block ≠ _; rw [add_block]; exact hn121_1) | exact hn121_1) (.int .i64 t117)).trans hx121_0; replace hx121_1 := (cell_far (p := ⟨gb120, 1, none⟩) (by first | (rw [add_block]; exact hn121_1) | (show (Addr.add _ _).block ≠ _; rw [add_block]; exact hn121_1) | exact hn121_1) (.int .i64 t117)).trans hx121_1; replace hx121_2 := (cell_far (p := ⟨gb120, 1, none⟩) (by first | (rw [add_block]; exact hn121_1) | (show (Addr.add _ _).block ≠ _; rw [add_block]; exact hn121_1) | exact hn121_1) (.int .i64 t117)).trans hx121_2; replace hx121_3 := (cell_far (p := ⟨gb120, 1, none⟩) (by first | (rw [add_block]; exact hn121_1) | (show (Addr.add _ _).block ≠ _; rw [add_block]; exact hn121_1) | exact hn121_1) (.int .i64 t117)).trans hx121_3; replace hx121_4 := (cell_far (p := ⟨gb120, 1, none⟩) (by first | (rw [add_block]; exact hn121_1) | (show (Addr.add _ _).block ≠ _; rw [add_block]; exact hn121_1) | exact hn121_1) (.int .i64 t117)).trans hx121_4; replace hx121_5 := (cell_far (p := ⟨gb120, 1, none⟩) (by first | (rw [add_block]; exact hn121_1) | (show (Addr.add _ _).block ≠ _; rw [add_block]; exact hn121_1) | exact hn121_1) (.int .i64 t117)).trans hx121_5; replace hx121_6 := (cell_far (p := ⟨gb120, 1, none⟩) (by first | (rw [add_block]; exact hn121_1) | (show (Addr.add _ _).block ≠ _; rw [add_block]; exact hn121_1) | exact hn121_1) (.int .i64 t117)).trans hx121_6; replace hx121_0 := (cell_far (p := ⟨gb120, 2, none⟩) (by first | (rw [add_block]; exact hn121_2) | (show (Addr.add _ _).block ≠ _; rw [add_block]; exact hn121_2) | exact hn121_2) (.int .i64 t118)).trans hx121_0; replace hx121_1 := (cell_far (p := ⟨gb120, 2, none⟩) (by first | (rw [add_block]; exact hn121_2) | (show (Addr.add _ _).block ≠ _; rw [add_block]; exact hn121_2) | exact hn121_2) (.int .i64 t118)).trans hx121_1; replace hx121_2 := (cell_far (p := ⟨gb120, 2, none⟩) (by first | (rw [add_block]; exact hn121_2) | (show (Addr.add _ _).block ≠ _; rw [add_block]; exact hn121_2) | exact hn121_2) (.int .i64 t118)).trans hx121_2; replace hx121_3 := (cell_far (p := ⟨gb120, 2, none⟩) (by first | (rw [add_block]; exact hn121_2) | (show (Addr.add _ _).block ≠ _; rw [add_block]; exact hn121_2) | exact hn121_2) (.int .i64 t118)).trans hx121_3; replace hx121_4 := (cell_far (p := ⟨gb120, 2, none⟩) (by first | (rw [add_block]; exact hn121_2) | (show (Addr.add _ _).block ≠ _; rw [add_block]; exact hn121_2) | exact hn121_2) (.int .i64 t118)).trans hx121_4; replace hx121_5 := (cell_far (p := ⟨gb120, 2, none⟩) (by first | (rw [add_block]; exact hn121_2) | (show (Addr.add _ _).block ≠ _; rw [add_block]; exact hn121_2) | exact hn121_2) (.int .i64 t118)).trans hx121_5; replace hx121_6 := (cell_far (p := ⟨gb120, 2, none⟩) (by first | (rw [add_block]; exact hn121_2) | (show (Addr.add _ _).block ≠ _; rw [add_block]; exact hn121_2) | exact hn121_2) (.int .i64 t118)).trans hx121_6; replace hx121_0 := (cell_far (p := ⟨gb120, 3, none⟩) (by first | (rw [add_block]; exact hn121_3) | (show (Addr.add _ _).block ≠ _; rw [add_block]; exact hn121_3) | exact hn121_3) (.int .i64 t119)).trans hx121_0; replace hx121_1 := (cell_far (p := ⟨gb120, 3, none⟩) (by first | (rw [add_block]; exact hn121_3) | (show (Addr.add _ _).block ≠ _; rw [add_block]; exact hn121_3) | exact hn121_3) (.int .i64 t119)).trans hx121_1; replace hx121_2 := (cell_far (p := ⟨gb120, 3, none⟩) (by first | (rw [add_block]; exact hn121_3) | (show (Addr.add _ _).block ≠ _; rw [add_block]; exact hn121_3) | exact hn121_3) (.int .i64 t119)).trans hx121_2; replace hx121_3 := (cell_far (p := ⟨gb120, 3, none⟩) (by first | (rw [add_block]; exact hn121_3) | (show (Addr.add _ _).block ≠ _; rw [add_block]; exact hn121_3) | exact hn121_3) (.int .i64 t119)).trans hx121_3; replace hx121_4 := (cell_far (p := ⟨gb120, 3, none⟩) (by first | (rw [add_block]; exact hn121_3) | (show (Addr.add _ _).block ≠ _; rw [add_block]; exact hn121_3) | exact hn121_3) (.int .i64 t119)).trans hx121_4; replace hx121_5 := (cell_far (p := ⟨gb120, 3, none⟩) (by first | (rw [add_block]; exact hn121_3) | (show (Addr.add _ _).block ≠ _; rw [add_block]; exact hn121_3) | exact hn121_3) (.int .i64 t119)).trans hx121_5; replace hx121_6 := (cell_far (p := ⟨gb120, 3, none⟩) (by first | (rw [add_block]; exact hn121_3) | (show (Addr.add _ _).block ≠ _; rw [add_block]; exact hn121_3) | exact hn121_3) (.int .i64 t119)).trans hx121_6; clear hn121_0; clear hn121_1; clear hn121_2; clear hn121_3; replace p121 := eq_true p121; replace q121 := eq_true q121) | (go_at_call 7; (with_reducible refine (pantographlaw06_awake.calls  t122 _ ?side1 A32.out).mono ?_); (case side1 => exact tabW_below HT.out (by repeat (first | (with_reducible first | exact HB.out | apply below_alloc | apply pw_below_drewN | apply below_drew1 | refine below_set ?_ GE109.out | refine below_set ?_ GE120.out) | exact HB.out))); rintro e w38 ⟨rfl, hb⟩; have n0_ := Aside0.mk (Kd.R_below (by (with_reducible repeat (first | apply Kd.R_alloc | apply Kd.R_drewN | apply Kd.R_drew)); exact (Kd.R_mono (Kd.R_far (p := ⟨gb120, 3, none⟩) (Kd.R_far (p := ⟨gb120, 2, none⟩) (Kd.R_far (p := ⟨gb120, 1, none⟩) (Kd.R_far (p := ⟨gb120, 0, none⟩) (Kd.R_types HO115.out BK120.out (by decide)) (fun _ hk => hk.2) (.int .i64 t116)) (fun _ hk => hk.2) (.int .i64 t117)) (fun _ hk => hk.2) (.int .i64 t118)) (fun _ hk => hk.2) (.int .i64 t119)) (fun _ h_ => h_.1))) hb); have n1_ := Aside0.mk (blk_below (g := gb109) (o := .cells #[.int .i64 t105, .int .i64 t106, .int .i64 t107, .int .i64 t108] 29 (0, 0)) (by (with_reducible repeat (first | refine blk_drewN ?_ _ | refine blk_drew ?_ | refine blk_alloc ?_ _)); refine blk_far ?_ NB109_120.out _; (with_reducible repeat (first | refine blk_drewN ?_ _ | refine blk_drew ?_ | refine blk_alloc ?_ _)); refine blk_far ?_ NB109_120.out _; (with_reducible repeat (first | refine blk_drewN ?_ _ | refine blk_drew ?_ | refine blk_alloc ?_ _)); refine blk_far ?_ NB109_120.out _; (with_reducible repeat (first | refine blk_drewN ?_ _ | refine blk_drew ?_ | refine blk_alloc ?_ _)); refine blk_far ?_ NB109_120.out _; (with_reducible repeat (first | refine blk_drewN ?_ _ | refine blk_drew ?_ | refine blk_alloc ?_ _)); exact BK109.out) hb); have n2_ := Aside0.mk (blk_below (g := gb120) (o := .cells #[.int .i64 t116, .int .i64 t117, .int .i64 t118, .int .i64 t119] 29 (0, 0)) (by (with_reducible repeat (first | refine blk_drewN ?_ _ | refine blk_drew ?_ | refine blk_alloc ?_ _)); refine blk_put (cs := #[.int .i64 t116, .int .i64 t117, .int .i64 t118, .int .i64 0]) ?_ 3 _ rfl; (with_reducible repeat (first | refine blk_drewN ?_ _ | refine blk_drew ?_ | refine blk_alloc ?_ _)); refine blk_put (cs := #[.int .i64 t116, .int .i64 t117, .int .i64 0, .int .i64 0]) ?_ 2 _ rfl; (with_reducible repeat (first | refine blk_drewN ?_ _ | refine blk_drew ?_ | refine blk_alloc ?_ _)); refine blk_put (cs := #[.int .i64 t116, .int .i64 0, .int .i64 0, .int .i64 0]) ?_ 1 _ rfl; (with_reducible repeat (first | refine blk_drewN ?_ _ | refine blk_drew ?_ | refine blk_alloc ?_ _)); refine blk_put (cs := #[.int .i64 0, .int .i64 0, .int .i64 0, .int .i64 0]) ?_ 0 _ rfl; (with_reducible repeat (first | refine blk_drewN ?_ _ | refine blk_drew ?_ | refine blk_alloc ?_ _)); exact BK120.out) hb); have n3_ := Aside0.mk (below_step (by repeat (first | (with_reducible first | exact HB.out | apply below_alloc | apply pw_below_drewN | apply below_drew1 | refine below_set ?_ GE109.out | refine below_set ?_ GE120.out) | exact HB.out)) hb); clear HO115; clear BK109; clear BK120; clear HB; have HO115 := n0_; have BK109 := n1_; have BK120 := n2_; have HB := n3_; clear n0_ n1_ n2_ n3_; (try clear hb); (try clear hb2); (try clear hk); (try clear hi)))
           go_ret
           exact ⟨by first | rfl | (simp [errW_none, errW_some] <;> rfl) | (simp [*, errW_none, errW_some] <;> rfl), by repeat (first | (with_reducible first | exact HB.out | apply below_alloc | apply pw_below_drewN | apply below_drew1 | refine below_set ?_ GE109.out | refine below_set ?_ GE120.out) | exact HB.out)⟩
          ·rw [if_neg c31] at H
           have c31b0 : (((rd_T35 t113 0).f2) == (wrap64 (a0))) = false := beq_eq_false_iff_ne.mpr c31
           have c31b1 : (((rd_T35 t113 0).f2) != (wrap64 (a0))) = true := bne_iff_ne.mpr c31
           obtain rfl := Option.some.inj H
           go_wp2_with (first | ((with_reducible refine gate_callee (f := 8) rfl ?_); refine goesL_ (some 51) rfl rfl Tryd.func8 (by kernel_rfl) rfl #[.string ((t101 ++ (⟨#[32]⟩ : ByteArray)) ++ a1)] rfl (by (try simp only [List.map_toArray, List.map_cons, List.map_nil]); first | done | rfl | (simp only [List.length_drop, List.length_take]; rfl)) ?_; (with_reducible refine (lexcee_All.calls ((t101 ++ (⟨#[32]⟩ : ByteArray)) ++ a1) t113 t116 t117 t118 t119 _ ?side1 A27.out).mono ?_); (case side1 => exact tabW_below HT.out (by repeat (first | (with_reducible first | exact HB.out | apply below_alloc | apply pw_below_drewN | apply below_drew1 | refine below_set ?_ GE109.out) | exact HB.out))); rintro e w39 ⟨v114, rfl, ho0, hb⟩; refine ⟨_, rfl, ?_⟩; have n0_ := Aside0.mk (Kd.R_lower ho0 (below_size (by repeat (first | (with_reducible first | exact HB.out | apply below_alloc | apply pw_below_drewN | apply below_drew1 | refine below_set ?_ GE109.out) | exact HB.out)))); have n1_ := Aside0.mk (blk_below (g := gb109) (o := .cells #[.int .i64 t105, .int .i64 t106, .int .i64 t107, .int .i64 t108] 29 (0, 0)) (by (with_reducible repeat (first | refine blk_drewN ?_ _ | refine blk_drew ?_ | refine blk_alloc ?_ _)); exact BK109.out) hb); have n2_ := Aside0.mk (below_step (by repeat (first | (with_reducible first | exact HB.out | apply below_alloc | apply pw_below_drewN | apply below_drew1 | refine below_set ?_ GE109.out) | exact HB.out)) hb); clear BK109; clear HB; have HO115 := n0_; have BK109 := n1_; have HB := n2_; clear n0_ n1_ n2_; (try clear hb); (try clear hb2); (try clear hk); (try clear hi); (try clear ho0)) | ((with_reducible refine gate_dst (N := 9) rfl ?_); (try (refine gate_guard (by rfl) ?_; dsimp only)); refine box_event ?hg (N := 9) ?hd (cs := #[.int .i64 0, .int .i64 0, .int .i64 0, .int .i64 0]) (t := 29) ?hr ?_; (case hd => rfl); (case hg => rfl); (case hr => first | (go_simp; done) | (go_simp; rfl)); intro gb120 hg w40 hbox hb; have n0_ := Aside0.mk (Kd.R_below (by (with_reducible repeat (first | apply Kd.R_alloc | apply Kd.R_drewN | apply Kd.R_drew)); exact HO115.out) hb); have n1_ := Aside0.mk (blk_below (g := gb109) (o := .cells #[.int .i64 t105, .int .i64 t106, .int .i64 t107, .int .i64 t108] 29 (0, 0)) (by (with_reducible repeat (first | refine blk_drewN ?_ _ | refine blk_drew ?_ | refine blk_alloc ?_ _)); exact BK109.out) hb); have n2_ := Aside0.mk (below_step (by repeat (first | (with_reducible first | exact HB.out | apply below_alloc | apply pw_below_drewN | apply below_drew1 | refine below_set ?_ GE109.out) | exact HB.out)) hb); have n3_ := Aside0.mk (hbox); have n4_ := Aside0.mk ((by rw [hg]; exact (below_size (by repeat (first | (with_reducible first | exact HB.out | apply below_alloc | apply pw_below_drewN | apply below_drew1 | refine below_set ?_ GE109.out) | exact HB.out))) : w.heap.size ≤ gb120)); have n5_ := Aside0.mk ((by rw [hg]; exact (below_size (by repeat (first | (with_reducible first | exact HB.out | apply below_alloc | apply pw_below_drewN | apply below_drew1 | refine below_set ?_ GE109.out) | exact HB.out))) : w.heap.size ≤ gb120)); have n6_ := Aside0.mk ((by rw [hg]; exact Nat.ne_of_lt (blk_lt (g := gb109) (o := .cells #[.int .i64 t105, .int .i64 t106, .int .i64 t107, .int .i64 t108] 29 (0, 0)) (by (with_reducible repeat (first | refine blk_drewN ?_ _ | refine blk_drew ?_ | refine blk_alloc ?_ _)); exact BK109.out)) : gb109 ≠ gb120)); have n7_ := Aside0.mk ((by rw [hg]; exact Nat.ne_of_gt (blk_lt (g := gb109) (o := .cells #[.int .i64 t105, .int .i64 t106, .int .i64 t107, .int .i64 t108] 29 (0, 0)) (by (with_reducible repeat (first | refine blk_drewN ?_ _ | refine blk_drew ?_ | refine blk_alloc ?_ _)); exact BK109.out)) : gb120 ≠ gb109)); clear HO115; clear BK109; clear HB; have HO115 := n0_; have BK109 := n1_; have HB := n2_; have BK120 := n3_; have GW120 := n4_; have GE120 := n5_; have NB109_120 := n6_; have NB120_109 := n7_; clear n0_ n1_ n2_ n3_ n4_ n5_ n6_ n7_; clear hb hbox hg; have hnb41 := NB120_109.out; have hnc41 := NB109_120.out; have hcz42_0 : w40.cell? ⟨gb120, 0, none⟩ = some (.int .i64 0) := (blk_cell BK120.out 0).trans rfl; have hcz42_1 : w40.cell? ⟨gb120, 1, none⟩ = some (.int .i64 0) := (blk_cell BK120.out 1).trans rfl; have hcz42_2 : w40.cell? ⟨gb120, 2, none⟩ = some (.int .i64 0) := (blk_cell BK120.out 2).trans rfl; have hcz42_3 : w40.cell? ⟨gb120, 3, none⟩ = some (.int .i64 0) := (blk_cell BK120.out 3).trans rfl; have hfz42_0 := blk_frozen BK120.out 0; have hfz42_1 := blk_frozen BK120.out 1; have hfz42_2 := blk_frozen BK120.out 2; have hfz42_3 := blk_frozen BK120.out 3; obtain ⟨Ao43, co43, eo43⟩ := Kd.R_slice HO115.out; subst eo43; have p121 : 0 ≤ (0 : Int) := (by omega); have q121 : 0 < (t113.length : Int) := of_decide_eq_true (by first | (with_reducible assumption) | assumption); obtain ⟨ad121, e121, hx121_0, hx121_1, hx121_2, hx121_3, hx121_4, hx121_5, hx121_6⟩ := at_T35 (Kd.R_reads' HO115.out).2.2 0 p121 q121; cases e121; have qi121 : (0 < t113.length) = True := eq_true (by omega); (try rw [show ((0 : Int)).toNat = 0 from rfl] at hx121_0); (try rw [show 0 * 7 = 0 from rfl] at hx121_0); (try rw [Addr.add_zero'] at hx121_0); (try rw [show ((0 : Int)).toNat = 0 from rfl] at hx121_1); (try rw [show 0 * 7 = 0 from rfl] at hx121_1); (try rw [Addr.add_zero'] at hx121_1); (try rw [show ((0 : Int)).toNat = 0 from rfl] at hx121_2); (try rw [show 0 * 7 = 0 from rfl] at hx121_2); (try rw [Addr.add_zero'] at hx121_2); (try rw [show ((0 : Int)).toNat = 0 from rfl] at hx121_3); (try rw [show 0 * 7 = 0 from rfl] at hx121_3); (try rw [Addr.add_zero'] at hx121_3); (try rw [show ((0 : Int)).toNat = 0 from rfl] at hx121_4); (try rw [show 0 * 7 = 0 from rfl] at hx121_4); (try rw [Addr.add_zero'] at hx121_4); (try rw [show ((0 : Int)).toNat = 0 from rfl] at hx121_5); (try rw [show 0 * 7 = 0 from rfl] at hx121_5); (try rw [Addr.add_zero'] at hx121_5); (try rw [show ((0 : Int)).toNat = 0 from rfl] at hx121_6); (try rw [show 0 * 7 = 0 from rfl] at hx121_6); (try rw [Addr.add_zero'] at hx121_6); have hn121_0 : ad121.block ≠ gb120 := Kd.own_blk (Kd.R_ne HO115.out BK120.out (by decide)); have hn121_1 : ad121.block ≠ gb120 := Kd.own_blk (Kd.R_ne HO115.out BK120.out (by decide)); have hn121_2 : ad121.block ≠ gb120 := Kd.own_blk (Kd.R_ne HO115.out BK120.out (by decide)); have hn121_3 : ad121.block ≠ gb120 := Kd.own_blk (Kd.R_ne HO115.out BK120.out (by decide)); replace hx121_0 := (cell_far (p := ⟨gb120, 0, none⟩) (by first | (rw [add_block]; exact hn121_0) | (show (Addr.add _ _).block ≠ _; rw [add_block]; exact hn121_0) | exact hn121_0) (.int .i64 t116)).trans hx121_0; replace hx121_1 := (cell_far (p := ⟨gb120, 0, none⟩) (by first | (rw [add_block]; exact hn121_0) | (show (Addr.add _ _).block ≠ _; rw [add_block]; exact hn121_0) | exact hn121_0) (.int .i64 t116)).trans hx121_1; replace hx121_2 := (cell_far (p := ⟨gb120, 0, none⟩) (by first | (rw [add_block]; exact hn121_0) | (show (Addr.add _ _).block ≠ _; rw [add_block]; exact hn121_0) | exact hn121_0) (.int .i64 t116)).trans hx121_2; replace hx121_3 := (cell_far (p := ⟨gb120, 0, none⟩) (by first | (rw [add_block]; exact hn121_0) | (show (Addr.add _ _).block ≠ _; rw [add_block]; exact hn121_0) | exact hn121_0) (.int .i64 t116)).trans hx121_3; replace hx121_4 := (cell_far (p := ⟨gb120, 0, none⟩) (by first | (rw [add_block]; exact hn121_0) | (show (Addr.add _ _).block ≠ _; rw [add_block]; exact hn121_0) | exact hn121_0) (.int .i64 t116)).trans hx121_4; replace hx121_5 := (cell_far (p := ⟨gb120, 0, none⟩) (by first | (rw [add_block]; exact hn121_0) | (show (Addr.add _ _).block ≠ _; rw [add_block]; exact hn121_0) | exact hn121_0) (.int .i64 t116)).trans hx121_5; replace hx121_6 := (cell_far (p := ⟨gb120, 0, none⟩) (by first | (rw [add_block]; exact hn121_0) | (show (Addr.add _ _).block ≠ _; rw [add_block]; exact hn121_0) | exact hn121_0) (.int .i64 t116)).trans hx121_6; replace hx121_0 := (cell_far (p := ⟨gb120, 1, none⟩) (by first | (rw [add_block]; exact hn121_1) | (show (Addr.add _ _).block ≠ _; rw [add_block]; exact hn121_1) | exact hn121_1) (.int .i64 t117)).trans hx121_0; replace hx121_1 := (cell_far (p := ⟨gb120, 1, none⟩) (by first | (rw [add_block]; exact hn121_1) | (show (Addr.add _ _).block ≠ _; rw [add_block]; exact hn121_1) | exact hn121_1) (.int .i64 t117)).trans hx121_1; replace hx121_2 := (cell_far (p := ⟨gb120, 1, none⟩) (by first | (rw [add_block]; exact hn121_1) | (show (Addr.add _ _).block ≠ _; rw [add_block]; exact hn121_1) | exact hn121_1) (.int .i64 t117)).trans hx121_2; replace hx121_3 := (cell_far (p := ⟨gb120, 1, none⟩) (by first | (rw [add_block]; exact hn121_1) | (show (Addr.add _ _).block ≠ _; rw [add_block]; exact hn121_1) | exact hn121_1) (.int .i64 t117)).trans hx121_3; replace hx121_4 := (cell_far (p := ⟨gb120, 1, none⟩) (by first | (rw [add_block]; exact hn121_1) | (show (Addr.add _ _).block ≠ _; rw [add_block]; exact hn121_1) | exact hn121_1) (.int .i64 t117)).trans hx121_4; replace hx121_5 := (cell_far (p := ⟨gb120, 1, none⟩) (by first | (rw [add_block]; exact hn121_1) | (show (Addr.add _ _).block ≠ _; rw [add_block]; exact hn121_1) | exact hn121_1) (.int .i64 t117)).trans hx121_5; replace hx121_6 := (cell_far (p := ⟨gb120, 1, none⟩) (by first | (rw [add_block]; exact hn121_1) | (show (Addr.add _ _).block ≠ _; rw [add_block]; exact hn121_1) | exact hn121_1) (.int .i64 t117)).trans hx121_6; replace hx121_0 := (cell_far (p := ⟨gb120, 2, none⟩) (by first | (rw [add_block]; exact hn121_2) | (show (Addr.add _ _).block ≠ _; rw [add_block]; exact hn121_2) | exact hn121_2) (.int .i64 t118)).trans hx121_0; replace hx121_1 := (cell_far (p := ⟨gb120, 2, none⟩) (by first | (rw [add_block]; exact hn121_2) | (show (Addr.add _ _).block ≠ _; rw [add_block]; exact hn121_2) | exact hn121_2) (.int .i64 t118)).trans hx121_1; replace hx121_2 := (cell_far (p := ⟨gb120, 2, none⟩) (by first | (rw [add_block]; exact hn121_2) | (show (Addr.add _ _).block ≠ _; rw [add_block]; exact hn121_2) | exact hn121_2) (.int .i64 t118)).trans hx121_2; replace hx121_3 := (cell_far (p := ⟨gb120, 2, none⟩) (by first | (rw [add_block]; exact hn121_2) | (show (Addr.add _ _).block ≠ _; rw [add_block]; exact hn121_2) | exact hn121_2) (.int .i64 t118)).trans hx121_3; replace hx121_4 := (cell_far (p := ⟨gb120, 2, none⟩) (by first | (rw [add_block]; exact hn121_2) | (show (Addr.add _ _).block ≠ _; rw [add_block]; exact hn121_2) | exact hn121_2) (.int .i64 t118)).trans hx121_4; replace hx121_5 := (cell_far (p := ⟨gb120, 2, none⟩) (by first | (rw [add_block]; exact hn121_2) | (show (Addr.add _ _).block ≠ _; rw [add_block]; exact hn121_2) | exact hn121_2) (.int .i64 t118)).trans hx121_5; replace hx121_6 := (cell_far (p := ⟨gb120, 2, none⟩) (by first | (rw [add_block]; exact hn121_2) | (show (Addr.add _ _).block ≠ _; rw [add_block]; exact hn121_2) | exact hn121_2) (.int .i64 t118)).trans hx121_6; replace hx121_0 := (cell_far (p := ⟨gb120, 3, none⟩) (by first | (rw [add_block]; exact hn121_3) | (show (Addr.add _ _).block ≠ _; rw [add_block]; exact hn121_3) | exact hn121_3) (.int .i64 t119)).trans hx121_0; replace hx121_1 := (cell_far (p := ⟨gb120, 3, none⟩) (by first | (rw [add_block]; exact hn121_3) | (show (Addr.add _ _).block ≠ _; rw [add_block]; exact hn121_3) | exact hn121_3) (.int .i64 t119)).trans hx121_1; replace hx121_2 := (cell_far (p := ⟨gb120, 3, none⟩) (by first | (rw [add_block]; exact hn121_3) | (show (Addr.add _ _).block ≠ _; rw [add_block]; exact hn121_3) | exact hn121_3) (.int .i64 t119)).trans hx121_2; replace hx121_3 := (cell_far (p := ⟨gb120, 3, none⟩) (by first | (rw [add_block]; exact hn121_3) | (show (Addr.add _ _).block ≠ _; rw [add_block]; exact hn121_3) | exact hn121_3) (.int .i64 t119)).trans hx121_3; replace hx121_4 := (cell_far (p := ⟨gb120, 3, none⟩) (by first | (rw [add_block]; exact hn121_3) | (show (Addr.add _ _).block ≠ _; rw [add_block]; exact hn121_3) | exact hn121_3) (.int .i64 t119)).trans hx121_4; replace hx121_5 := (cell_far (p := ⟨gb120, 3, none⟩) (by first | (rw [add_block]; exact hn121_3) | (show (Addr.add _ _).block ≠ _; rw [add_block]; exact hn121_3) | exact hn121_3) (.int .i64 t119)).trans hx121_5; replace hx121_6 := (cell_far (p := ⟨gb120, 3, none⟩) (by first | (rw [add_block]; exact hn121_3) | (show (Addr.add _ _).block ≠ _; rw [add_block]; exact hn121_3) | exact hn121_3) (.int .i64 t119)).trans hx121_6; clear hn121_0; clear hn121_1; clear hn121_2; clear hn121_3; replace p121 := eq_true p121; replace q121 := eq_true q121))
           go_ret
           exact ⟨by first | rfl | (simp [errW_none, errW_some] <;> rfl) | (simp [*, errW_none, errW_some] <;> rfl), by repeat (first | (with_reducible first | exact HB.out | apply below_alloc | apply pw_below_drewN | apply below_drew1 | refine below_set ?_ GE109.out | refine below_set ?_ GE120.out) | exact HB.out)⟩
         ·rw [if_neg c30] at H
          exact absurd H (by simp)
        ·rw [if_neg c29] at H
         have c29b0 : decide (1 < (t113.length : Int)) = false := decide_eq_false c29
         have c29b1 : decide (1 < t113.length) = false := decide_eq_false (by omega)
         clear c29
         obtain rfl := Option.some.inj H
         go_wp2_with (first | ((with_reducible refine gate_callee (f := 8) rfl ?_); refine goesL_ (some 51) rfl rfl Tryd.func8 (by kernel_rfl) rfl #[.string ((t101 ++ (⟨#[32]⟩ : ByteArray)) ++ a1)] rfl (by (try simp only [List.map_toArray, List.map_cons, List.map_nil]); first | done | rfl | (simp only [List.length_drop, List.length_take]; rfl)) ?_; (with_reducible refine (lexcee_All.calls ((t101 ++ (⟨#[32]⟩ : ByteArray)) ++ a1) t113 t116 t117 t118 t119 _ ?side1 A27.out).mono ?_); (case side1 => exact tabW_below HT.out (by repeat (first | (with_reducible first | exact HB.out | apply below_alloc | apply pw_below_drewN | apply below_drew1 | refine below_set ?_ GE109.out) | exact HB.out))); rintro e w44 ⟨v114, rfl, ho0, hb⟩; refine ⟨_, rfl, ?_⟩; have n0_ := Aside0.mk (Kd.R_lower ho0 (below_size (by repeat (first | (with_reducible first | exact HB.out | apply below_alloc | apply pw_below_drewN | apply below_drew1 | refine below_set ?_ GE109.out) | exact HB.out)))); have n1_ := Aside0.mk (blk_below (g := gb109) (o := .cells #[.int .i64 t105, .int .i64 t106, .int .i64 t107, .int .i64 t108] 29 (0, 0)) (by (with_reducible repeat (first | refine blk_drewN ?_ _ | refine blk_drew ?_ | refine blk_alloc ?_ _)); exact BK109.out) hb); have n2_ := Aside0.mk (below_step (by repeat (first | (with_reducible first | exact HB.out | apply below_alloc | apply pw_below_drewN | apply below_drew1 | refine below_set ?_ GE109.out) | exact HB.out)) hb); clear BK109; clear HB; have HO115 := n0_; have BK109 := n1_; have HB := n2_; clear n0_ n1_ n2_; (try clear hb); (try clear hb2); (try clear hk); (try clear hi); (try clear ho0)) | ((with_reducible refine gate_dst (N := 9) rfl ?_); (try (refine gate_guard (by rfl) ?_; dsimp only)); refine box_event ?hg (N := 9) ?hd (cs := #[.int .i64 0, .int .i64 0, .int .i64 0, .int .i64 0]) (t := 29) ?hr ?_; (case hd => rfl); (case hg => rfl); (case hr => first | (go_simp; done) | (go_simp; rfl)); intro gb120 hg w45 hbox hb; have n0_ := Aside0.mk (Kd.R_below (by (with_reducible repeat (first | apply Kd.R_alloc | apply Kd.R_drewN | apply Kd.R_drew)); exact HO115.out) hb); have n1_ := Aside0.mk (blk_below (g := gb109) (o := .cells #[.int .i64 t105, .int .i64 t106, .int .i64 t107, .int .i64 t108] 29 (0, 0)) (by (with_reducible repeat (first | refine blk_drewN ?_ _ | refine blk_drew ?_ | refine blk_alloc ?_ _)); exact BK109.out) hb); have n2_ := Aside0.mk (below_step (by repeat (first | (with_reducible first | exact HB.out | apply below_alloc | apply pw_below_drewN | apply below_drew1 | refine below_set ?_ GE109.out) | exact HB.out)) hb); have n3_ := Aside0.mk (hbox); have n4_ := Aside0.mk ((by rw [hg]; exact (below_size (by repeat (first | (with_reducible first | exact HB.out | apply below_alloc | apply pw_below_drewN | apply below_drew1 | refine below_set ?_ GE109.out) | exact HB.out))) : w.heap.size ≤ gb120)); have n5_ := Aside0.mk ((by rw [hg]; exact (below_size (by repeat (first | (with_reducible first | exact HB.out | apply below_alloc | apply pw_below_drewN | apply below_drew1 | refine below_set ?_ GE109.out) | exact HB.out))) : w.heap.size ≤ gb120)); have n6_ := Aside0.mk ((by rw [hg]; exact Nat.ne_of_lt (blk_lt (g := gb109) (o := .cells #[.int .i64 t105, .int .i64 t106, .int .i64 t107, .int .i64 t108] 29 (0, 0)) (by (with_reducible repeat (first | refine blk_drewN ?_ _ | refine blk_drew ?_ | refine blk_alloc ?_ _)); exact BK109.out)) : gb109 ≠ gb120)); have n7_ := Aside0.mk ((by rw [hg]; exact Nat.ne_of_gt (blk_lt (g := gb109) (o := .cells #[.int .i64 t105, .int .i64 t106, .int .i64 t107, .int .i64 t108] 29 (0, 0)) (by (with_reducible repeat (first | refine blk_drewN ?_ _ | refine blk_drew ?_ | refine blk_alloc ?_ _)); exact BK109.out)) : gb120 ≠ gb109)); clear HO115; clear BK109; clear HB; have HO115 := n0_; have BK109 := n1_; have HB := n2_; have BK120 := n3_; have GW120 := n4_; have GE120 := n5_; have NB109_120 := n6_; have NB120_109 := n7_; clear n0_ n1_ n2_ n3_ n4_ n5_ n6_ n7_; clear hb hbox hg; have hnb46 := NB120_109.out; have hnc46 := NB109_120.out; have hcz47_0 : w45.cell? ⟨gb120, 0, none⟩ = some (.int .i64 0) := (blk_cell BK120.out 0).trans rfl; have hcz47_1 : w45.cell? ⟨gb120, 1, none⟩ = some (.int .i64 0) := (blk_cell BK120.out 1).trans rfl; have hcz47_2 : w45.cell? ⟨gb120, 2, none⟩ = some (.int .i64 0) := (blk_cell BK120.out 2).trans rfl; have hcz47_3 : w45.cell? ⟨gb120, 3, none⟩ = some (.int .i64 0) := (blk_cell BK120.out 3).trans rfl; have hfz47_0 := blk_frozen BK120.out 0; have hfz47_1 := blk_frozen BK120.out 1; have hfz47_2 := blk_frozen BK120.out 2; have hfz47_3 := blk_frozen BK120.out 3; obtain ⟨Ao48, co48, eo48⟩ := Kd.R_slice HO115.out; subst eo48))
         go_ret
         exact ⟨by first | rfl | (simp [errW_none, errW_some] <;> rfl) | (simp [*, errW_none, errW_some] <;> rfl), by repeat (first | (with_reducible first | exact HB.out | apply below_alloc | apply pw_below_drewN | apply below_drew1 | refine below_set ?_ GE109.out | refine below_set ?_ GE120.out) | exact HB.out)⟩
       ·rw [if_neg c28] at H
        have c28b0 : (t116 == 0) = false := beq_eq_false_iff_ne.mpr c28
        have c28b1 : (t116 != 0) = true := bne_iff_ne.mpr c28
        replace H := Option.bind_eq_some_iff.mp H
        obtain ⟨t123, A490, H⟩ := H
        replace H : (some t123) = some r := H
        have A49 := Aside0.mk A490
        clear A490
        obtain rfl := Option.some.inj H
        go_wp2_with (first | ((with_reducible refine gate_callee (f := 8) rfl ?_); refine goesL_ (some 51) rfl rfl Tryd.func8 (by kernel_rfl) rfl #[.string ((t101 ++ (⟨#[32]⟩ : ByteArray)) ++ a1)] rfl (by (try simp only [List.map_toArray, List.map_cons, List.map_nil]); first | done | rfl | (simp only [List.length_drop, List.length_take]; rfl)) ?_; (with_reducible refine (lexcee_All.calls ((t101 ++ (⟨#[32]⟩ : ByteArray)) ++ a1) t113 t116 t117 t118 t119 _ ?side1 A27.out).mono ?_); (case side1 => exact tabW_below HT.out (by repeat (first | (with_reducible first | exact HB.out | apply below_alloc | apply pw_below_drewN | apply below_drew1 | refine below_set ?_ GE109.out) | exact HB.out))); rintro e w50 ⟨v114, rfl, ho0, hb⟩; refine ⟨_, rfl, ?_⟩; have n0_ := Aside0.mk (Kd.R_lower ho0 (below_size (by repeat (first | (with_reducible first | exact HB.out | apply below_alloc | apply pw_below_drewN | apply below_drew1 | refine below_set ?_ GE109.out) | exact HB.out)))); have n1_ := Aside0.mk (blk_below (g := gb109) (o := .cells #[.int .i64 t105, .int .i64 t106, .int .i64 t107, .int .i64 t108] 29 (0, 0)) (by (with_reducible repeat (first | refine blk_drewN ?_ _ | refine blk_drew ?_ | refine blk_alloc ?_ _)); exact BK109.out) hb); have n2_ := Aside0.mk (below_step (by repeat (first | (with_reducible first | exact HB.out | apply below_alloc | apply pw_below_drewN | apply below_drew1 | refine below_set ?_ GE109.out) | exact HB.out)) hb); clear BK109; clear HB; have HO115 := n0_; have BK109 := n1_; have HB := n2_; clear n0_ n1_ n2_; (try clear hb); (try clear hb2); (try clear hk); (try clear hi); (try clear ho0)) | ((with_reducible refine gate_dst (N := 9) rfl ?_); (try (refine gate_guard (by rfl) ?_; dsimp only)); refine box_event ?hg (N := 9) ?hd (cs := #[.int .i64 0, .int .i64 0, .int .i64 0, .int .i64 0]) (t := 29) ?hr ?_; (case hd => rfl); (case hg => rfl); (case hr => first | (go_simp; done) | (go_simp; rfl)); intro gb120 hg w51 hbox hb; have n0_ := Aside0.mk (Kd.R_below (by (with_reducible repeat (first | apply Kd.R_alloc | apply Kd.R_drewN | apply Kd.R_drew)); exact HO115.out) hb); have n1_ := Aside0.mk (blk_below (g := gb109) (o := .cells #[.int .i64 t105, .int .i64 t106, .int .i64 t107, .int .i64 t108] 29 (0, 0)) (by (with_reducible repeat (first | refine blk_drewN ?_ _ | refine blk_drew ?_ | refine blk_alloc ?_ _)); exact BK109.out) hb); have n2_ := Aside0.mk (below_step (by repeat (first | (with_reducible first | exact HB.out | apply below_alloc | apply pw_below_drewN | apply below_drew1 | refine below_set ?_ GE109.out) | exact HB.out)) hb); have n3_ := Aside0.mk (hbox); have n4_ := Aside0.mk ((by rw [hg]; exact (below_size (by repeat (first | (with_reducible first | exact HB.out | apply below_alloc | apply pw_below_drewN | apply below_drew1 | refine below_set ?_ GE109.out) | exact HB.out))) : w.heap.size ≤ gb120)); have n5_ := Aside0.mk ((by rw [hg]; exact (below_size (by repeat (first | (with_reducible first | exact HB.out | apply below_alloc | apply pw_below_drewN | apply below_drew1 | refine below_set ?_ GE109.out) | exact HB.out))) : w.heap.size ≤ gb120)); have n6_ := Aside0.mk ((by rw [hg]; exact Nat.ne_of_lt (blk_lt (g := gb109) (o := .cells #[.int .i64 t105, .int .i64 t106, .int .i64 t107, .int .i64 t108] 29 (0, 0)) (by (with_reducible repeat (first | refine blk_drewN ?_ _ | refine blk_drew ?_ | refine blk_alloc ?_ _)); exact BK109.out)) : gb109 ≠ gb120)); have n7_ := Aside0.mk ((by rw [hg]; exact Nat.ne_of_gt (blk_lt (g := gb109) (o := .cells #[.int .i64 t105, .int .i64 t106, .int .i64 t107, .int .i64 t108] 29 (0, 0)) (by (with_reducible repeat (first | refine blk_drewN ?_ _ | refine blk_drew ?_ | refine blk_alloc ?_ _)); exact BK109.out)) : gb120 ≠ gb109)); clear HO115; clear BK109; clear HB; have HO115 := n0_; have BK109 := n1_; have HB := n2_; have BK120 := n3_; have GW120 := n4_; have GE120 := n5_; have NB109_120 := n6_; have NB120_109 := n7_; clear n0_ n1_ n2_ n3_ n4_ n5_ n6_ n7_; clear hb hbox hg; have hnb52 := NB120_109.out; have hnc52 := NB109_120.out; have hcz53_0 : w51.cell? ⟨gb120, 0, none⟩ = some (.int .i64 0) := (blk_cell BK120.out 0).trans rfl; have hcz53_1 : w51.cell? ⟨gb120, 1, none⟩ = some (.int .i64 0) := (blk_cell BK120.out 1).trans rfl; have hcz53_2 : w51.cell? ⟨gb120, 2, none⟩ = some (.int .i64 0) := (blk_cell BK120.out 2).trans rfl; have hcz53_3 : w51.cell? ⟨gb120, 3, none⟩ = some (.int .i64 0) := (blk_cell BK120.out 3).trans rfl; have hfz53_0 := blk_frozen BK120.out 0; have hfz53_1 := blk_frozen BK120.out 1; have hfz53_2 := blk_frozen BK120.out 2; have hfz53_3 := blk_frozen BK120.out 3) | (go_at_call 7; (with_reducible refine (pantographlaw06_awake.calls  t123 _ ?side1 A49.out).mono ?_); (case side1 => exact tabW_below HT.out (by repeat (first | (with_reducible first | exact HB.out | apply below_alloc | apply pw_below_drewN | apply below_drew1 | refine below_set ?_ GE109.out | refine below_set ?_ GE120.out) | exact HB.out))); rintro e w54 ⟨rfl, hb⟩; have n0_ := Aside0.mk (Kd.R_below (by (with_reducible repeat (first | apply Kd.R_alloc | apply Kd.R_drewN | apply Kd.R_drew)); exact (Kd.R_mono (Kd.R_far (p := ⟨gb120, 3, none⟩) (Kd.R_far (p := ⟨gb120, 2, none⟩) (Kd.R_far (p := ⟨gb120, 1, none⟩) (Kd.R_far (p := ⟨gb120, 0, none⟩) (Kd.R_types HO115.out BK120.out (by decide)) (fun _ hk => hk.2) (.int .i64 t116)) (fun _ hk => hk.2) (.int .i64 t117)) (fun _ hk => hk.2) (.int .i64 t118)) (fun _ hk => hk.2) (.int .i64 t119)) (fun _ h_ => h_.1))) hb); have n1_ := Aside0.mk (blk_below (g := gb109) (o := .cells #[.int .i64 t105, .int .i64 t106, .int .i64 t107, .int .i64 t108] 29 (0, 0)) (by (with_reducible repeat (first | refine blk_drewN ?_ _ | refine blk_drew ?_ | refine blk_alloc ?_ _)); refine blk_far ?_ NB109_120.out _; (with_reducible repeat (first | refine blk_drewN ?_ _ | refine blk_drew ?_ | refine blk_alloc ?_ _)); refine blk_far ?_ NB109_120.out _; (with_reducible repeat (first | refine blk_drewN ?_ _ | refine blk_drew ?_ | refine blk_alloc ?_ _)); refine blk_far ?_ NB109_120.out _; (with_reducible repeat (first | refine blk_drewN ?_ _ | refine blk_drew ?_ | refine blk_alloc ?_ _)); refine blk_far ?_ NB109_120.out _; (with_reducible repeat (first | refine blk_drewN ?_ _ | refine blk_drew ?_ | refine blk_alloc ?_ _)); exact BK109.out) hb); have n2_ := Aside0.mk (blk_below (g := gb120) (o := .cells #[.int .i64 t116, .int .i64 t117, .int .i64 t118, .int .i64 t119] 29 (0, 0)) (by (with_reducible repeat (first | refine blk_drewN ?_ _ | refine blk_drew ?_ | refine blk_alloc ?_ _)); refine blk_put (cs := #[.int .i64 t116, .int .i64 t117, .int .i64 t118, .int .i64 0]) ?_ 3 _ rfl; (with_reducible repeat (first | refine blk_drewN ?_ _ | refine blk_drew ?_ | refine blk_alloc ?_ _)); refine blk_put (cs := #[.int .i64 t116, .int .i64 t117, .int .i64 0, .int .i64 0]) ?_ 2 _ rfl; (with_reducible repeat (first | refine blk_drewN ?_ _ | refine blk_drew ?_ | refine blk_alloc ?_ _)); refine blk_put (cs := #[.int .i64 t116, .int .i64 0, .int .i64 0, .int .i64 0]) ?_ 1 _ rfl; (with_reducible repeat (first | refine blk_drewN ?_ _ | refine blk_drew ?_ | refine blk_alloc ?_ _)); refine blk_put (cs := #[.int .i64 0, .int .i64 0, .int .i64 0, .int .i64 0]) ?_ 0 _ rfl; (with_reducible repeat (first | refine blk_drewN ?_ _ | refine blk_drew ?_ | refine blk_alloc ?_ _)); exact BK120.out) hb); have n3_ := Aside0.mk (below_step (by repeat (first | (with_reducible first | exact HB.out | apply below_alloc | apply pw_below_drewN | apply below_drew1 | refine below_set ?_ GE109.out | refine below_set ?_ GE120.out) | exact HB.out)) hb); clear HO115; clear BK109; clear BK120; clear HB; have HO115 := n0_; have BK109 := n1_; have BK120 := n2_; have HB := n3_; clear n0_ n1_ n2_ n3_; (try clear hb); (try clear hb2); (try clear hk); (try clear hi)))
        go_ret
        exact ⟨by first | rfl | (simp [errW_none, errW_some] <;> rfl) | (simp [*, errW_none, errW_some] <;> rfl), by repeat (first | (with_reducible first | exact HB.out | apply below_alloc | apply pw_below_drewN | apply below_drew1 | refine below_set ?_ GE109.out | refine below_set ?_ GE120.out) | exact HB.out)⟩
      ·rw [if_neg c26] at H
       exact absurd H (by simp)
     ·rw [if_neg c25] at H
      exact absurd H (by simp)

end Go.Proofs.YtidicpngmildkaaDoor.U

-- Printed by this session's own program over the printer of the kit (wip/tools/xprint.py); not by print.sh. Lean checks it.
import Derived.Test.YtnommbcendoncaaL0
import Derived.Test.YtnommbcendoncaaL1
namespace Go.Proofs.Ytnommbcendoncaa.L
open Go.Proofs.Ytnommbcendoncaa.B Go.Proofs.Ytnommbcendoncaa.Np Go.Proofs.Ytnommbcendoncaa.Fx
open Go.RowKit Go.Proofs.YtnommbcendoncaaW.PrintWords Go.Proofs.YtnommbcendoncaaW.PrintLast Go.Proofs.YtnommbcendoncaaW.PrintMore
attribute [local go_sem] max2_int min2_int max_two min_two max_three min_three max_four min_four   -- for this text's walks alone
set_option linter.unusedVariables false
set_option linter.unusedSimpArgs false

/-! ### pantographref02_Read: function 16 -/
mutual
def pantographref02_Read.j0 : Nat → Int → ByteArray → Bool → Option (ByteArray × Int × Int)
  | 0, _, _, _ => none
  | k + 1, x0, x1, x15 => if x15 = true then (some ((⟨#[]⟩ : ByteArray), 0, 1)) else ((pantographref02_Begins.f x0 x1).bind fun t203 => (if t203 = true then (pantographref02_Read.l0 k x0 x1 ([] : List Int) (wrap64 (x0 + 1))) else (some ((⟨#[]⟩ : ByteArray), 0, 8))))
def pantographref02_Read.l0 : Nat → Int → ByteArray → List Int → Int → Option (ByteArray × Int × Int)
  | 0, _, _, _, _ => none
  | k + 1, x0, x1, x7, x8 => if x8 < (x1.size : Int) then (if 0 ≤ x8 then (if x0 = 0 then (pantographref02_Read.j2 k x0 x1 x7 x8 (bt x1 x8) ((bt x1 x8) == 125)) else (pantographref02_Read.j2 k x0 x1 x7 x8 (bt x1 x8) false)) else (none)) else (some ((⟨#[]⟩ : ByteArray), 0, 8))
def pantographref02_Read.j2 : Nat → Int → ByteArray → List Int → Int → Int → Bool → Option (ByteArray × Int × Int)
  | 0, _, _, _, _, _, _ => none
  | k + 1, x0, x1, x7, x8, x9, x34 => if x34 = true then (some (strOfNums x7, wrap64 (x8 + 1), 0)) else (if x0 = 1 then (if x9 = 42 then (if (wrap64 (x8 + 1)) < (x1.size : Int) then (if 0 ≤ (wrap64 (x8 + 1)) then (pantographref02_Read.j3 k x0 x1 x7 x8 x9 ((bt x1 (wrap64 (x8 + 1))) == 47)) else (none)) else (pantographref02_Read.j3 k x0 x1 x7 x8 x9 false)) else (pantographref02_Read.j3 k x0 x1 x7 x8 x9 false)) else (pantographref02_Read.j3 k x0 x1 x7 x8 x9 false))
def pantographref02_Read.j3 : Nat → Int → ByteArray → List Int → Int → Int → Bool → Option (ByteArray × Int × Int)
  | 0, _, _, _, _, _, _ => none
  | k + 1, x0, x1, x7, x8, x9, x58 => if x58 = true then (some (strOfNums x7, wrap64 (x8 + 2), 0)) else (if x9 = 92 then (if (wrap64 (x8 + 1)) = (x1.size : Int) then (some ((⟨#[]⟩ : ByteArray), 0, 8)) else (if 0 ≤ (wrap64 (x8 + 1)) then (if (wrap64 (x8 + 1)) < (x1.size : Int) then (if (bt x1 (wrap64 (x8 + 1))) = 92 then (pantographref02_Read.j4 k x0 x1 x7 (wrap64 (x8 + 1)) (bt x1 (wrap64 (x8 + 1)))) else (if x0 = 0 then (if ((bt x1 (wrap64 (x8 + 1))) = 125) then (pantographref02_Read.j4 k x0 x1 x7 (wrap64 (x8 + 1)) (bt x1 (wrap64 (x8 + 1)))) else (if x0 = 1 then (if ((bt x1 (wrap64 (x8 + 1))) = 42) then (pantographref02_Read.j4 k x0 x1 x7 (wrap64 (x8 + 1)) (bt x1 (wrap64 (x8 + 1)))) else (some ((⟨#[]⟩ : ByteArray), 0, 8))) else (some ((⟨#[]⟩ : ByteArray), 0, 8)))) else (if x0 = 1 then (if ((bt x1 (wrap64 (x8 + 1))) = 42) then (pantographref02_Read.j4 k x0 x1 x7 (wrap64 (x8 + 1)) (bt x1 (wrap64 (x8 + 1)))) else (some ((⟨#[]⟩ : ByteArray), 0, 8))) else (some ((⟨#[]⟩ : ByteArray), 0, 8))))) else (none)) else (none))) else (pantographref02_Read.j4 k x0 x1 x7 x8 x9))
def pantographref02_Read.j4 : Nat → Int → ByteArray → List Int → Int → Int → Option (ByteArray × Int × Int)
  | 0, _, _, _, _, _ => none
  | k + 1, x0, x1, x7, x8, x9 => (pantographref02_right.f x9).bind fun t204 => (if t204 = true then (if (x7.length : Int) = 1024 then (some ((⟨#[]⟩ : ByteArray), 0, 3)) else (if x7.length < 140737488355328 then (pantographref02_Read.l0 k x0 x1 (x7 ++ [x9]) (wrap64 (x8 + 1))) else (none))) else (some ((⟨#[]⟩ : ByteArray), 0, 8)))
end
def pantographref02_Read.f (k : Nat) (a0 : Int) (a1 : ByteArray) : Option (ByteArray × Int × Int) := if a0 = 0 then (pantographref02_Read.j0 k a0 a1 false) else (pantographref02_Read.j0 k a0 a1 (a0 != 1))
theorem pantographref02_Read.mono_l : ∀ k, (∀ y0 y1 y2, LeO (pantographref02_Read.j0 k y0 y1 y2) (pantographref02_Read.j0 (k + 1) y0 y1 y2)) ∧ (∀ y0 y1 y2 y3, LeO (pantographref02_Read.l0 k y0 y1 y2 y3) (pantographref02_Read.l0 (k + 1) y0 y1 y2 y3)) ∧ (∀ y0 y1 y2 y3 y4 y5, LeO (pantographref02_Read.j2 k y0 y1 y2 y3 y4 y5) (pantographref02_Read.j2 (k + 1) y0 y1 y2 y3 y4 y5)) ∧ (∀ y0 y1 y2 y3 y4 y5, LeO (pantographref02_Read.j3 k y0 y1 y2 y3 y4 y5) (pantographref02_Read.j3 (k + 1) y0 y1 y2 y3 y4 y5)) ∧ (∀ y0 y1 y2 y3 y4, LeO (pantographref02_Read.j4 k y0 y1 y2 y3 y4) (pantographref02_Read.j4 (k + 1) y0 y1 y2 y3 y4))
  | 0 => ⟨fun _ _ _ r h => by simp [pantographref02_Read.j0] at h, fun _ _ _ _ r h => by simp [pantographref02_Read.l0] at h, fun _ _ _ _ _ _ r h => by simp [pantographref02_Read.j2] at h, fun _ _ _ _ _ _ r h => by simp [pantographref02_Read.j3] at h, fun _ _ _ _ _ r h => by simp [pantographref02_Read.j4] at h⟩
  | k + 1 => by
    obtain ⟨ih0, ih1, ih2, ih3, ih4⟩ := pantographref02_Read.mono_l k
    refine ⟨?_, ?_, ?_, ?_, ?_⟩
    · intro y0 y1 y2
      unfold pantographref02_Read.j0
      repeat' first
      | (with_reducible exact ih0 _ _ _)
      | (with_reducible exact ih1 _ _ _ _)
      | (with_reducible exact ih2 _ _ _ _ _ _)
      | (with_reducible exact ih3 _ _ _ _ _ _)
      | (with_reducible exact ih4 _ _ _ _ _)
      | (with_reducible exact LeO.refl _)
      | (with_reducible exact LeO.none _)
      | (with_reducible refine LeO.ite ?_ ?_)
      | (with_reducible refine LeO.bind ?_ (fun _ => ?_))
      | exact ih0 _ _ _
      | exact ih1 _ _ _ _
      | exact ih2 _ _ _ _ _ _
      | exact ih3 _ _ _ _ _ _
      | exact ih4 _ _ _ _ _
      | exact LeO.none _
      | refine LeO.ite ?_ ?_
      | refine LeO.bind ?_ (fun _ => ?_)
    · intro y0 y1 y2 y3
      unfold pantographref02_Read.l0
      repeat' first
      | (with_reducible exact ih0 _ _ _)
      | (with_reducible exact ih1 _ _ _ _)
      | (with_reducible exact ih2 _ _ _ _ _ _)
      | (with_reducible exact ih3 _ _ _ _ _ _)
      | (with_reducible exact ih4 _ _ _ _ _)
      | (with_reducible exact LeO.refl _)
      | (with_reducible exact LeO.none _)
      | (with_reducible refine LeO.ite ?_ ?_)
      | (with_reducible refine LeO.bind ?_ (fun _ => ?_))
      | exact ih0 _ _ _
      | exact ih1 _ _ _ _
      | exact ih2 _ _ _ _ _ _
      | exact ih3 _ _ _ _ _ _
      | exact ih4 _ _ _ _ _
      | exact LeO.none _
      | refine LeO.ite ?_ ?_
      | refine LeO.bind ?_ (fun _ => ?_)
    · intro y0 y1 y2 y3 y4 y5
      unfold pantographref02_Read.j2
      repeat' first
      | (with_reducible exact ih0 _ _ _)
      | (with_reducible exact ih1 _ _ _ _)
      | (with_reducible exact ih2 _ _ _ _ _ _)
      | (with_reducible exact ih3 _ _ _ _ _ _)
      | (with_reducible exact ih4 _ _ _ _ _)
      | (with_reducible exact LeO.refl _)
      | (with_reducible exact LeO.none _)
      | (with_reducible refine LeO.ite ?_ ?_)
      | (with_reducible refine LeO.bind ?_ (fun _ => ?_))
      | exact ih0 _ _ _
      | exact ih1 _ _ _ _
      | exact ih2 _ _ _ _ _ _
      | exact ih3 _ _ _ _ _ _
      | exact ih4 _ _ _ _ _
      | exact LeO.none _
      | refine LeO.ite ?_ ?_
      | refine LeO.bind ?_ (fun _ => ?_)
    · intro y0 y1 y2 y3 y4 y5
      unfold pantographref02_Read.j3
      repeat' first
      | (with_reducible exact ih0 _ _ _)
      | (with_reducible exact ih1 _ _ _ _)
      | (with_reducible exact ih2 _ _ _ _ _ _)
      | (with_reducible exact ih3 _ _ _ _ _ _)
      | (with_reducible exact ih4 _ _ _ _ _)
      | (with_reducible exact LeO.refl _)
      | (with_reducible exact LeO.none _)
      | (with_reducible refine LeO.ite ?_ ?_)
      | (with_reducible refine LeO.bind ?_ (fun _ => ?_))
      | exact ih0 _ _ _
      | exact ih1 _ _ _ _
      | exact ih2 _ _ _ _ _ _
      | exact ih3 _ _ _ _ _ _
      | exact ih4 _ _ _ _ _
      | exact LeO.none _
      | refine LeO.ite ?_ ?_
      | refine LeO.bind ?_ (fun _ => ?_)
    · intro y0 y1 y2 y3 y4
      unfold pantographref02_Read.j4
      repeat' first
      | (with_reducible exact ih0 _ _ _)
      | (with_reducible exact ih1 _ _ _ _)
      | (with_reducible exact ih2 _ _ _ _ _ _)
      | (with_reducible exact ih3 _ _ _ _ _ _)
      | (with_reducible exact ih4 _ _ _ _ _)
      | (with_reducible exact LeO.refl _)
      | (with_reducible exact LeO.none _)
      | (with_reducible refine LeO.ite ?_ ?_)
      | (with_reducible refine LeO.bind ?_ (fun _ => ?_))
      | exact ih0 _ _ _
      | exact ih1 _ _ _ _
      | exact ih2 _ _ _ _ _ _
      | exact ih3 _ _ _ _ _ _
      | exact ih4 _ _ _ _ _
      | exact LeO.none _
      | refine LeO.ite ?_ ?_
      | refine LeO.bind ?_ (fun _ => ?_)
theorem pantographref02_Read.mono : ∀ a0 a1 k, LeO (pantographref02_Read.f k a0 a1) (pantographref02_Read.f (k + 1) a0 a1) := by
  intro a0 a1 k
  obtain ⟨ih0, ih1, ih2, ih3, ih4⟩ := pantographref02_Read.mono_l k
  unfold pantographref02_Read.f
  repeat' first
      | (with_reducible exact ih0 _ _ _)
      | (with_reducible exact ih1 _ _ _ _)
      | (with_reducible exact ih2 _ _ _ _ _ _)
      | (with_reducible exact ih3 _ _ _ _ _ _)
      | (with_reducible exact ih4 _ _ _ _ _)
      | (with_reducible exact LeO.refl _)
      | (with_reducible exact LeO.none _)
      | (with_reducible refine LeO.ite ?_ ?_)
      | (with_reducible refine LeO.bind ?_ (fun _ => ?_))
      | exact ih0 _ _ _
      | exact ih1 _ _ _ _
      | exact ih2 _ _ _ _ _ _
      | exact ih3 _ _ _ _ _ _
      | exact ih4 _ _ _ _ _
      | exact LeO.none _
      | refine LeO.ite ?_ ?_
      | refine LeO.bind ?_ (fun _ => ?_)
set_option maxHeartbeats 8000000 in
set_option maxRecDepth 100000 in
theorem pantographref02_Read.calls (k : Nat) (a0 : Int) (a1 : ByteArray) (r1 : ByteArray) (r2 : Int) (r3 : Int) (w : World) (h : pantographref02_Read.f k a0 a1 = some (r1, r2, r3)) :
    Calls Try.prog 16 #[.int .i64 a0, .string a1] w fun e w' => e = .returned (.tuple #[.string r1, .int .i64 r2, .int .i64 r3]) ∧ Below w.heap.size w w' := by
  have HB := Aside0.mk (Below.refl w.heap.size w)
  have H : (if a0 = 0 then (pantographref02_Read.j0 k a0 a1 false) else (pantographref02_Read.j0 k a0 a1 (a0 != 1))) = some (r1, r2, r3) := h
  clear h
  have HC3 := Aside0.mk H
  clear H
  go_enter Try.func16, Try.ntmps16
  go_upto_region 1 with (fail)
  go_cut [15] (fun v15 wc => ∃ (kq : Nat) (x15_2 : Bool), v15 = .bool x15_2 ∧ Aside0 (pantographref02_Read.j0 kq a0 a1 x15_2 = some (r1, r2, r3)) ∧ Aside0 (kq ≤ k) ∧ Aside0 (Below w.heap.size w wc))
  case first =>
    have H := HC3.out
    clear HC3
    by_cases c4 : a0 = 0
    · rw [if_pos c4] at H
      have c4b0 : (a0 == 0) = true := beq_iff_eq.mpr c4
      have c4b1 : (a0 != 0) = false := bne_eq_false_iff_eq.mpr c4
      clear c4
      (first | rw [c4b0] | (simp only [i64_w, i32_w]; rw [c4b0]) | skip)
      have H' := Aside0.mk H
      clear H
      go_wp2
      go_meet
      case rel => exact ⟨_, (false), (by first | rfl | (simp; done) | (simp [*]; done)), H', ⟨by first | omega | exact Nat.le_refl _⟩, ⟨by repeat (first | (with_reducible first | exact HB.out | apply below_alloc | apply pw_below_drewN | apply below_drew1) | exact HB.out)⟩⟩
    · rw [if_neg c4] at H
      have c4b0 : (a0 == 0) = false := beq_eq_false_iff_ne.mpr c4
      have c4b1 : (a0 != 0) = true := bne_iff_ne.mpr c4
      (first | rw [c4b0] | (simp only [i64_w, i32_w]; rw [c4b0]) | skip)
      have H' := Aside0.mk H
      clear H
      go_wp2
      go_meet
      case rel => exact ⟨_, ((a0 != 1)), (by first | rfl | (simp; done) | (simp [*]; done)), H', ⟨by first | omega | exact Nat.le_refl _⟩, ⟨by repeat (first | (with_reducible first | exact HB.out | apply below_alloc | apply pw_below_drewN | apply below_drew1) | exact HB.out)⟩⟩
  case rest =>
    clear HC3
    try clear c1
    try clear p2
    try clear c4
    try clear c4b0
    try clear c4b1
    obtain ⟨kq, x15_2, rfl, HA, HJ2, HB⟩ := hcut
    cases kq with
    | zero => exact absurd HA.out (by simp [pantographref02_Read.j0])
    | succ kj2 =>
      have H := HA.out
      clear HA
      simp only [pantographref02_Read.j0] at H
      by_cases c5 : x15_2 = true
      · subst c5
        have H1 : (some ((⟨#[]⟩ : ByteArray), 0, 1)) = some (r1, r2, r3) := by rw [if_pos rfl] at H; exact H
        clear H
        have H := H1
        clear H1
        simp only [Option.some.injEq, Prod.mk.injEq] at H
        obtain ⟨rfl, rfl, rfl⟩ := H
        go_wp2
        go_ret3
        exact ⟨by first | rfl | (simp [errW_none, errW_some] <;> rfl) | (simp [*, errW_none, errW_some] <;> rfl), by repeat (first | (with_reducible first | exact HB.out | apply below_alloc | apply pw_below_drewN | apply below_drew1) | exact HB.out)⟩
      · replace c5 := Bool.eq_false_iff.mpr c5
        subst c5
        have H1 : ((pantographref02_Begins.f a0 a1).bind fun t203 => (if t203 = true then (pantographref02_Read.l0 kj2 a0 a1 ([] : List Int) (wrap64 (a0 + 1))) else (some ((⟨#[]⟩ : ByteArray), 0, 8)))) = some (r1, r2, r3) := by rw [if_neg (show ¬ (false = true) by decide)] at H; exact H
        clear H
        have H := H1
        clear H1
        replace H := Option.bind_eq_some_iff.mp H
        obtain ⟨t203, A60, H⟩ := H
        replace H : (if t203 = true then (pantographref02_Read.l0 kj2 a0 a1 ([] : List Int) (wrap64 (a0 + 1))) else (some ((⟨#[]⟩ : ByteArray), 0, 8))) = some (r1, r2, r3) := H
        have A6 := Aside0.mk A60
        clear A60
        by_cases c7 : t203 = true
        · subst c7
          have H1 : (pantographref02_Read.l0 kj2 a0 a1 ([] : List Int) (wrap64 (a0 + 1))) = some (r1, r2, r3) := by rw [if_pos rfl] at H; exact H
          clear H
          have H := H1
          clear H1
          have H' := Aside0.mk H
          clear H
          go_wp2_with (first | ((with_reducible refine gate_callee (f := 18) rfl ?_); refine goesL_ (some 18) rfl rfl Try.func18 (by kernel_rfl) rfl #[.int .i64 a0, .string a1] rfl (by (try simp only [List.map_toArray, List.map_cons, List.map_nil]); first | done | rfl | (simp only [List.length_drop, List.length_take]; rfl)) ?_; (with_reducible refine (pantographref02_Begins.calls a0 a1 true _ A6.out).mono ?_); rintro e w' ⟨rfl, ⟨nd, rfl⟩⟩; refine ⟨_, rfl, ?_⟩))
          go_loopg [7, 8] kj2 (fun kq v7 v8 w' => ∃ (x7_2 : List Int) (x8_2 : Int), v8 = .int .i64 x8_2 ∧ Aside0 (pantographref02_Read.l0 kq a0 a1 x7_2 x8_2 = some (r1, r2, r3)) ∧ Aside0 (kq ≤ kj2) ∧ Aside0 (Kd.R (Kd.int .u8) 5 w' w.heap.size (fun _ => True) v7 x7_2) ∧ Aside0 (Below w.heap.size w w'))
          case atStart => exact ⟨(([] : List Int)), (wrap64 (a0 + 1)), (by first | rfl | (simp; done) | (simp [*]; done)), H', ⟨Nat.le_refl _⟩, ⟨by first | exact Kd.R_nil _ _ _ _ _ | exact Kd.N_nil _ _ _ _ _ | exact Kd.V_nil _ _ _ _ _ | exact Kd.Q_nil _ _ _ _ _ | exact Kd.S_nil _ _ _ _ _⟩, ⟨by repeat (first | (with_reducible first | exact HB.out | apply below_alloc | apply pw_below_drewN | apply below_drew1) | exact HB.out)⟩⟩
          case round =>
            clear H'
            try clear c1
            try clear p2
            try clear c4
            try clear c4b0
            try clear c4b1
            try clear c5
            try clear p6
            try clear c7
            try clear p2
            obtain ⟨x7_2, x8_2, rfl, HA, HK2, HO_7, HB⟩ := hrel
            cases gk with
            | zero => exact absurd HA.out (by simp [pantographref02_Read.l0])
            | succ k2 =>
              have H := HA.out
              clear HA
              simp only [pantographref02_Read.l0] at H
              by_cases c8 : x8_2 < (a1.size : Int)
              · rw [if_pos c8] at H
                have c8b0 : decide (x8_2 < (a1.size : Int)) = true := decide_eq_true c8
                clear c8
                by_cases c9 : 0 ≤ x8_2
                · rw [if_pos c9] at H
                  have c9b0 : decide (0 ≤ x8_2) = true := decide_eq_true c9
                  clear c9
                  have HC11 := Aside0.mk H
                  clear H
                  have p10 : 0 ≤ (x8_2 : Int) := of_decide_eq_true (by first | (with_reducible assumption) | assumption)
                  have q10 : x8_2 < (a1.size : Int) := of_decide_eq_true (by first | (with_reducible assumption) | assumption)
                  have hx10 := bt_at a1 x8_2
                  replace p10 := eq_true p10
                  replace q10 := eq_true q10
                  go_upto_region 9 with (fail)
                  go_cut [34] (fun v34 wc => ∃ (kq : Nat) (x34_10 : Bool), v34 = .bool x34_10 ∧ Aside0 (pantographref02_Read.j2 kq a0 a1 x7_2 x8_2 (bt a1 x8_2) x34_10 = some (r1, r2, r3)) ∧ Aside0 (kq ≤ k2) ∧ Aside0 (Kd.R (Kd.int .u8) 5 wc w.heap.size (fun _ => True) u7 x7_2) ∧ Aside0 (Below w.heap.size w wc))
                  case first =>
                    have H := HC11.out
                    clear HC11
                    by_cases c12 : a0 = 0
                    · rw [if_pos c12] at H
                      have c12b0 : (a0 == 0) = true := beq_iff_eq.mpr c12
                      have c12b1 : (a0 != 0) = false := bne_eq_false_iff_eq.mpr c12
                      clear c12
                      (first | rw [c12b0] | (simp only [i64_w, i32_w]; rw [c12b0]) | skip)
                      have H' := Aside0.mk H
                      clear H
                      go_wp2
                      go_meet
                      case rel => exact ⟨_, (((bt a1 x8_2) == 125)), (by first | rfl | (simp; done) | (simp [*]; done)), H', ⟨by have := HJ2.out; have := HK2.out; first | omega | exact Nat.le_refl _⟩, ⟨by (with_reducible repeat (first | apply Kd.R_alloc | apply Kd.R_drewN | apply Kd.R_drew)); exact HO_7.out⟩, ⟨by repeat (first | (with_reducible first | exact HB.out | apply below_alloc | apply pw_below_drewN | apply below_drew1) | exact HB.out)⟩⟩
                    · rw [if_neg c12] at H
                      have c12b0 : (a0 == 0) = false := beq_eq_false_iff_ne.mpr c12
                      have c12b1 : (a0 != 0) = true := bne_iff_ne.mpr c12
                      (first | rw [c12b0] | (simp only [i64_w, i32_w]; rw [c12b0]) | skip)
                      have H' := Aside0.mk H
                      clear H
                      go_wp2
                      go_meet
                      case rel => exact ⟨_, (false), (by first | rfl | (simp; done) | (simp [*]; done)), H', ⟨by have := HJ2.out; have := HK2.out; first | omega | exact Nat.le_refl _⟩, ⟨by (with_reducible repeat (first | apply Kd.R_alloc | apply Kd.R_drewN | apply Kd.R_drew)); exact HO_7.out⟩, ⟨by repeat (first | (with_reducible first | exact HB.out | apply below_alloc | apply pw_below_drewN | apply below_drew1) | exact HB.out)⟩⟩
                  case rest =>
                    clear HC11
                    try clear c1
                    try clear p1
                    try clear q1
                    try clear hx1
                    try clear p2
                    try clear c4
                    try clear c4b0
                    try clear c4b1
                    try clear c5
                    try clear p6
                    try clear c7
                    try clear c8
                    try clear c8b0
                    try clear c9
                    try clear c9b0
                    try clear p10
                    try clear q10
                    try clear hx10
                    try clear c12
                    try clear c12b0
                    try clear c12b1
                    try clear p10
                    try clear p2
                    try clear p6
                    try clear q10
                    obtain ⟨kq, x34_10, rfl, HA, HJ10, HO_7, HB⟩ := hcut
                    cases kq with
                    | zero => exact absurd HA.out (by simp [pantographref02_Read.j2])
                    | succ kj10 =>
                      have H := HA.out
                      clear HA
                      simp only [pantographref02_Read.j2] at H
                      by_cases c13 : x34_10 = true
                      · subst c13
                        have H1 : (some (strOfNums x7_2, wrap64 (x8_2 + 1), 0)) = some (r1, r2, r3) := by rw [if_pos rfl] at H; exact H
                        clear H
                        have H := H1
                        clear H1
                        simp only [Option.some.injEq, Prod.mk.injEq] at H
                        obtain ⟨rfl, rfl, rfl⟩ := H
                        have hcv14 := own_string (P := Try.prog) Try.underlying44 Try.underlying5 Try.underlying9 (Kd.own_of_R HO_7.out)
                        have hcw14 := fun n_ : Nat => own_string (P := Try.prog) Try.underlying44 Try.underlying5 Try.underlying9 (Kd.own_of_R (Kd.R_drewN HO_7.out n_))
                        go_wp2
                        go_ret3
                        exact ⟨by first | rfl | (simp [errW_none, errW_some] <;> rfl) | (simp [*, errW_none, errW_some] <;> rfl), by repeat (first | (with_reducible first | exact HB.out | apply below_alloc | apply pw_below_drewN | apply below_drew1) | exact HB.out)⟩
                      · replace c13 := Bool.eq_false_iff.mpr c13
                        subst c13
                        have H1 : (if a0 = 1 then (if (bt a1 x8_2) = 42 then (if (wrap64 (x8_2 + 1)) < (a1.size : Int) then (if 0 ≤ (wrap64 (x8_2 + 1)) then (pantographref02_Read.j3 kj10 a0 a1 x7_2 x8_2 (bt a1 x8_2) ((bt a1 (wrap64 (x8_2 + 1))) == 47)) else (none)) else (pantographref02_Read.j3 kj10 a0 a1 x7_2 x8_2 (bt a1 x8_2) false)) else (pantographref02_Read.j3 kj10 a0 a1 x7_2 x8_2 (bt a1 x8_2) false)) else (pantographref02_Read.j3 kj10 a0 a1 x7_2 x8_2 (bt a1 x8_2) false)) = some (r1, r2, r3) := by rw [if_neg (show ¬ (false = true) by decide)] at H; exact H
                        clear H
                        have H := H1
                        clear H1
                        have HC15 := Aside0.mk H
                        clear H
                        go_upto_region 11 with (fail)
                        go_cut [58] (fun v58 wc => ∃ (kq : Nat) (x58_14 : Bool), v58 = .bool x58_14 ∧ Aside0 (pantographref02_Read.j3 kq a0 a1 x7_2 x8_2 (bt a1 x8_2) x58_14 = some (r1, r2, r3)) ∧ Aside0 (kq ≤ kj10) ∧ Aside0 (Kd.R (Kd.int .u8) 5 wc w.heap.size (fun _ => True) u7 x7_2) ∧ Aside0 (Below w.heap.size w wc))
                        case first =>
                          have H := HC15.out
                          clear HC15
                          by_cases c16 : a0 = 1
                          · rw [if_pos c16] at H
                            have c16b0 : (a0 == 1) = true := beq_iff_eq.mpr c16
                            have c16b1 : (a0 != 1) = false := bne_eq_false_iff_eq.mpr c16
                            clear c16
                            (first | rw [c16b0] | (simp only [i64_w, i32_w]; rw [c16b0]) | skip)
                            by_cases c17 : (bt a1 x8_2) = 42
                            · rw [if_pos c17] at H
                              have c17b0 : ((bt a1 x8_2) == 42) = true := beq_iff_eq.mpr c17
                              have c17b1 : ((bt a1 x8_2) != 42) = false := bne_eq_false_iff_eq.mpr c17
                              clear c17
                              by_cases c18 : (wrap64 (x8_2 + 1)) < (a1.size : Int)
                              · rw [if_pos c18] at H
                                have c18b0 : decide ((wrap64 (x8_2 + 1)) < (a1.size : Int)) = true := decide_eq_true c18
                                clear c18
                                obtain ⟨ji19, hji19⟩ : ∃ j_ : Int, (wrap64 (x8_2 + 1)) = j_ := ⟨_, rfl⟩
                                replace H : (if 0 ≤ (ji19) then (pantographref02_Read.j3 kj10 a0 a1 x7_2 x8_2 (bt a1 x8_2) ((bt a1 (ji19)) == 47)) else (none)) = some (r1, r2, r3) := by first | (rw [hji19] at H; exact H) | (simp only [hji19] at H ⊢; exact H)
                                (try rw [hji19] at c18b0)
                                have hji19w : (IntKind.i64.wrap (x8_2 + 1)) = ji19 := (i64_w _).trans hji19
                                by_cases c20 : 0 ≤ (ji19)
                                · rw [if_pos c20] at H
                                  have c20b0 : decide (0 ≤ (ji19)) = true := decide_eq_true c20
                                  clear c20
                                  have H' := Aside0.mk H
                                  clear H
                                  have p21 : 0 ≤ ((ji19) : Int) := of_decide_eq_true (by first | (with_reducible assumption) | assumption)
                                  have q21 : (ji19) < (a1.size : Int) := of_decide_eq_true (by first | (with_reducible assumption) | assumption)
                                  have hx21 := bt_at a1 (ji19)
                                  replace p21 := eq_true p21
                                  replace q21 := eq_true q21
                                  go_wp2
                                  go_meet
                                  case rel => exact ⟨_, (((bt a1 (ji19)) == 47)), (by first | rfl | (simp; done) | (simp only [← hji19] <;> (first | rfl | simp)) | (simp [*]; done)), H', ⟨by have := HJ2.out; have := HK2.out; have := HJ10.out; first | omega | exact Nat.le_refl _⟩, ⟨by (with_reducible repeat (first | apply Kd.R_alloc | apply Kd.R_drewN | apply Kd.R_drew)); exact HO_7.out⟩, ⟨by repeat (first | (with_reducible first | exact HB.out | apply below_alloc | apply pw_below_drewN | apply below_drew1) | exact HB.out)⟩⟩
                                · rw [if_neg c20] at H
                                  exact absurd H (by simp)
                              · rw [if_neg c18] at H
                                have c18b0 : decide ((wrap64 (x8_2 + 1)) < (a1.size : Int)) = false := decide_eq_false c18
                                clear c18
                                have H' := Aside0.mk H
                                clear H
                                go_wp2
                                go_meet
                                case rel => exact ⟨_, (false), (by first | rfl | (simp; done) | (simp [*]; done)), H', ⟨by have := HJ2.out; have := HK2.out; have := HJ10.out; first | omega | exact Nat.le_refl _⟩, ⟨by (with_reducible repeat (first | apply Kd.R_alloc | apply Kd.R_drewN | apply Kd.R_drew)); exact HO_7.out⟩, ⟨by repeat (first | (with_reducible first | exact HB.out | apply below_alloc | apply pw_below_drewN | apply below_drew1) | exact HB.out)⟩⟩
                            · rw [if_neg c17] at H
                              have c17b0 : ((bt a1 x8_2) == 42) = false := beq_eq_false_iff_ne.mpr c17
                              have c17b1 : ((bt a1 x8_2) != 42) = true := bne_iff_ne.mpr c17
                              have H' := Aside0.mk H
                              clear H
                              go_wp2
                              go_meet
                              case rel => exact ⟨_, (false), (by first | rfl | (simp; done) | (simp [*]; done)), H', ⟨by have := HJ2.out; have := HK2.out; have := HJ10.out; first | omega | exact Nat.le_refl _⟩, ⟨by (with_reducible repeat (first | apply Kd.R_alloc | apply Kd.R_drewN | apply Kd.R_drew)); exact HO_7.out⟩, ⟨by repeat (first | (with_reducible first | exact HB.out | apply below_alloc | apply pw_below_drewN | apply below_drew1) | exact HB.out)⟩⟩
                          · rw [if_neg c16] at H
                            have c16b0 : (a0 == 1) = false := beq_eq_false_iff_ne.mpr c16
                            have c16b1 : (a0 != 1) = true := bne_iff_ne.mpr c16
                            (first | rw [c16b0] | (simp only [i64_w, i32_w]; rw [c16b0]) | skip)
                            have H' := Aside0.mk H
                            clear H
                            go_wp2
                            go_meet
                            case rel => exact ⟨_, (false), (by first | rfl | (simp; done) | (simp [*]; done)), H', ⟨by have := HJ2.out; have := HK2.out; have := HJ10.out; first | omega | exact Nat.le_refl _⟩, ⟨by (with_reducible repeat (first | apply Kd.R_alloc | apply Kd.R_drewN | apply Kd.R_drew)); exact HO_7.out⟩, ⟨by repeat (first | (with_reducible first | exact HB.out | apply below_alloc | apply pw_below_drewN | apply below_drew1) | exact HB.out)⟩⟩
                        case rest =>
                          clear HC15
                          try clear c1
                          try clear p1
                          try clear q1
                          try clear hx1
                          try clear hcv1
                          try clear c2
                          try clear p2
                          try clear q2
                          try clear hx2
                          try clear c4
                          try clear c4b0
                          try clear c4b1
                          try clear c5
                          try clear p6
                          try clear c7
                          try clear c8
                          try clear c8b0
                          try clear c9
                          try clear c9b0
                          try clear p10
                          try clear q10
                          try clear hx10
                          try clear c12
                          try clear c12b0
                          try clear c12b1
                          try clear c13
                          try clear hcv14
                          try clear c16
                          try clear c16b0
                          try clear c16b1
                          try clear c17
                          try clear c17b0
                          try clear c17b1
                          try clear c18
                          try clear c18b0
                          try clear c20
                          try clear c20b0
                          try clear p21
                          try clear q21
                          try clear hx21
                          try clear p1
                          try clear p10
                          try clear p2
                          try clear p21
                          try clear p6
                          try clear q1
                          try clear q10
                          try clear q21
                          obtain ⟨kq, x58_14, rfl, HA, HJ14, HO_7, HB⟩ := hcut
                          cases kq with
                          | zero => exact absurd HA.out (by simp [pantographref02_Read.j3])
                          | succ kj14 =>
                            have H := HA.out
                            clear HA
                            simp only [pantographref02_Read.j3] at H
                            by_cases c22 : x58_14 = true
                            · subst c22
                              have H1 : (some (strOfNums x7_2, wrap64 (x8_2 + 2), 0)) = some (r1, r2, r3) := by rw [if_pos rfl] at H; exact H
                              clear H
                              have H := H1
                              clear H1
                              simp only [Option.some.injEq, Prod.mk.injEq] at H
                              obtain ⟨rfl, rfl, rfl⟩ := H
                              have hcv23 := own_string (P := Try.prog) Try.underlying44 Try.underlying5 Try.underlying9 (Kd.own_of_R HO_7.out)
                              have hcw23 := fun n_ : Nat => own_string (P := Try.prog) Try.underlying44 Try.underlying5 Try.underlying9 (Kd.own_of_R (Kd.R_drewN HO_7.out n_))
                              go_wp2
                              go_ret3
                              exact ⟨by first | rfl | (simp [errW_none, errW_some] <;> rfl) | (simp [*, errW_none, errW_some] <;> rfl), by repeat (first | (with_reducible first | exact HB.out | apply below_alloc | apply pw_below_drewN | apply below_drew1) | exact HB.out)⟩
                            · replace c22 := Bool.eq_false_iff.mpr c22
                              subst c22
                              have H1 : (if (bt a1 x8_2) = 92 then (if (wrap64 (x8_2 + 1)) = (a1.size : Int) then (some ((⟨#[]⟩ : ByteArray), 0, 8)) else (if 0 ≤ (wrap64 (x8_2 + 1)) then (if (wrap64 (x8_2 + 1)) < (a1.size : Int) then (if (bt a1 (wrap64 (x8_2 + 1))) = 92 then (pantographref02_Read.j4 kj14 a0 a1 x7_2 (wrap64 (x8_2 + 1)) (bt a1 (wrap64 (x8_2 + 1)))) else (if a0 = 0 then (if ((bt a1 (wrap64 (x8_2 + 1))) = 125) then (pantographref02_Read.j4 kj14 a0 a1 x7_2 (wrap64 (x8_2 + 1)) (bt a1 (wrap64 (x8_2 + 1)))) else (if a0 = 1 then (if ((bt a1 (wrap64 (x8_2 + 1))) = 42) then (pantographref02_Read.j4 kj14 a0 a1 x7_2 (wrap64 (x8_2 + 1)) (bt a1 (wrap64 (x8_2 + 1)))) else (some ((⟨#[]⟩ : ByteArray), 0, 8))) else (some ((⟨#[]⟩ : ByteArray), 0, 8)))) else (if a0 = 1 then (if ((bt a1 (wrap64 (x8_2 + 1))) = 42) then (pantographref02_Read.j4 kj14 a0 a1 x7_2 (wrap64 (x8_2 + 1)) (bt a1 (wrap64 (x8_2 + 1)))) else (some ((⟨#[]⟩ : ByteArray), 0, 8))) else (some ((⟨#[]⟩ : ByteArray), 0, 8))))) else (none)) else (none))) else (pantographref02_Read.j4 kj14 a0 a1 x7_2 x8_2 (bt a1 x8_2))) = some (r1, r2, r3) := by rw [if_neg (show ¬ (false = true) by decide)] at H; exact H
                              clear H
                              have H := H1
                              clear H1
                              have HC24 := Aside0.mk H
                              clear H
                              go_upto_if 64 with (fail)
                              go_cut [8, 9] (fun v8 v9 wc => ∃ (kq : Nat) (x8_23 : Int) (x9_23 : Int), v8 = .int .i64 x8_23 ∧ v9 = .int .u8 x9_23 ∧ Aside0 (pantographref02_Read.j4 kq a0 a1 x7_2 x8_23 x9_23 = some (r1, r2, r3)) ∧ Aside0 (kq ≤ kj14) ∧ Aside0 (Kd.R (Kd.int .u8) 5 wc w.heap.size (fun _ => True) u7 x7_2) ∧ Aside0 (Below w.heap.size w wc))
                              case first =>
                                have H := HC24.out
                                clear HC24
                                by_cases c25 : (bt a1 x8_2) = 92
                                · rw [if_pos c25] at H
                                  have c25b0 : ((bt a1 x8_2) == 92) = true := beq_iff_eq.mpr c25
                                  have c25b1 : ((bt a1 x8_2) != 92) = false := bne_eq_false_iff_eq.mpr c25
                                  clear c25
                                  (first | rw [c25b0] | (simp only [i64_w, i32_w]; rw [c25b0]) | skip)
                                  by_cases c26 : (wrap64 (x8_2 + 1)) = (a1.size : Int)
                                  · rw [if_pos c26] at H
                                    have c26b0 : ((wrap64 (x8_2 + 1)) == (a1.size : Int)) = true := beq_iff_eq.mpr c26
                                    have c26b1 : ((wrap64 (x8_2 + 1)) != (a1.size : Int)) = false := bne_eq_false_iff_eq.mpr c26
                                    clear c26
                                    simp only [Option.some.injEq, Prod.mk.injEq] at H
                                    obtain ⟨rfl, rfl, rfl⟩ := H
                                    go_wp2
                                    go_ret3
                                    exact ⟨by first | rfl | (simp [errW_none, errW_some] <;> rfl) | (simp [*, errW_none, errW_some] <;> rfl), by repeat (first | (with_reducible first | exact HB.out | apply below_alloc | apply pw_below_drewN | apply below_drew1) | exact HB.out)⟩
                                  · rw [if_neg c26] at H
                                    have c26b0 : ((wrap64 (x8_2 + 1)) == (a1.size : Int)) = false := beq_eq_false_iff_ne.mpr c26
                                    have c26b1 : ((wrap64 (x8_2 + 1)) != (a1.size : Int)) = true := bne_iff_ne.mpr c26
                                    obtain ⟨ji27, hji27⟩ : ∃ j_ : Int, (wrap64 (x8_2 + 1)) = j_ := ⟨_, rfl⟩
                                    replace H : (if 0 ≤ (ji27) then (if (ji27) < (a1.size : Int) then (if (bt a1 (ji27)) = 92 then (pantographref02_Read.j4 kj14 a0 a1 x7_2 ji27 (bt a1 (ji27))) else (if a0 = 0 then (if ((bt a1 (ji27)) = 125) then (pantographref02_Read.j4 kj14 a0 a1 x7_2 ji27 (bt a1 (ji27))) else (if a0 = 1 then (if ((bt a1 (ji27)) = 42) then (pantographref02_Read.j4 kj14 a0 a1 x7_2 ji27 (bt a1 (ji27))) else (some ((⟨#[]⟩ : ByteArray), 0, 8))) else (some ((⟨#[]⟩ : ByteArray), 0, 8)))) else (if a0 = 1 then (if ((bt a1 (ji27)) = 42) then (pantographref02_Read.j4 kj14 a0 a1 x7_2 ji27 (bt a1 (ji27))) else (some ((⟨#[]⟩ : ByteArray), 0, 8))) else (some ((⟨#[]⟩ : ByteArray), 0, 8))))) else (none)) else (none)) = some (r1, r2, r3) := by first | (rw [hji27] at H; exact H) | (simp only [hji27] at H ⊢; exact H)
                                    (try rw [hji27] at c26b0)
                                    (try rw [hji27] at c26b1)
                                    have hji27w : (IntKind.i64.wrap (x8_2 + 1)) = ji27 := (i64_w _).trans hji27
                                    by_cases c28 : 0 ≤ (ji27)
                                    · rw [if_pos c28] at H
                                      have c28b0 : decide (0 ≤ (ji27)) = true := decide_eq_true c28
                                      clear c28
                                      by_cases c29 : (ji27) < (a1.size : Int)
                                      · rw [if_pos c29] at H
                                        have c29b0 : decide ((ji27) < (a1.size : Int)) = true := decide_eq_true c29
                                        clear c29
                                        by_cases c31 : (bt a1 (ji27)) = 92
                                        · rw [if_pos c31] at H
                                          have c31b0 : ((bt a1 (ji27)) == 92) = true := beq_iff_eq.mpr c31
                                          have c31b1 : ((bt a1 (ji27)) != 92) = false := bne_eq_false_iff_eq.mpr c31
                                          clear c31
                                          have H' := Aside0.mk H
                                          clear H
                                          have p30 : 0 ≤ ((ji27) : Int) := of_decide_eq_true (by first | (with_reducible assumption) | assumption)
                                          have q30 : (ji27) < (a1.size : Int) := of_decide_eq_true (by first | (with_reducible assumption) | assumption)
                                          have hx30 := bt_at a1 (ji27)
                                          replace p30 := eq_true p30
                                          replace q30 := eq_true q30
                                          go_wp2
                                          go_meet
                                          case rel => exact ⟨_, (ji27), (bt a1 (ji27)), (by first | rfl | (simp; done) | (simp only [← hji27] <;> (first | rfl | simp)) | (simp [*]; done)), (by first | rfl | (simp; done) | (simp only [← hji27] <;> (first | rfl | simp)) | (simp [*]; done)), H', ⟨by have := HJ2.out; have := HK2.out; have := HJ10.out; have := HJ14.out; first | omega | exact Nat.le_refl _⟩, ⟨by (with_reducible repeat (first | apply Kd.R_alloc | apply Kd.R_drewN | apply Kd.R_drew)); exact HO_7.out⟩, ⟨by repeat (first | (with_reducible first | exact HB.out | apply below_alloc | apply pw_below_drewN | apply below_drew1) | exact HB.out)⟩⟩
                                        · rw [if_neg c31] at H
                                          have c31b0 : ((bt a1 (ji27)) == 92) = false := beq_eq_false_iff_ne.mpr c31
                                          have c31b1 : ((bt a1 (ji27)) != 92) = true := bne_iff_ne.mpr c31
                                          by_cases c32 : a0 = 0
                                          · rw [if_pos c32] at H
                                            have c32b0 : (a0 == 0) = true := beq_iff_eq.mpr c32
                                            have c32b1 : (a0 != 0) = false := bne_eq_false_iff_eq.mpr c32
                                            clear c32
                                            by_cases c33 : ((bt a1 (ji27)) = 125)
                                            · rw [if_pos c33] at H
                                              have c33b0 : ((bt a1 (ji27)) == 125) = true := beq_iff_eq.mpr c33
                                              have c33b1 : ((bt a1 (ji27)) != 125) = false := bne_eq_false_iff_eq.mpr c33
                                              clear c33
                                              have H' := Aside0.mk H
                                              clear H
                                              have p30 : 0 ≤ ((ji27) : Int) := of_decide_eq_true (by first | (with_reducible assumption) | assumption)
                                              have q30 : (ji27) < (a1.size : Int) := of_decide_eq_true (by first | (with_reducible assumption) | assumption)
                                              have hx30 := bt_at a1 (ji27)
                                              replace p30 := eq_true p30
                                              replace q30 := eq_true q30
                                              go_wp2
                                              go_meet
                                              case rel => exact ⟨_, (ji27), (bt a1 (ji27)), (by first | rfl | (simp; done) | (simp only [← hji27] <;> (first | rfl | simp)) | (simp [*]; done)), (by first | rfl | (simp; done) | (simp only [← hji27] <;> (first | rfl | simp)) | (simp [*]; done)), H', ⟨by have := HJ2.out; have := HK2.out; have := HJ10.out; have := HJ14.out; first | omega | exact Nat.le_refl _⟩, ⟨by (with_reducible repeat (first | apply Kd.R_alloc | apply Kd.R_drewN | apply Kd.R_drew)); exact HO_7.out⟩, ⟨by repeat (first | (with_reducible first | exact HB.out | apply below_alloc | apply pw_below_drewN | apply below_drew1) | exact HB.out)⟩⟩
                                            · rw [if_neg c33] at H
                                              have c33b0 : ((bt a1 (ji27)) == 125) = false := beq_eq_false_iff_ne.mpr c33
                                              have c33b1 : ((bt a1 (ji27)) != 125) = true := bne_iff_ne.mpr c33
                                              by_cases c34 : a0 = 1
                                              · rw [if_pos c34] at H
                                                have c34b0 : (a0 == 1) = true := beq_iff_eq.mpr c34
                                                have c34b1 : (a0 != 1) = false := bne_eq_false_iff_eq.mpr c34
                                                clear c34
                                                by_cases c35 : ((bt a1 (ji27)) = 42)
                                                · rw [if_pos c35] at H
                                                  have c35b0 : ((bt a1 (ji27)) == 42) = true := beq_iff_eq.mpr c35
                                                  have c35b1 : ((bt a1 (ji27)) != 42) = false := bne_eq_false_iff_eq.mpr c35
                                                  clear c35
                                                  have H' := Aside0.mk H
                                                  clear H
                                                  have p30 : 0 ≤ ((ji27) : Int) := of_decide_eq_true (by first | (with_reducible assumption) | assumption)
                                                  have q30 : (ji27) < (a1.size : Int) := of_decide_eq_true (by first | (with_reducible assumption) | assumption)
                                                  have hx30 := bt_at a1 (ji27)
                                                  replace p30 := eq_true p30
                                                  replace q30 := eq_true q30
                                                  go_wp2
                                                  go_meet
                                                  case rel => exact ⟨_, (ji27), (bt a1 (ji27)), (by first | rfl | (simp; done) | (simp only [← hji27] <;> (first | rfl | simp)) | (simp [*]; done)), (by first | rfl | (simp; done) | (simp only [← hji27] <;> (first | rfl | simp)) | (simp [*]; done)), H', ⟨by have := HJ2.out; have := HK2.out; have := HJ10.out; have := HJ14.out; first | omega | exact Nat.le_refl _⟩, ⟨by (with_reducible repeat (first | apply Kd.R_alloc | apply Kd.R_drewN | apply Kd.R_drew)); exact HO_7.out⟩, ⟨by repeat (first | (with_reducible first | exact HB.out | apply below_alloc | apply pw_below_drewN | apply below_drew1) | exact HB.out)⟩⟩
                                                · rw [if_neg c35] at H
                                                  have c35b0 : ((bt a1 (ji27)) == 42) = false := beq_eq_false_iff_ne.mpr c35
                                                  have c35b1 : ((bt a1 (ji27)) != 42) = true := bne_iff_ne.mpr c35
                                                  simp only [Option.some.injEq, Prod.mk.injEq] at H
                                                  obtain ⟨rfl, rfl, rfl⟩ := H
                                                  have p30 : 0 ≤ ((ji27) : Int) := of_decide_eq_true (by first | (with_reducible assumption) | assumption)
                                                  have q30 : (ji27) < (a1.size : Int) := of_decide_eq_true (by first | (with_reducible assumption) | assumption)
                                                  have hx30 := bt_at a1 (ji27)
                                                  replace p30 := eq_true p30
                                                  replace q30 := eq_true q30
                                                  go_wp2
                                                  go_ret3
                                                  exact ⟨by first | rfl | (simp [errW_none, errW_some] <;> rfl) | (simp only [← hji27]; first | rfl | (simp [errW_none, errW_some] <;> rfl)) | (simp [*, errW_none, errW_some] <;> rfl), by repeat (first | (with_reducible first | exact HB.out | apply below_alloc | apply pw_below_drewN | apply below_drew1) | exact HB.out)⟩
                                              · rw [if_neg c34] at H
                                                have c34b0 : (a0 == 1) = false := beq_eq_false_iff_ne.mpr c34
                                                have c34b1 : (a0 != 1) = true := bne_iff_ne.mpr c34
                                                simp only [Option.some.injEq, Prod.mk.injEq] at H
                                                obtain ⟨rfl, rfl, rfl⟩ := H
                                                have p30 : 0 ≤ ((ji27) : Int) := of_decide_eq_true (by first | (with_reducible assumption) | assumption)
                                                have q30 : (ji27) < (a1.size : Int) := of_decide_eq_true (by first | (with_reducible assumption) | assumption)
                                                have hx30 := bt_at a1 (ji27)
                                                replace p30 := eq_true p30
                                                replace q30 := eq_true q30
                                                go_wp2
                                                go_ret3
                                                exact ⟨by first | rfl | (simp [errW_none, errW_some] <;> rfl) | (simp only [← hji27]; first | rfl | (simp [errW_none, errW_some] <;> rfl)) | (simp [*, errW_none, errW_some] <;> rfl), by repeat (first | (with_reducible first | exact HB.out | apply below_alloc | apply pw_below_drewN | apply below_drew1) | exact HB.out)⟩
                                          · rw [if_neg c32] at H
                                            have c32b0 : (a0 == 0) = false := beq_eq_false_iff_ne.mpr c32
                                            have c32b1 : (a0 != 0) = true := bne_iff_ne.mpr c32
                                            by_cases c36 : a0 = 1
                                            · rw [if_pos c36] at H
                                              have c36b0 : (a0 == 1) = true := beq_iff_eq.mpr c36
                                              have c36b1 : (a0 != 1) = false := bne_eq_false_iff_eq.mpr c36
                                              clear c36
                                              by_cases c37 : ((bt a1 (ji27)) = 42)
                                              · rw [if_pos c37] at H
                                                have c37b0 : ((bt a1 (ji27)) == 42) = true := beq_iff_eq.mpr c37
                                                have c37b1 : ((bt a1 (ji27)) != 42) = false := bne_eq_false_iff_eq.mpr c37
                                                clear c37
                                                have H' := Aside0.mk H
                                                clear H
                                                have p30 : 0 ≤ ((ji27) : Int) := of_decide_eq_true (by first | (with_reducible assumption) | assumption)
                                                have q30 : (ji27) < (a1.size : Int) := of_decide_eq_true (by first | (with_reducible assumption) | assumption)
                                                have hx30 := bt_at a1 (ji27)
                                                replace p30 := eq_true p30
                                                replace q30 := eq_true q30
                                                go_wp2
                                                go_meet
                                                case rel => exact ⟨_, (ji27), (bt a1 (ji27)), (by first | rfl | (simp; done) | (simp only [← hji27] <;> (first | rfl | simp)) | (simp [*]; done)), (by first | rfl | (simp; done) | (simp only [← hji27] <;> (first | rfl | simp)) | (simp [*]; done)), H', ⟨by have := HJ2.out; have := HK2.out; have := HJ10.out; have := HJ14.out; first | omega | exact Nat.le_refl _⟩, ⟨by (with_reducible repeat (first | apply Kd.R_alloc | apply Kd.R_drewN | apply Kd.R_drew)); exact HO_7.out⟩, ⟨by repeat (first | (with_reducible first | exact HB.out | apply below_alloc | apply pw_below_drewN | apply below_drew1) | exact HB.out)⟩⟩
                                              · rw [if_neg c37] at H
                                                have c37b0 : ((bt a1 (ji27)) == 42) = false := beq_eq_false_iff_ne.mpr c37
                                                have c37b1 : ((bt a1 (ji27)) != 42) = true := bne_iff_ne.mpr c37
                                                simp only [Option.some.injEq, Prod.mk.injEq] at H
                                                obtain ⟨rfl, rfl, rfl⟩ := H
                                                have p30 : 0 ≤ ((ji27) : Int) := of_decide_eq_true (by first | (with_reducible assumption) | assumption)
                                                have q30 : (ji27) < (a1.size : Int) := of_decide_eq_true (by first | (with_reducible assumption) | assumption)
                                                have hx30 := bt_at a1 (ji27)
                                                replace p30 := eq_true p30
                                                replace q30 := eq_true q30
                                                go_wp2
                                                go_ret3
                                                exact ⟨by first | rfl | (simp [errW_none, errW_some] <;> rfl) | (simp only [← hji27]; first | rfl | (simp [errW_none, errW_some] <;> rfl)) | (simp [*, errW_none, errW_some] <;> rfl), by repeat (first | (with_reducible first | exact HB.out | apply below_alloc | apply pw_below_drewN | apply below_drew1) | exact HB.out)⟩
                                            · rw [if_neg c36] at H
                                              have c36b0 : (a0 == 1) = false := beq_eq_false_iff_ne.mpr c36
                                              have c36b1 : (a0 != 1) = true := bne_iff_ne.mpr c36
                                              simp only [Option.some.injEq, Prod.mk.injEq] at H
                                              obtain ⟨rfl, rfl, rfl⟩ := H
                                              have p30 : 0 ≤ ((ji27) : Int) := of_decide_eq_true (by first | (with_reducible assumption) | assumption)
                                              have q30 : (ji27) < (a1.size : Int) := of_decide_eq_true (by first | (with_reducible assumption) | assumption)
                                              have hx30 := bt_at a1 (ji27)
                                              replace p30 := eq_true p30
                                              replace q30 := eq_true q30
                                              go_wp2
                                              go_ret3
                                              exact ⟨by first | rfl | (simp [errW_none, errW_some] <;> rfl) | (simp only [← hji27]; first | rfl | (simp [errW_none, errW_some] <;> rfl)) | (simp [*, errW_none, errW_some] <;> rfl), by repeat (first | (with_reducible first | exact HB.out | apply below_alloc | apply pw_below_drewN | apply below_drew1) | exact HB.out)⟩
                                      · rw [if_neg c29] at H
                                        exact absurd H (by simp)
                                    · rw [if_neg c28] at H
                                      exact absurd H (by simp)
                                · rw [if_neg c25] at H
                                  have c25b0 : ((bt a1 x8_2) == 92) = false := beq_eq_false_iff_ne.mpr c25
                                  have c25b1 : ((bt a1 x8_2) != 92) = true := bne_iff_ne.mpr c25
                                  (first | rw [c25b0] | (simp only [i64_w, i32_w]; rw [c25b0]) | skip)
                                  have H' := Aside0.mk H
                                  clear H
                                  go_wp2
                                  go_meet
                                  case rel => exact ⟨_, (x8_2), ((bt a1 x8_2)), (by first | rfl | (simp; done) | (simp [*]; done)), (by first | rfl | (simp; done) | (simp [*]; done)), H', ⟨by have := HJ2.out; have := HK2.out; have := HJ10.out; have := HJ14.out; first | omega | exact Nat.le_refl _⟩, ⟨by (with_reducible repeat (first | apply Kd.R_alloc | apply Kd.R_drewN | apply Kd.R_drew)); exact HO_7.out⟩, ⟨by repeat (first | (with_reducible first | exact HB.out | apply below_alloc | apply pw_below_drewN | apply below_drew1) | exact HB.out)⟩⟩
                              case rest =>
                                clear HC24
                                try clear c1
                                try clear p1
                                try clear q1
                                try clear hx1
                                try clear hcv1
                                try clear c2
                                try clear p2
                                try clear q2
                                try clear hx2
                                try clear hcv2
                                try clear c3
                                try clear p3
                                try clear q3
                                try clear hx3
                                try clear c4
                                try clear c4b0
                                try clear c4b1
                                try clear c5
                                try clear p6
                                try clear c7
                                try clear c8
                                try clear c8b0
                                try clear c9
                                try clear c9b0
                                try clear p10
                                try clear q10
                                try clear hx10
                                try clear c12
                                try clear c12b0
                                try clear c12b1
                                try clear c13
                                try clear hcv14
                                try clear c16
                                try clear c16b0
                                try clear c16b1
                                try clear c17
                                try clear c17b0
                                try clear c17b1
                                try clear c18
                                try clear c18b0
                                try clear c20
                                try clear c20b0
                                try clear p21
                                try clear q21
                                try clear hx21
                                try clear c22
                                try clear hcv23
                                try clear c25
                                try clear c25b0
                                try clear c25b1
                                try clear c26
                                try clear c26b0
                                try clear c26b1
                                try clear c28
                                try clear c28b0
                                try clear c29
                                try clear c29b0
                                try clear p30
                                try clear q30
                                try clear hx30
                                try clear c31
                                try clear c31b0
                                try clear c31b1
                                try clear c32
                                try clear c32b0
                                try clear c32b1
                                try clear c33
                                try clear c33b0
                                try clear c33b1
                                try clear c34
                                try clear c34b0
                                try clear c34b1
                                try clear c35
                                try clear c35b0
                                try clear c35b1
                                try clear c36
                                try clear c36b0
                                try clear c36b1
                                try clear c37
                                try clear c37b0
                                try clear c37b1
                                try clear p1
                                try clear p10
                                try clear p2
                                try clear p21
                                try clear p30
                                try clear p6
                                try clear q1
                                try clear q10
                                try clear q2
                                try clear q21
                                try clear q30
                                obtain ⟨kq, x8_23, x9_23, rfl, rfl, HA, HJ23, HO_7, HB⟩ := hcut
                                cases kq with
                                | zero => exact absurd HA.out (by simp [pantographref02_Read.j4])
                                | succ kj23 =>
                                  have H := HA.out
                                  clear HA
                                  simp only [pantographref02_Read.j4] at H
                                  replace H := Option.bind_eq_some_iff.mp H
                                  obtain ⟨t204, A380, H⟩ := H
                                  replace H : (if t204 = true then (if (x7_2.length : Int) = 1024 then (some ((⟨#[]⟩ : ByteArray), 0, 3)) else (if x7_2.length < 140737488355328 then (pantographref02_Read.l0 kj23 a0 a1 (x7_2 ++ [x9_23]) (wrap64 (x8_23 + 1))) else (none))) else (some ((⟨#[]⟩ : ByteArray), 0, 8))) = some (r1, r2, r3) := H
                                  have A38 := Aside0.mk A380
                                  clear A380
                                  by_cases c39 : t204 = true
                                  · subst c39
                                    have H1 : (if (x7_2.length : Int) = 1024 then (some ((⟨#[]⟩ : ByteArray), 0, 3)) else (if x7_2.length < 140737488355328 then (pantographref02_Read.l0 kj23 a0 a1 (x7_2 ++ [x9_23]) (wrap64 (x8_23 + 1))) else (none))) = some (r1, r2, r3) := by rw [if_pos rfl] at H; exact H
                                    clear H
                                    have H := H1
                                    clear H1
                                    by_cases c40 : (x7_2.length : Int) = 1024
                                    · rw [if_pos c40] at H
                                      have c40b0 : ((x7_2.length : Int) == 1024) = true := beq_iff_eq.mpr c40
                                      have c40b1 : ((x7_2.length : Int) != 1024) = false := bne_eq_false_iff_eq.mpr c40
                                      clear c40
                                      simp only [Option.some.injEq, Prod.mk.injEq] at H
                                      obtain ⟨rfl, rfl, rfl⟩ := H
                                      go_wp2_with (first | ((with_reducible refine gate_callee (f := 25) rfl ?_); refine goesL_ (some 95) rfl rfl Try.func25 (by kernel_rfl) rfl #[.int .u8 x9_23] rfl (by (try simp only [List.map_toArray, List.map_cons, List.map_nil]); first | done | rfl | (simp only [List.length_drop, List.length_take]; rfl)) ?_; (with_reducible refine (pantographref02_right.calls x9_23 true _ A38.out).mono ?_); rintro e w' ⟨rfl, ⟨nd, rfl⟩⟩; refine ⟨_, rfl, ?_⟩; obtain ⟨Ao41, co41, eo41⟩ := Kd.R_slice HO_7.out; subst eo41))
                                      go_ret3
                                      exact ⟨by first | rfl | (simp [errW_none, errW_some] <;> rfl) | (simp [*, errW_none, errW_some] <;> rfl), by repeat (first | (with_reducible first | exact HB.out | apply below_alloc | apply pw_below_drewN | apply below_drew1) | exact HB.out)⟩
                                    · rw [if_neg c40] at H
                                      have c40b0 : ((x7_2.length : Int) == 1024) = false := beq_eq_false_iff_ne.mpr c40
                                      have c40b1 : ((x7_2.length : Int) != 1024) = true := bne_iff_ne.mpr c40
                                      by_cases c42 : x7_2.length < 140737488355328
                                      · rw [if_pos c42] at H
                                        have LMc42 := Aside0.mk c42
                                        clear c42
                                        obtain ⟨y205, hy205⟩ : ∃ y_ : List Int, y_ = (x7_2 ++ [x9_23]) := ⟨_, rfl⟩
                                        replace H : (pantographref02_Read.l0 kj23 a0 a1 y205 (wrap64 (x8_23 + 1))) = some (r1, r2, r3) := by first | (rw [hy205]; with_reducible exact H) | (have H2_ := (Option.bind_some _ _).symm.trans H; rw [hy205]; with_reducible exact H2_) | (have H2_ := (Option.bind_some _ _).symm.trans H; with_reducible exact H2_) | with_reducible exact H | (rw [hy205]; exact H) | exact H
                                        have Ny205 := Aside0.mk hy205
                                        clear hy205
                                        have H' := Aside0.mk H
                                        clear H
                                        go_wp2_with (first | ((with_reducible refine gate_callee (f := 25) rfl ?_); refine goesL_ (some 95) rfl rfl Try.func25 (by kernel_rfl) rfl #[.int .u8 x9_23] rfl (by (try simp only [List.map_toArray, List.map_cons, List.map_nil]); first | done | rfl | (simp only [List.length_drop, List.length_take]; rfl)) ?_; (with_reducible refine (pantographref02_right.calls x9_23 true _ A38.out).mono ?_); rintro e w' ⟨rfl, ⟨nd, rfl⟩⟩; refine ⟨_, rfl, ?_⟩; obtain ⟨Ao43, co43, eo43⟩ := Kd.R_slice HO_7.out; subst eo43) | ((with_reducible refine gate_builtin (b := .append) (xs := #[.tmp 100, .tmp 102]) rfl ?_); (try (refine gate_guard (by rfl) ?_; dsimp only)); at_builtin; refine Kd.R_append (Kd.int .u8) (w0 := w) w.heap.size rfl (.tmp 100) (.tmp 102) 44 5 (.int .u8 0) 1 rfl Try.underlying44 info5 rfl (by decide) (by omega) (.slice Ao43 x7_2.length co43) x7_2 x9_23 [.int .u8 x9_23] (fun _ => True) (fun _ => False) rfl rfl ?aP (fun _ hk => hk.elim) ?aF ?aO ?aB ?aS ?aL ?_; (case aP => exact rfl); (case aB => exact (by repeat (first | (with_reducible first | exact HB.out | apply below_alloc | apply pw_below_drewN | apply below_drew1) | exact HB.out))); (case aF => exact (fun _ _ => trivial)); (case aO => exact (by (with_reducible repeat (first | apply Kd.R_alloc | apply Kd.R_drewN | apply Kd.R_drew)); exact HO_7.out)); (case aS => exact (below_size (by repeat (first | (with_reducible first | exact HB.out | apply below_alloc | apply pw_below_drewN | apply below_drew1) | exact HB.out)))); (case aL => have := LMc42.out; omega); intro v206 w44 ho hb hg hat; rw [← Ny205.out] at ho; have n0_ := Aside0.mk (hb); have n1_ := Aside0.mk (ho); clear HB; clear HO_7; have HB := n0_; have HO207 := n1_; clear n0_ n1_; clear ho hb hg hat))
                                        go_roundg kj23
                                        case measure => have := HJ2.out; have := HK2.out; have := HJ10.out; have := HJ14.out; have := HJ23.out; omega
                                        case rel => exact ⟨(y205), (wrap64 (x8_23 + 1)), (by first | rfl | (simp; done) | (simp [*]; done)), H', ⟨by have := HJ2.out; have := HK2.out; have := HJ10.out; have := HJ14.out; have := HJ23.out; omega⟩, ⟨by (with_reducible repeat (first | apply Kd.R_alloc | apply Kd.R_drewN | apply Kd.R_drew)); exact HO207.out⟩, ⟨by repeat (first | (with_reducible first | exact HB.out | apply below_alloc | apply pw_below_drewN | apply below_drew1) | exact HB.out)⟩⟩
                                      · rw [if_neg c42] at H
                                        exact absurd H (by simp)
                                  · replace c39 := Bool.eq_false_iff.mpr c39
                                    subst c39
                                    have H1 : (some ((⟨#[]⟩ : ByteArray), 0, 8)) = some (r1, r2, r3) := by rw [if_neg (show ¬ (false = true) by decide)] at H; exact H
                                    clear H
                                    have H := H1
                                    clear H1
                                    simp only [Option.some.injEq, Prod.mk.injEq] at H
                                    obtain ⟨rfl, rfl, rfl⟩ := H
                                    go_wp2_with (first | ((with_reducible refine gate_callee (f := 25) rfl ?_); refine goesL_ (some 95) rfl rfl Try.func25 (by kernel_rfl) rfl #[.int .u8 x9_23] rfl (by (try simp only [List.map_toArray, List.map_cons, List.map_nil]); first | done | rfl | (simp only [List.length_drop, List.length_take]; rfl)) ?_; (with_reducible refine (pantographref02_right.calls x9_23 false _ A38.out).mono ?_); rintro e w' ⟨rfl, ⟨nd, rfl⟩⟩; refine ⟨_, rfl, ?_⟩))
                                    go_ret3
                                    exact ⟨by first | rfl | (simp [errW_none, errW_some] <;> rfl) | (simp [*, errW_none, errW_some] <;> rfl), by repeat (first | (with_reducible first | exact HB.out | apply below_alloc | apply pw_below_drewN | apply below_drew1) | exact HB.out)⟩
                · rw [if_neg c9] at H
                  exact absurd H (by simp)
              · rw [if_neg c8] at H
                have c8b0 : decide (x8_2 < (a1.size : Int)) = false := decide_eq_false c8
                clear c8
                simp only [Option.some.injEq, Prod.mk.injEq] at H
                obtain ⟨rfl, rfl, rfl⟩ := H
                go_wp2
                go_ret3
                exact ⟨by first | rfl | (simp [errW_none, errW_some] <;> rfl) | (simp [*, errW_none, errW_some] <;> rfl), by repeat (first | (with_reducible first | exact HB.out | apply below_alloc | apply pw_below_drewN | apply below_drew1) | exact HB.out)⟩
        · replace c7 := Bool.eq_false_iff.mpr c7
          subst c7
          have H1 : (some ((⟨#[]⟩ : ByteArray), 0, 8)) = some (r1, r2, r3) := by rw [if_neg (show ¬ (false = true) by decide)] at H; exact H
          clear H
          have H := H1
          clear H1
          simp only [Option.some.injEq, Prod.mk.injEq] at H
          obtain ⟨rfl, rfl, rfl⟩ := H
          go_wp2_with (first | ((with_reducible refine gate_callee (f := 18) rfl ?_); refine goesL_ (some 18) rfl rfl Try.func18 (by kernel_rfl) rfl #[.int .i64 a0, .string a1] rfl (by (try simp only [List.map_toArray, List.map_cons, List.map_nil]); first | done | rfl | (simp only [List.length_drop, List.length_take]; rfl)) ?_; (with_reducible refine (pantographref02_Begins.calls a0 a1 false _ A6.out).mono ?_); rintro e w' ⟨rfl, ⟨nd, rfl⟩⟩; refine ⟨_, rfl, ?_⟩))
          go_ret3
          exact ⟨by first | rfl | (simp [errW_none, errW_some] <;> rfl) | (simp [*, errW_none, errW_some] <;> rfl), by repeat (first | (with_reducible first | exact HB.out | apply below_alloc | apply pw_below_drewN | apply below_drew1) | exact HB.out)⟩

end Go.Proofs.Ytnommbcendoncaa.L

/- The contract of strings.IndexByte in the printer's form, and of the reference's Begins. -/
import Derived.Test.YtnommbcendoncaaB
import Derived.Shelf.Small.Strs
import Derived.Lib.Strings
import Derived.WalkKit
import Derived.Lib.Hide
namespace Go.Proofs.Ytnommbcendoncaa.Fx
open Go.RowKit Go.Shelf Go.Proofs.Ytnommbcendoncaa.B Go.Proofs.YtnommbcendoncaaW.PrintWords Go.Proofs.YtnommbcendoncaaW.PrintLast Go.Proofs.YtnommbcendoncaaW.PrintMore
def ren : Go.Shelf.Ren := ⟨fun | 137 => 26 | 217 => 29 | 266 => 31 | n => n, fun | 9 => 9 | 5 => 5 | 3 => 3 | n => n, fun | n => n⟩
theorem lays137 : Go.Proofs.Lays.n137 Try.prog ren := {
  mixed := by kernel_rfl
  f137 := Try.func26.trans (congrArg some (by kernel_rfl))
  f217 := Try.func29.trans (congrArg some (by kernel_rfl))
  f266 := Try.func31.trans (congrArg some (by kernel_rfl))
  t3 := Try.underlying3
  a3 := Try.isAgg3
  z3 := Try.sizeOf3
  v3 := Try.zeroValue3
  t5 := Try.underlying5
  a5 := Try.isAgg5
  z5 := Try.sizeOf5
  v5 := Try.zeroValue5
  t9 := Try.underlying9
  a9 := Try.isAgg9
  z9 := Try.sizeOf9
  v9 := Try.zeroValue9 }
def strings_IndexByte.f (a0 : ByteArray) (a1 : Int) : Option Int := some (Lib.indexByte a0.data.toList a1.toNat.toUInt8)
theorem strings_IndexByte.calls (a0 : ByteArray) (a1 : Int) (r : Int) (w : World) (h : strings_IndexByte.f a0 a1 = some r) :
    Calls Try.prog 26 #[.string a0, .int .u8 a1] w fun e w' => e = .returned (.int .i64 r) ∧ Drawn0 w w' := by
  refine (Any.strings_IndexByte lays137 a0 a1 w).mono ?_
  rintro e w' ⟨rfl, rfl⟩
  obtain rfl := Option.some.inj h
  exact ⟨rfl, Drawn0.refl _⟩

def pantographref02_Begins.f (a0 : Int) (a1 : ByteArray) : Option Bool :=
  if a0 = 0 then (if 0 < a1.size then some (decide (bt a1 0 = 123)) else some false)
  else if a0 = 1 then (if 1 < a1.size then (if bt a1 0 = 47 then some (decide (bt a1 1 = 42)) else some false) else some false) else some false
set_option maxHeartbeats 4000000 in
theorem pantographref02_Begins.calls (a0 : Int) (a1 : ByteArray) (r : Bool) (w : World) (h : pantographref02_Begins.f a0 a1 = some r) :
    Calls Try.prog 18 #[.int .i64 a0, .string a1] w fun e w' => e = .returned (.bool r) ∧ Drawn0 w w' := by
  have H := Lib.hid h; clear h
  have x0 : ∀ h : 0 < a1.size, ((a1[0]'h).toNat : Int) = bt a1 0 := bt_at a1 0
  have x1 : ∀ h : 1 < a1.size, ((a1[1]'h).toNat : Int) = bt a1 1 := bt_at a1 1
  by_cases h0 : a0 = 0
  · subst h0
    by_cases hs : 0 < a1.size
    · have hr : (decide (bt a1 0 = 123)) = r := by have := H.out; unfold pantographref02_Begins.f at this; rw [if_pos rfl, if_pos hs] at this; exact Option.some.inj this
      clear H; subst hr
      have hi : (0 : Int) < (a1.size : Int) := by omega
      by_cases hb : bt a1 0 = 123
      · have hb1 : (bt a1 0 == 123) = true := beq_iff_eq.mpr hb
        have hb2 := decide_eq_true hb
        clear hb
        go_enter Try.func18, Try.ntmps18
        go_wp2
        go_ret
        exact ⟨by first | rfl | simp [hb2], by repeat (first | exact Drawn0.refl _ | apply Drawn0.step)⟩
      · have hb1 : (bt a1 0 == 123) = false := beq_eq_false_iff_ne.mpr hb
        have hb2 := decide_eq_false hb
        clear hb
        go_enter Try.func18, Try.ntmps18
        go_wp2
        go_ret
        exact ⟨by first | rfl | simp [hb2], by repeat (first | exact Drawn0.refl _ | apply Drawn0.step)⟩
    · have hr : false = r := by have := H.out; unfold pantographref02_Begins.f at this; rw [if_pos rfl, if_neg hs] at this; exact Option.some.inj this
      clear H; subst hr
      have hn : decide ((0 : Int) < (a1.size : Int)) = false := decide_eq_false (by omega)
      have hn2 : decide (0 < a1.size) = false := decide_eq_false (by omega)
      clear x0 x1
      go_enter Try.func18, Try.ntmps18
      go_wp2
      go_ret
      exact ⟨rfl, by repeat (first | exact Drawn0.refl _ | apply Drawn0.step)⟩
  · have hz : (a0 == 0) = false := beq_eq_false_iff_ne.mpr h0
    by_cases h1 : a0 = 1
    · subst h1
      by_cases hs : 1 < a1.size
      · have hi0 : (0 : Int) < (a1.size : Int) := by omega
        have hi1 : (1 : Int) < (a1.size : Int) := by omega
        by_cases hb : bt a1 0 = 47
        · have hr : (decide (bt a1 1 = 42)) = r := by have := H.out; unfold pantographref02_Begins.f at this; rw [if_neg h0, if_pos rfl, if_pos hs, if_pos hb] at this; exact Option.some.inj this
          clear H; subst hr
          have hb1 : (bt a1 0 == 47) = true := beq_iff_eq.mpr hb
          clear hb h0
          by_cases hb : bt a1 1 = 42
          · have hb2 : (bt a1 1 == 42) = true := beq_iff_eq.mpr hb
            have hb3 := decide_eq_true hb
            clear hb
            go_enter Try.func18, Try.ntmps18
            go_wp2
            go_ret
            exact ⟨by first | rfl | simp [hb3], by repeat (first | exact Drawn0.refl _ | apply Drawn0.step)⟩
          · have hb2 : (bt a1 1 == 42) = false := beq_eq_false_iff_ne.mpr hb
            have hb3 := decide_eq_false hb
            clear hb
            go_enter Try.func18, Try.ntmps18
            go_wp2
            go_ret
            exact ⟨by first | rfl | simp [hb3], by repeat (first | exact Drawn0.refl _ | apply Drawn0.step)⟩
        · have hr : false = r := by have := H.out; unfold pantographref02_Begins.f at this; rw [if_neg h0, if_pos rfl, if_pos hs, if_neg hb] at this; exact Option.some.inj this
          clear H; subst hr
          have hb1 : (bt a1 0 == 47) = false := beq_eq_false_iff_ne.mpr hb
          clear hb h0
          go_enter Try.func18, Try.ntmps18
          go_wp2
          go_ret
          exact ⟨rfl, by repeat (first | exact Drawn0.refl _ | apply Drawn0.step)⟩
      · have hr : false = r := by have := H.out; unfold pantographref02_Begins.f at this; rw [if_neg h0, if_pos rfl, if_neg hs] at this; exact Option.some.inj this
        clear H; subst hr
        have hn : decide ((1 : Int) < (a1.size : Int)) = false := decide_eq_false (by omega)
        have hn2 : decide (1 < a1.size) = false := decide_eq_false (by omega)
        clear x0 x1 h0
        go_enter Try.func18, Try.ntmps18
        go_wp2
        go_ret
        exact ⟨rfl, by repeat (first | exact Drawn0.refl _ | apply Drawn0.step)⟩
    · have hr : false = r := by have := H.out; unfold pantographref02_Begins.f at this; rw [if_neg h0, if_neg h1] at this; exact Option.some.inj this
      clear H; subst hr
      have hz1 : (a0 == 1) = false := beq_eq_false_iff_ne.mpr h1
      clear x0 x1 h0 h1
      go_enter Try.func18, Try.ntmps18
      go_wp2
      go_ret
      exact ⟨rfl, by repeat (first | exact Drawn0.refl _ | apply Drawn0.step)⟩
end Go.Proofs.Ytnommbcendoncaa.Fx

/- The document's examples. -/
import Derived.Test.YtmgdbmojfadahaaDoorWc
set_option linter.unusedVariables false
set_option linter.unusedSimpArgs false
namespace Go.Proofs.YtmgdbmojfadahaaDoor.Wd
open Go.RowKit Go.Proofs.YtmgdbmojfadahaaDoorW.PrintWords Go.Proofs.YtmgdbmojfadahaaDoorW.PrintLast Go.Proofs.YtmgdbmojfadahaaDoorW.PrintMore Go.Proofs.YtmgdbmojfadahaaDoor.R
theorem tries_at (taken : List ByteArray) (s : ByteArray) (k : Nat) (hb : ∀ j, j < k → bad taken (name s j) = true) (hf : bad taken (name s k) = false) : tries taken s = k := by
  rcases Nat.lt_trichotomy (tries taken s) k with h | h | h
  · have := hb _ h
    rw [tries_free] at this; cases this
  · exact h
  · have := tries_bad taken s k h
    rw [hf] at this; cases this
theorem C_lit (W : World) (xs : List ByteArray) (inner : Array Value) (hi : inner = (xs.map Value.string).toArray) (hm : xs.length ≤ 1000) : Kd.string.C (W.alloc (.cells inner 9)) (some ⟨W.heap.size, 0, none⟩) xs.length xs := by
  subst hi
  obtain ⟨A, c, he, _, hc⟩ := Kd.R_reads (R_fields W xs hm)
  injection he with h1 h2 h3
  subst h1
  exact hc
theorem dec1 : decB 1 = ⟨#[49]⟩ := by unfold decB; rw [Lib.decDigits_one (by decide)]; rfl
theorem dec2 : decB 2 = ⟨#[50]⟩ := by unfold decB; rw [Lib.decDigits_one (by decide)]; rfl
theorem fresh_begin : fresh ⟨#[98, 101, 103, 105, 110]⟩ [] = ⟨#[98, 101, 103, 105, 110, 95, 49]⟩ := by
  have h1 : name ⟨#[98, 101, 103, 105, 110]⟩ 1 = ⟨#[98, 101, 103, 105, 110, 95, 49]⟩ := by show base _ ++ ⟨#[95]⟩ ++ decB 1 = _; rw [dec1]; rfl
  have : tries [] ⟨#[98, 101, 103, 105, 110]⟩ = 1 := tries_at _ _ 1 (fun j hj => by
    obtain rfl : j = 0 := by omega
    show bad [] ⟨#[98, 101, 103, 105, 110]⟩ = true
    kernel_rfl) (by rw [h1]; kernel_rfl)
  unfold fresh
  rw [this, h1]
theorem fresh_a : fresh ⟨#[97]⟩ [] = ⟨#[97]⟩ := by
  have : tries [] ⟨#[97]⟩ = 0 := tries_at _ _ 0 (fun j hj => by omega) (by show bad [] ⟨#[97]⟩ = false; kernel_rfl)
  unfold fresh
  rw [this]; rfl
theorem fresh_a2 : fresh ⟨#[97]⟩ [⟨#[97]⟩, ⟨#[97, 95, 49]⟩] = ⟨#[97, 95, 50]⟩ := by
  have h1 : name ⟨#[97]⟩ 1 = ⟨#[97, 95, 49]⟩ := by show base _ ++ ⟨#[95]⟩ ++ decB 1 = _; rw [dec1]; rfl
  have h2 : name ⟨#[97]⟩ 2 = ⟨#[97, 95, 50]⟩ := by show base _ ++ ⟨#[95]⟩ ++ decB 2 = _; rw [dec2]; rfl
  have : tries [⟨#[97]⟩, ⟨#[97, 95, 49]⟩] ⟨#[97]⟩ = 2 := tries_at _ _ 2 (fun j hj => by
    rcases (show j = 0 ∨ j = 1 from by omega) with rfl | rfl
    · show bad [⟨#[97]⟩, ⟨#[97, 95, 49]⟩] ⟨#[97]⟩ = true
      kernel_rfl
    · rw [h1]; kernel_rfl) (by rw [h2]; kernel_rfl)
  unfold fresh
  rw [this, h2]
theorem clash_ex : clash (lst 1) [⟨#[120]⟩, ⟨#[105, 110, 116]⟩, ⟨#[112, 117, 116]⟩, ⟨#[105, 110, 116]⟩] = [⟨#[105, 110, 116]⟩, ⟨#[112, 117, 116]⟩] := by kernel_rfl
def RetB (v : Value) (w : World) (e : Ending) (w' : World) : Prop := e = .returned v ∧ Below w.heap.size w w'
set_option maxHeartbeats 8000000 in
set_option maxRecDepth 1000000 in
theorem awake (w : World) (ht : Tab w) : Calls Tryd.prog 14 #[] w (RetB (.bool true) w) := by
  have HT := Lib.hid ht
  clear ht
  go_enter Tryd.func14, Tryd.ntmps14
  go_wp2_with (first | (go_at_call 15; go_must (refine (fresh_any ⟨#[98, 101, 103, 105, 110]⟩ none 0 [] _ HT.out (Kd.C_nil Kd.string _) (by decide) (by decide)).mono ?_)))
  rintro e w1 ⟨rfl, hb⟩
  rw [fresh_begin]
  have HB1 := Lib.hid hb
  clear hb
  go_wp2_with (first | (go_at_call 15; go_must (refine (fresh_any ⟨#[97]⟩ none 0 [] _ (tab_below HT.out HB1.out) (Kd.C_nil Kd.string _) (by decide) (by decide)).mono ?_)))
  rintro e w2 ⟨rfl, hb⟩
  rw [fresh_a]
  have HB2 := Lib.hid (below_weaken HB1.out HB1.out.size hb)
  clear hb HB1
  go_wp2_with (first | (go_at_call 15; go_must (refine (fresh_any ⟨#[97]⟩ _ 2 [⟨#[97]⟩, ⟨#[97, 95, 49]⟩] _ (tab_below HT.out (below_alloc HB2.out _)) (C_lit _ [⟨#[97]⟩, ⟨#[97, 95, 49]⟩] _ rfl (by decide)) (by decide) (by decide)).mono ?_)))
  rintro e w3 ⟨rfl, hb⟩
  rw [fresh_a2]
  have HB3 := Lib.hid (below_weaken (below_alloc HB2.out _) (le_alloc _ _ HB2.out.size) hb)
  clear hb HB2
  go_wp2_with (first | (go_at_call 18; go_must (refine (clash_any 1 _ 4 [⟨#[120]⟩, ⟨#[105, 110, 116]⟩, ⟨#[112, 117, 116]⟩, ⟨#[105, 110, 116]⟩] _ (tab_below HT.out (below_alloc HB3.out _)) (C_lit _ [⟨#[120]⟩, ⟨#[105, 110, 116]⟩, ⟨#[112, 117, 116]⟩, ⟨#[105, 110, 116]⟩] _ rfl (by decide)) ?ho (by decide)).mono ?_)))
  case ho =>
    intro x hx
    have h3 : ∀ x ∈ [(⟨#[120]⟩ : ByteArray), ⟨#[105, 110, 116]⟩, ⟨#[112, 117, 116]⟩, ⟨#[105, 110, 116]⟩], x.size ≤ 3 := by decide
    exact Nat.le_trans (h3 x hx) (by simp [maxLen])
  rintro e w4 ⟨r, rfl, hR, hb⟩
  rw [clash_ex] at hR
  have HR := Lib.hid hR
  have HB4 := Lib.hid (below_weaken (below_alloc HB3.out _) (le_alloc _ _ HB3.out.size) hb)
  clear hR hb HB3
  obtain ⟨A4, c4, rfl, hc4, hC4⟩ := Kd.R_reads HR.out
  have HC4 := Lib.hid hC4
  clear hC4
  go_wp2_with (first | (go_at_call 10; go_must (refine (pantographref01_SameTexts.calls 10 A4 c4 [⟨#[105, 110, 116]⟩, ⟨#[112, 117, 116]⟩] _ 2 [⟨#[105, 110, 116]⟩, ⟨#[112, 117, 116]⟩] true _ (Kd.C_below HC4.out (below_alloc (Below.refl _ _) _)) hc4 (C_lit _ [⟨#[105, 110, 116]⟩, ⟨#[112, 117, 116]⟩] _ rfl (by decide)) (by decide) (by kernel_rfl)).mono ?_)))
  rintro e w5 ⟨rfl, hd⟩
  have HB5 := Lib.hid (below_weaken (below_alloc HB4.out _) (le_alloc _ _ HB4.out.size) hd.below)
  clear hd
  go_wp2
  go_ret
  exact ⟨rfl, HB5.out⟩
end Go.Proofs.YtmgdbmojfadahaaDoor.Wd

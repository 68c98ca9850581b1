/- The document's examples. -/
import Derived.Test.YtmmbpbamkiheaaaDoorTd
set_option linter.unusedVariables false
set_option linter.unusedSimpArgs false
namespace Go.Proofs.YtmmbpbamkiheaaaDoor.Tx
open Go.RowKit Go.Proofs.YtmmbpbamkiheaaaDoorW.PrintWords Go.Proofs.YtmmbpbamkiheaaaDoorW.PrintLast Go.Proofs.YtmmbpbamkiheaaaDoorW.PrintMore Go.Proofs.YtmmbpbamkiheaaaDoor.R
def RetB (v : Value) (w : World) (e : Ending) (w' : World) : Prop := e = .returned v ∧ Below w.heap.size w w'
theorem C_lit (W : World) (xs : List ByteArray) (inner : Array Value) (hi : inner = (xs.map Value.string).toArray) (hm : xs.length ≤ 1000) : Kd.string.C (W.alloc (.cells inner 9)) (some ⟨W.heap.size, 0, none⟩) xs.length xs := by
  subst hi
  have hown := World.ownsRow_lit (base := W.heap.size) (e := 9) (size := 1) W (xs.map Value.string).toArray xs.length (Nat.le_refl _) (by simp [maxLen]; omega) (by simp)
  have hR : Kd.string.R 9 (W.alloc (.cells (xs.map Value.string).toArray 9)) W.heap.size (fun _ => True) (.slice (some ⟨W.heap.size, 0, none⟩) xs.length xs.length) xs := by
    refine ⟨fun _ _ => trivial, xs.map Value.string, hown, ?_⟩
    refine ⟨by simp [Kd.string, Kd.scalar], fun j p hj => ?_⟩
    show ((xs.map Value.string).drop (j * 1)).take 1 = [.string p]
    obtain ⟨hjl, hp⟩ := List.getElem?_eq_some_iff.1 hj
    rw [Nat.mul_one, List.drop_eq_getElem_cons (by simpa using hjl)]
    simp [hp]
  obtain ⟨A, c, he, _, hc⟩ := Kd.R_reads hR
  injection he with h1 h2 h3
  subst h1
  exact hc
theorem le_alloc (W : World) (o : Obj) {b : Nat} (h : b ≤ W.heap.size) : b ≤ (W.alloc o).heap.size := by
  show b ≤ (W.heap.push o).size
  rw [Array.size_push]; omega
def exS : ByteArray := ⟨#[97, 10, 98]⟩
def ex7 : ByteArray := ⟨#[48, 48, 55]⟩
theorem num7 : num ex7 = (7, 0) := by
  have hd : digs ex7 = true := by decide
  have hv : vl ex7 ex7.size = 7 := by
    rw [vl_take _ _ (Nat.le_refl _)]
    decide
  unfold num
  rw [if_neg (by rw [hd]; simp; decide), hv]
  rfl
theorem ln2 : ln exS 2 = 1 := by decide
theorem cl2 : cl exS 2 = 0 := by decide
theorem ito5 : itoB (-5) = ⟨#[45, 53]⟩ := by
  unfold itoB
  have : Lib.itoa (-5) = [45, 53] := by
    unfold Lib.itoa
    rw [if_pos (by decide), show (-5 : Int).natAbs = 5 from rfl, Lib.decDigits, dif_pos (by decide)]
    rfl
  rw [this]
set_option maxHeartbeats 8000000 in
set_option maxRecDepth 1000000 in
theorem awake (w : World) (ht : Tab w) : Calls Tryd.prog 11 #[] w (RetB (.bool true) w) := by
  have HT := Lib.hid ht
  clear ht
  go_enter Tryd.func11, Tryd.ntmps11
  go_wp2_with (first | (go_at_call 20; go_must (refine (new_any exS w).mono ?_)))
  rintro e w1 ⟨g, rfl, hc, hg, hb⟩
  have HC1 := Lib.hid hc
  have HG := Lib.hid hg
  have HB1 := Lib.hid hb
  clear hc hg hb
  go_wp2_with (first | (go_at_call 24; go_must (refine (next_in g exS 0 w1 HC1.out (by decide) (by decide)).mono ?_)))
  rintro e w2 ⟨rfl, hc, ha⟩
  have HC2 := Lib.hid hc
  have HB2 := Lib.hid (ha.below HB1.out HG.out)
  clear hc ha HC1 HB1
  go_wp2_with (first | (go_at_call 24; go_must (refine (next_in g exS 1 w2 HC2.out (by decide) (by decide)).mono ?_)))
  rintro e w3 ⟨rfl, hc, ha⟩
  have HC3 := Lib.hid hc
  have HB3 := Lib.hid (ha.below HB2.out HG.out)
  clear hc ha HC2 HB2
  go_wp2_with (first | (go_at_call 12; go_must (refine (number_any ex7 w3 (by decide)).mono ?_)))
  rintro e w4 ⟨rfl, hb⟩
  rw [num7]
  have HC4 := Lib.hid (HC3.out.below hb)
  have HB4 := Lib.hid (below_weaken HB3.out HB3.out.size hb)
  clear hb HC3 HB3
  go_wp2_with (first | (go_at_call 22; go_must (refine (pos_any g exS 2 w4 HC4.out).mono ?_)))
  rintro e w5 ⟨rfl, hb⟩
  unfold posV
  rw [ln2, cl2]
  have HB5 := Lib.hid (below_weaken HB4.out HB4.out.size hb)
  clear hb HC4 HB4
  go_wp2_with (first | (go_at_call 14; go_must (refine (digits_any (-5) (by decide) (by decide) w5 (tab_below HT.out HB5.out)).mono ?_)))
  rintro e w6 ⟨rfl, hb⟩
  rw [ito5]
  have HB6 := Lib.hid (below_weaken HB5.out HB5.out.size hb)
  clear hb HB5
  go_wp2_with (first | (go_at_call 17; go_must (refine (join_any _ 2 [⟨#[97]⟩, ⟨#[98]⟩] _ (C_lit _ [⟨#[97]⟩, ⟨#[98]⟩] _ rfl (by decide)) (by decide) (by decide) (by decide)).mono ?_)))
  rintro e w7 ⟨rfl, hb⟩
  rw [show cat [⟨#[97]⟩, ⟨#[98]⟩] = ⟨#[97, 98]⟩ from rfl]
  have HB7 := Lib.hid (below_weaken (below_alloc HB6.out _) (le_alloc _ _ HB6.out.size) hb)
  clear hb HB6
  go_wp2
  go_ret
  exact ⟨rfl, HB7.out⟩
end Go.Proofs.YtmmbpbamkiheaaaDoor.Tx

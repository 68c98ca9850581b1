/- TextJoins: the walk. -/
import Derived.Test.YtmmbpbamkiheaaaDoorTp
import Derived.OpenShut
set_option linter.unusedVariables false
set_option linter.unusedSimpArgs false
namespace Go.Proofs.YtmmbpbamkiheaaaDoor.Tx
open Go.RowKit Go.Proofs.YtmmbpbamkiheaaaDoorW.PrintWords Go.Proofs.YtmmbpbamkiheaaaDoorW.PrintLast Go.Proofs.YtmmbpbamkiheaaaDoorW.PrintMore Go.Proofs.YtmmbpbamkiheaaaDoor.R
theorem at_s {W : World} {A : Option Addr} {l : List ByteArray} (h : Kd.C Kd.string W A l.length l) (k : Nat) (hk : k < l.length) : ∃ ad, A = some ad ∧ W.cell? (ad.add k) = some (.string l[k]) := by
  obtain ⟨ad, hA, hc⟩ := Kd.at_string h (k : Int) (by omega) (by omega)
  refine ⟨ad, hA, ?_⟩
  rw [show ((k : Int)).toNat = k from by omega] at hc
  rw [hc]
  rw [show rdOf ByteArray.empty l (k : Int) = l.getD (k : Int).toNat ByteArray.empty from rfl]
  simp [hk]
theorem pick_ok (x : Int) (n : Nat) (hn : n ≤ 1000000) : ∃ r : Nat, r ≤ n ∧ pantographref01_Pick.f x ((n : Int) + 1) = some (r : Int) := by
  unfold pantographref01_Pick.f
  rw [if_neg (by omega), if_neg (by omega)]
  by_cases h : Int.tmod x ((n : Int) + 1) < 0
  · rw [if_pos h]
    have h1 := Int.lt_tmod_of_pos x (show (0 : Int) < (n : Int) + 1 by omega)
    refine ⟨(Int.tmod x ((n : Int) + 1) + ((n : Int) + 1)).toNat, by omega, ?_⟩
    rw [show wrap64 (Int.tmod x ((n : Int) + 1) + ((n : Int) + 1)) = Int.tmod x ((n : Int) + 1) + ((n : Int) + 1) from by unfold wrap64; omega]
    congr 1
    omega
  · rw [if_neg h]
    have h1 := Int.tmod_lt_of_pos x (show (0 : Int) < (n : Int) + 1 by omega)
    refine ⟨(Int.tmod x ((n : Int) + 1)).toNat, by omega, ?_⟩
    congr 1
    omega
theorem cat_data (X : List ByteArray) : (cat X).data.toList = (X.map (·.data.toList)).flatten := rfl
theorem cat_app (X Y : List ByteArray) : cat (X ++ Y) = cat X ++ cat Y := by
  apply ByteArray.ext
  apply Array.toList_inj.1
  rw [ByteArray.data_append, Array.toList_append, cat_data, cat_data, cat_data, List.map_append, List.flatten_append]
theorem cat_one (x : ByteArray) : cat [x] = x := by
  apply ByteArray.ext
  apply Array.toList_inj.1
  rw [cat_data]
  simp
theorem cat_snoc (l : List ByteArray) (k : Nat) (hk : k < l.length) : cat (l.take k) ++ l[k] = cat (l.take (k + 1)) := by
  rw [List.take_succ_eq_append_getElem hk, cat_app, cat_one]
theorem cat_split (l : List ByteArray) (k : Nat) : cat [cat (l.take k), cat (l.drop k)] = cat l := by
  rw [show [cat (l.take k), cat (l.drop k)] = [cat (l.take k)] ++ [cat (l.drop k)] from rfl, cat_app, cat_one, cat_one, ← cat_app, List.take_append_drop]
theorem cat_part (l : List ByteArray) (k : Nat) : (cat (l.take k)).size ≤ (cat l).size ∧ (cat (l.drop k)).size ≤ (cat l).size := by
  have h : cat l = cat (l.take k) ++ cat (l.drop k) := by rw [← cat_app, List.take_append_drop]
  rw [h, ByteArray.size_append]
  omega
theorem join_n (A : Option Addr) (c n : Nat) (l : List ByteArray) (w : World) (hn : l.length = n) (hr : Kd.C Kd.string w A l.length l) (hc : l.length ≤ c) (hl : l.length ≤ 1000) (hs : (cat l).size ≤ 140737488355328) :
    Calls Tryd.prog 17 #[.slice A n c] w fun e w' => e = .returned (.string (cat l)) ∧ Below w.heap.size w w' := by
  subst hn
  exact join_any A c l w hr hc hl hs
theorem drop_C {w : World} {A : Option Addr} {m c : Nat} {l : List ByteArray} (h : Kd.C Kd.string w A l.length l) (hm : m ≤ l.length) (hc : l.length ≤ c) : Kd.C Kd.string w (if c = m then A else A.map (fun x => x.add m)) (l.drop m).length (l.drop m) := by
  have h1 := Kd.C_drop (c := c) h hm hc
  have h2 : m * Kd.string.sz = m := Nat.mul_one m
  rw [h2] at h1
  exact h1
def JnRel (l : List ByteArray) (X i : Value) : Prop := ∃ (k : Nat) (Z : ByteArray), i = .int .i64 k ∧ X = .string Z ∧ Z = cat (l.take k) ∧ k ≤ l.length ∧ Z.size ≤ 20000
set_option maxHeartbeats 8000000 in
set_option maxRecDepth 1000000 in
theorem textJoins (A : Option Addr) (c : Nat) (l : List ByteArray) (n : Int) (w : World) (ht : Tab w) (hr : Kd.C Kd.string w A l.length l) (hc : l.length ≤ c) (ho : ∀ x ∈ l, x.size ≤ maxLen) (hw : (Lit.int .i64 n).wf = true) : Calls Tryd.prog 5 #[.slice A l.length c, .int .i64 n] w (RetB (.bool true) w) := by
  have HT := Lib.hid ht
  have HR := Lib.hid hr
  clear ht hr ho hw
  by_cases h5 : l.length ≤ 50
  · go_enter Tryd.func5, Tryd.ntmps5
    go_wp2
    go_loop [5, 6] (fun X i => JnRel l X i) (fun _ i => l.length - (intOf i).toNat)
    case atStart => exact ⟨0, ⟨#[]⟩, rfl, rfl, rfl, Nat.zero_le _, Nat.zero_le _⟩
    case round =>
      obtain ⟨k, Z, rfl, rfl, hZ, hk, hzs⟩ := hrel
      have HZ := Lib.hid hZ
      clear hZ
      by_cases hlt : k < l.length
      · obtain ⟨ad, rfl, hcell⟩ := at_s HR.out k hlt
        by_cases h1 : Z.size ≤ 10000
        · by_cases h2 : l[k].size ≤ 10000
          · have hov : (9223372036854775807 < Z.size + l[k].size) = False := eq_false (by omega)
            have HC := Lib.hid (show Z ++ l[k] = cat (l.take (k + 1)) from by rw [HZ.out]; exact cat_snoc l k hlt)
            go_wp2
            go_round
            · exact ⟨k + 1, Z ++ l[k], by simp, rfl, HC.out, by omega, by rw [ByteArray.size_append]; omega⟩
            · simp only [intOf]; omega
          · replace h2 : 10000 < l[k].size := by omega
            go_wp2_with (first | (go_at_call 11; go_must (refine (awake _ HT.out).mono ?_); rintro e w9 ⟨rfl, hb⟩; have HB9 := Lib.hid hb; clear hb))
            go_ret
            exact ⟨rfl, HB9.out⟩
        · replace h1 : 10000 < Z.size := by omega
          go_wp2_with (first | (go_at_call 11; go_must (refine (awake _ HT.out).mono ?_); rintro e w9 ⟨rfl, hb⟩; have HB9 := Lib.hid hb; clear hb))
          go_ret
          exact ⟨rfl, HB9.out⟩
      · obtain rfl : k = l.length := by omega
        have hZe : Z = cat l := by rw [HZ.out, List.take_length]
        subst hZe
        obtain ⟨r, hr, hp⟩ := pick_ok n l.length (by omega)
        have HP := Lib.hid hp
        clear HZ hp hlt
        go_wp2_with (first | (go_at_call 16; go_must (refine (pantographref01_Pick.calls n ((l.length : Int) + 1) (r : Int) _ HP.out).mono ?_); rintro e w1 ⟨rfl, hd⟩; have HB1 := Lib.hid (Drawn0.below hd); clear hd))
        have HC0 := Lib.hid (Kd.C_below HR.out (below_drew HB1.out))
        have HB0 := Lib.hid (below_drew HB1.out)
        have hcp := cat_part l r
        have hsp := Lib.hid (cat_split l r)
        have htl : (l.take r).length = r := by rw [List.length_take]; omega
        have hdl : (l.drop r).length = l.length - r := List.length_drop
        have HTL := Lib.hid htl
        have HDL := Lib.hid hdl
        have hr1 : (r : Int) ≤ (l.length : Int) := by omega
        have hr2 : r ≤ c := by omega
        have hr3 : (r : Int) ≤ (c : Int) := by omega
        clear htl hdl
        refine start_ (n := 26) (S := fun w' => True) (ds := []) #[false, false, false, false, false, false, false, false, false, false, false, false, false, false, false, false, false, false, false, false, false, false, false, false, false, false] (by kernel_rfl) rfl rfl trivial (fun hHeld => ?_)
        generalize hwd : World.drew _ = wd at *
        refine pure_ (i := 0) (N := some 41) (v := ?_) (a' := ?_) #[true, false, false, false, false, false, false, false, false, false, false, false, false, false, false, false, false, false, false, false, false, false, false, false, false, false] rfl rfl (by kernel_rfl) (fun _ _ _ h => h) (Or.inl ⟨by rfl, ?_⟩) ?_ ?_
        rotate_left
        · intro w'
          go_simp
          with_reducible rfl
        rotate_left
        · simp only [Act.put, List.setIfInBounds_toArray, List.set_cons_zero, List.set_cons_succ, i64_w, i32_w]
          rfl
        refine pure_ (i := 2) (N := some 43) (v := ?_) (a' := ?_) #[true, false, true, false, false, false, false, false, false, false, false, false, false, false, false, false, false, false, false, false, false, false, false, false, false, false] rfl rfl (by kernel_rfl) (fun _ _ _ h => h) (Or.inl ⟨by rfl, ?_⟩) ?_ ?_
        rotate_left
        · intro w'
          go_simp
          with_reducible rfl
        rotate_left
        · simp only [Act.put, List.setIfInBounds_toArray, List.set_cons_zero, List.set_cons_succ, i64_w, i32_w]
          rfl
        refine one_ (i := 1) (N := some 42) #[true, true, true, false, false, false, false, false, false, false, false, false, false, false, false, false, false, false, false, false, false, false, false, false, false, false] rfl rfl (by kernel_rfl) (by decide) (fun K hK => ?_)
        refine goes_ Tryd.func17 (by kernel_rfl) rfl #[.slice A l.length c] (by rfl) rfl rfl (by simp only [List.map_toArray, List.map_cons, List.map_nil]; rfl) ?_
        with_reducible refine (join_n A c l.length l _ rfl HC0.out hc (by omega) (by omega)).mono ?_
        rintro e w2 ⟨rfl, hb⟩
        refine ⟨_, rfl, ?_⟩
        have HB2 := Lib.hid (below_weaken HB0.out HB0.out.size hb)
        have HC2 := Lib.hid (Kd.C_below HC0.out hb)
        clear hb HB0 HC0
        refine hK.out _ _ trivial (fun hHeld => ?_)
        clear hK K
        refine norm_ (a' := ?_) ?_ ?_
        rotate_left
        · show Act.put _ (some 42) _ = _
          simp only [Act.put, List.setIfInBounds_toArray, List.set_cons_zero, List.set_cons_succ, i64_w, i32_w]
          rfl
        refine pure_ (i := 3) (N := some 44) (v := ?_) (a' := ?_) #[true, true, true, true, false, false, false, false, false, false, false, false, false, false, false, false, false, false, false, false, false, false, false, false, false, false] rfl rfl (by kernel_rfl) (fun _ _ _ h => h) (Or.inl ⟨by rfl, ?_⟩) ?_ ?_
        rotate_left
        · intro w'
          go_simp
          with_reducible rfl
        rotate_left
        · simp only [Act.put, List.setIfInBounds_toArray, List.set_cons_zero, List.set_cons_succ, i64_w, i32_w]
          rfl
        refine pure_ (i := 4) (N := some 45) (v := ?_) (a' := ?_) #[true, true, true, true, true, false, false, false, false, false, false, false, false, false, false, false, false, false, false, false, false, false, false, false, false, false] rfl rfl (by kernel_rfl) (fun _ _ _ h => h) (Or.inl ⟨by rfl, ?_⟩) ?_ ?_
        rotate_left
        · intro w'
          go_simp
          with_reducible rfl
        rotate_left
        · simp only [Act.put, List.setIfInBounds_toArray, List.set_cons_zero, List.set_cons_succ, i64_w, i32_w]
          rfl
        refine pure_ (i := 5) (N := some 46) (v := ?_) (a' := ?_) #[true, true, true, true, true, true, false, false, false, false, false, false, false, false, false, false, false, false, false, false, false, false, false, false, false, false] rfl rfl (by kernel_rfl) (fun _ _ _ h => h) (Or.inl ⟨by rfl, ?_⟩) ?_ ?_
        rotate_left
        · intro w'
          go_simp
          with_reducible rfl
        rotate_left
        · simp only [Act.put, List.setIfInBounds_toArray, List.set_cons_zero, List.set_cons_succ, i64_w, i32_w]
          rfl
        refine pure_ (i := 6) (N := some 47) (v := ?_) (a' := ?_) #[true, true, true, true, true, true, true, false, false, false, false, false, false, false, false, false, false, false, false, false, false, false, false, false, false, false] rfl rfl (by kernel_rfl) (fun _ _ _ h => h) (Or.inl ⟨by rfl, ?_⟩) ?_ ?_
        rotate_left
        · intro w'
          go_simp
          with_reducible rfl
        rotate_left
        · simp only [Act.put, List.setIfInBounds_toArray, List.set_cons_zero, List.set_cons_succ, i64_w, i32_w]
          rfl
        refine pure_ (i := 7) (N := some 48) (v := ?_) (a' := ?_) #[true, true, true, true, true, true, true, true, false, false, false, false, false, false, false, false, false, false, false, false, false, false, false, false, false, false] rfl rfl (by kernel_rfl) (fun _ _ _ h => h) (Or.inl ⟨by rfl, ?_⟩) ?_ ?_
        rotate_left
        · intro w'
          go_simp
          with_reducible rfl
        rotate_left
        · simp only [Act.put, List.setIfInBounds_toArray, List.set_cons_zero, List.set_cons_succ, i64_w, i32_w]
          rfl
        refine pure_ (i := 9) (N := some 50) (v := ?_) (a' := ?_) #[true, true, true, true, true, true, true, true, false, true, false, false, false, false, false, false, false, false, false, false, false, false, false, false, false, false] rfl rfl (by kernel_rfl) (fun _ _ _ h => h) (Or.inl ⟨by rfl, ?_⟩) ?_ ?_
        rotate_left
        · intro w'
          go_simp
          with_reducible rfl
        rotate_left
        · simp only [Act.put, List.setIfInBounds_toArray, List.set_cons_zero, List.set_cons_succ, i64_w, i32_w]
          rfl
        refine pure_ (i := 10) (N := some 51) (v := ?_) (a' := ?_) #[true, true, true, true, true, true, true, true, false, true, true, false, false, false, false, false, false, false, false, false, false, false, false, false, false, false] rfl rfl (by kernel_rfl) (fun _ _ _ h => h) (Or.inl ⟨by rfl, ?_⟩) ?_ ?_
        rotate_left
        · intro w'
          go_simp
          with_reducible rfl
        rotate_left
        · simp only [Act.put, List.setIfInBounds_toArray, List.set_cons_zero, List.set_cons_succ, i64_w, i32_w]
          rfl
        refine pure_ (i := 11) (N := some 52) (v := ?_) (a' := ?_) #[true, true, true, true, true, true, true, true, false, true, true, true, false, false, false, false, false, false, false, false, false, false, false, false, false, false] rfl rfl (by kernel_rfl) (fun _ _ _ h => h) (Or.inl ⟨by rfl, ?_⟩) ?_ ?_
        rotate_left
        · intro w'
          go_simp
          with_reducible rfl
        rotate_left
        · simp only [Act.put, List.setIfInBounds_toArray, List.set_cons_zero, List.set_cons_succ, i64_w, i32_w]
          rfl
        refine pure_ (i := 15) (N := some 56) (v := ?_) (a' := ?_) #[true, true, true, true, true, true, true, true, false, true, true, true, false, false, false, true, false, false, false, false, false, false, false, false, false, false] rfl rfl (by kernel_rfl) (fun _ _ _ h => h) (Or.inl ⟨by rfl, ?_⟩) ?_ ?_
        rotate_left
        · intro w'
          go_simp
          with_reducible rfl
        rotate_left
        · simp only [Act.put, List.setIfInBounds_toArray, List.set_cons_zero, List.set_cons_succ, i64_w, i32_w]
          rfl
        refine one_ (i := 8) (N := some 49) #[true, true, true, true, true, true, true, true, true, true, true, true, false, false, false, true, false, false, false, false, false, false, false, false, false, false] rfl rfl (by kernel_rfl) (by decide) (fun K hK => ?_)
        refine goes_ Tryd.func17 (by kernel_rfl) rfl #[.slice A r c] (by rfl) rfl rfl (by simp only [List.map_toArray, List.map_cons, List.map_nil]; rfl) ?_
        with_reducible refine (join_n A c r (l.take r) _ HTL.out (Kd.C_take HC2.out hr) (by rw [HTL.out]; omega) (by rw [HTL.out]; omega) (by omega)).mono ?_
        rintro e w3 ⟨rfl, hb⟩
        refine ⟨_, rfl, ?_⟩
        have HB3 := Lib.hid (below_weaken HB2.out HB2.out.size hb)
        have HC3 := Lib.hid (Kd.C_below HC2.out hb)
        clear hb HB2 HC2
        refine hK.out _ _ trivial (fun hHeld => ?_)
        clear hK K
        refine norm_ (a' := ?_) ?_ ?_
        rotate_left
        · show Act.put _ (some 49) _ = _
          simp only [Act.put, List.setIfInBounds_toArray, List.set_cons_zero, List.set_cons_succ, i64_w, i32_w]
          rfl
        refine one_ (i := 12) (N := some 53) #[true, true, true, true, true, true, true, true, true, true, true, true, true, false, false, true, false, false, false, false, false, false, false, false, false, false] rfl rfl (by kernel_rfl) (by decide) (fun K hK => ?_)
        refine goes_ Tryd.func17 (by kernel_rfl) rfl #[.slice (if c = r then A else A.map (fun x => x.add r)) (l.length - r) (c - r)] (by rfl) rfl rfl (by simp only [List.map_toArray, List.map_cons, List.map_nil]; rfl) ?_
        with_reducible refine (join_n _ (c - r) (l.length - r) (l.drop r) _ HDL.out (drop_C HC3.out hr hc) (by rw [HDL.out]; omega) (by rw [HDL.out]; omega) (by omega)).mono ?_
        rintro e w4 ⟨rfl, hb⟩
        refine ⟨_, rfl, ?_⟩
        have HB4 := Lib.hid (below_weaken HB3.out HB3.out.size hb)
        have HC4 := Lib.hid (Kd.C_below HC3.out hb)
        clear hb HB3 HC3
        refine hK.out _ _ trivial (fun hHeld => ?_)
        clear hK K
        refine norm_ (a' := ?_) ?_ ?_
        rotate_left
        · show Act.put _ (some 53) _ = _
          simp only [Act.put, List.setIfInBounds_toArray, List.set_cons_zero, List.set_cons_succ, i64_w, i32_w]
          rfl
        refine one_ (i := 13) (N := some 54) #[true, true, true, true, true, true, true, true, true, true, true, true, true, true, false, true, false, false, false, false, false, false, false, false, false, false] rfl rfl (by kernel_rfl) (by decide) (fun K hK => ?_)
        refine value_ (w1 := ?_) (v := ?_) (by rfl) rfl ?_ ?_
        rotate_left 2
        · go_simp
          constructor
          · rfl
          · rfl
        have HCL := Lib.hid (C_lit w4 [cat (l.take r), cat (l.drop r)] #[.string (cat (l.take r)), .string (cat (l.drop r))] rfl (by simp))
        have HB5 := Lib.hid (below_alloc HB4.out (.cells #[.string (cat (l.take r)), .string (cat (l.drop r))] 9))
        refine hK.out _ _ trivial (fun hHeld => ?_)
        clear hK K
        refine norm_ (a' := ?_) ?_ ?_
        rotate_left
        · show Act.put _ (some 54) _ = _
          simp only [Act.put, List.setIfInBounds_toArray, List.set_cons_zero, List.set_cons_succ, i64_w, i32_w]
          rfl
        refine one_ (i := 14) (N := some 55) #[true, true, true, true, true, true, true, true, true, true, true, true, true, true, true, true, false, false, false, false, false, false, false, false, false, false] rfl rfl (by kernel_rfl) (by decide) (fun K hK => ?_)
        refine goes_ Tryd.func17 (by kernel_rfl) rfl #[.slice (some ⟨w4.heap.size, 0, none⟩) 2 2] (by rfl) rfl rfl (by simp only [List.map_toArray, List.map_cons, List.map_nil]; rfl) ?_
        with_reducible refine (join_n _ 2 2 [cat (l.take r), cat (l.drop r)] _ rfl HCL.out (by simp) (by simp) (by rw [hsp.out]; omega)).mono ?_
        rintro e w6 ⟨rfl, hb⟩
        refine ⟨_, rfl, ?_⟩
        rw [hsp.out]
        have HB6 := Lib.hid (below_weaken HB5.out HB5.out.size hb)
        clear hb HB5 HCL
        refine hK.out _ _ trivial (fun hHeld => ?_)
        clear hK K
        refine norm_ (a' := ?_) ?_ ?_
        rotate_left
        · show Act.put _ (some 55) _ = _
          simp only [Act.put, List.setIfInBounds_toArray, List.set_cons_zero, List.set_cons_succ, i64_w, i32_w]
          rfl
        refine pure_ (i := 16) (N := some 57) (v := ?_) (a' := ?_) #[true, true, true, true, true, true, true, true, true, true, true, true, true, true, true, true, true, false, false, false, false, false, false, false, false, false] rfl rfl (by kernel_rfl) (fun _ _ _ h => h) (Or.inl ⟨by rfl, ?_⟩) ?_ ?_
        rotate_left
        · intro w'
          go_simp
          with_reducible rfl
        rotate_left
        · simp only [Act.put, List.setIfInBounds_toArray, List.set_cons_zero, List.set_cons_succ, i64_w, i32_w]
          rfl
        refine pure_ (i := 17) (N := some 58) (v := ?_) (a' := ?_) #[true, true, true, true, true, true, true, true, true, true, true, true, true, true, true, true, true, true, false, false, false, false, false, false, false, false] rfl rfl (by kernel_rfl) (fun _ _ _ h => h) (Or.inl ⟨by rfl, ?_⟩) ?_ ?_
        rotate_left
        · intro w'
          go_simp
          with_reducible rfl
        rotate_left
        · simp only [Act.put, List.setIfInBounds_toArray, List.set_cons_zero, List.set_cons_succ, i64_w, i32_w]
          rfl
        refine pure_ (i := 18) (N := some 59) (v := ?_) (a' := ?_) #[true, true, true, true, true, true, true, true, true, true, true, true, true, true, true, true, true, true, true, false, false, false, false, false, false, false] rfl rfl (by kernel_rfl) (fun _ _ _ h => h) (Or.inl ⟨by rfl, ?_⟩) ?_ ?_
        rotate_left
        · intro w'
          go_simp
          with_reducible rfl
        rotate_left
        · simp only [Act.put, List.setIfInBounds_toArray, List.set_cons_zero, List.set_cons_succ, i64_w, i32_w]
          rfl
        refine one_ (i := 19) (N := some 60) #[true, true, true, true, true, true, true, true, true, true, true, true, true, true, true, true, true, true, true, true, false, false, false, false, false, false] rfl rfl (by kernel_rfl) (by decide) (fun K hK => ?_)
        refine goes_ Tryd.func17 (by kernel_rfl) rfl #[.slice none 0 0] (by rfl) rfl rfl (by first | (simp only [List.map_toArray, List.map_cons, List.map_nil]; done) | (simp only [List.map_toArray, List.map_cons, List.map_nil]; rfl)) ?_
        with_reducible refine (join_n none 0 0 [] _ rfl (Kd.C_nil Kd.string _) (by simp) (by simp) (by decide)).mono ?_
        rintro e w7 ⟨rfl, hb⟩
        refine ⟨_, rfl, ?_⟩
        rw [show cat [] = ⟨#[]⟩ from rfl]
        have HB7 := Lib.hid (below_weaken HB6.out HB6.out.size hb)
        clear hb HB6
        refine hK.out _ _ trivial (fun hHeld => ?_)
        clear hK K
        refine norm_ (a' := ?_) ?_ ?_
        rotate_left
        · show Act.put _ (some 60) _ = _
          simp only [Act.put, List.setIfInBounds_toArray, List.set_cons_zero, List.set_cons_succ, i64_w, i32_w]
          rfl
        refine pure_ (i := 20) (N := some 61) (v := ?_) (a' := ?_) #[true, true, true, true, true, true, true, true, true, true, true, true, true, true, true, true, true, true, true, true, true, false, false, false, false, false] rfl rfl (by kernel_rfl) (fun _ _ _ h => h) (Or.inl ⟨by rfl, ?_⟩) ?_ ?_
        rotate_left
        · intro w'
          go_simp
          with_reducible rfl
        rotate_left
        · simp only [Act.put, List.setIfInBounds_toArray, List.set_cons_zero, List.set_cons_succ, i64_w, i32_w]
          rfl
        refine pure_ (i := 21) (N := some 62) (v := ?_) (a' := ?_) #[true, true, true, true, true, true, true, true, true, true, true, true, true, true, true, true, true, true, true, true, true, true, false, false, false, false] rfl rfl (by kernel_rfl) (fun _ _ _ h => h) (Or.inl ⟨by rfl, ?_⟩) ?_ ?_
        rotate_left
        · intro w'
          go_simp
          with_reducible rfl
        rotate_left
        · simp only [Act.put, List.setIfInBounds_toArray, List.set_cons_zero, List.set_cons_succ, i64_w, i32_w]
          rfl
        refine pure_ (i := 22) (N := some 63) (v := ?_) (a' := ?_) #[true, true, true, true, true, true, true, true, true, true, true, true, true, true, true, true, true, true, true, true, true, true, true, false, false, false] rfl rfl (by kernel_rfl) (fun _ _ _ h => h) (Or.inl ⟨by rfl, ?_⟩) ?_ ?_
        rotate_left
        · intro w'
          go_simp
          with_reducible rfl
        rotate_left
        · simp only [Act.put, List.setIfInBounds_toArray, List.set_cons_zero, List.set_cons_succ, i64_w, i32_w]
          rfl
        refine one_ (i := 23) (N := some 64) #[true, true, true, true, true, true, true, true, true, true, true, true, true, true, true, true, true, true, true, true, true, true, true, true, false, false] rfl rfl (by kernel_rfl) (by decide) (fun K hK => ?_)
        refine goes_ Tryd.func11 (by kernel_rfl) rfl #[] (by rfl) rfl rfl (by simp only [List.map_toArray, List.map_cons, List.map_nil]) ?_
        with_reducible refine (awake _ (tab_below HT.out HB7.out)).mono ?_
        rintro e w9 ⟨rfl, hb⟩
        refine ⟨_, rfl, ?_⟩
        have HB9 := Lib.hid (below_weaken HB7.out HB7.out.size hb)
        clear hb HB7
        refine hK.out _ _ trivial (fun hHeld => ?_)
        clear hK K
        refine norm_ (a' := ?_) ?_ ?_
        rotate_left
        · show Act.put _ (some 64) _ = _
          simp only [Act.put, List.setIfInBounds_toArray, List.set_cons_zero, List.set_cons_succ, i64_w, i32_w]
          rfl
        refine pure_ (i := 24) (N := some 65) (v := ?_) (a' := ?_) #[true, true, true, true, true, true, true, true, true, true, true, true, true, true, true, true, true, true, true, true, true, true, true, true, true, false] rfl rfl (by kernel_rfl) (fun _ _ _ h => h) (Or.inl ⟨by rfl, ?_⟩) ?_ ?_
        rotate_left
        · intro w'
          go_simp
          with_reducible rfl
        rotate_left
        · simp only [Act.put, List.setIfInBounds_toArray, List.set_cons_zero, List.set_cons_succ, i64_w, i32_w]
          rfl
        refine pure_ (i := 25) (N := some 4) (v := ?_) (a' := ?_) #[true, true, true, true, true, true, true, true, true, true, true, true, true, true, true, true, true, true, true, true, true, true, true, true, true, true] rfl rfl (by kernel_rfl) (fun _ _ _ h => h) (Or.inl ⟨by rfl, ?_⟩) ?_ ?_
        rotate_left
        · intro w'
          go_simp
          with_reducible rfl
        rotate_left
        · simp only [Act.put, List.setIfInBounds_toArray, List.set_cons_zero, List.set_cons_succ, i64_w, i32_w]
          rfl
        refine done_ (by kernel_rfl) ?_
        go_wp2
        all_goals
          go_ret
          exact ⟨rfl, HB9.out⟩
  · go_enter Tryd.func5, Tryd.ntmps5
    go_wp2_with (first | (go_at_call 11; go_must (refine (awake _ HT.out).mono ?_); rintro e w9 ⟨rfl, hb⟩; have HB9 := Lib.hid hb; clear hb))
    go_ret
    exact ⟨rfl, HB9.out⟩
end Go.Proofs.YtmmbpbamkiheaaaDoor.Tx

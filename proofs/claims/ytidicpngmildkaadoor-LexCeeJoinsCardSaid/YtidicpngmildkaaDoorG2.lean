/- ParseUint of two small hex digits. strconv.ParseUint of two small hex digits; Trim at the set of hex digits. quoted. next. What the lexer lays: plain. lexcee.All: the walk. -/
import Derived.Test.YtidicpngmildkaaDoorG1
import Derived.Laws.IdiomStrings
set_option linter.unusedVariables false
set_option linter.unusedSimpArgs false
namespace Go.Proofs.YtidicpngmildkaaDoor.Tx
open Go.RowKit Go.Proofs.YtidicpngmildkaaDoorW.PrintWords Go.Proofs.YtidicpngmildkaaDoorW.PrintLast Go.Proofs.YtidicpngmildkaaDoorW.PrintMore Go.Proofs.YtidicpngmildkaaDoor.R
/-- A small hex digit's value. -/
def hexv (c : Nat) : Int := if c < 58 then (c : Int) - 48 else (c : Int) - 87
def isHex (c : UInt8) : Prop := (48 ≤ c.toNat ∧ c.toNat ≤ 57) ∨ (97 ≤ c.toNat ∧ c.toNat ≤ 102)
def PuRel (a b : Nat) (u n i : Value) : Prop := u = .bool false ∧ ((i = .int .i64 0 ∧ n = .int .u64 0) ∨ (i = .int .i64 1 ∧ n = .int .u64 (hexv a)) ∨ (i = .int .i64 2 ∧ n = .int .u64 (16 * hexv a + hexv b)))
theorem bytes2 (a b : UInt8) (w : World) : ∃ (c : Nat) (W1 : World), (convert 9 22 (.string ⟨#[a, b]⟩)).run Tryd.prog w = .ok (.slice (some ⟨w.heap.size, 0, none⟩) 2 c) W1 ∧ W1.cell? ⟨w.heap.size, 0, none⟩ = some (.int .u8 (a.toNat : Int)) ∧ W1.cell? ⟨w.heap.size, 1, none⟩ = some (.int .u8 (b.toNat : Int)) ∧ Below w.heap.size w W1 := by
 have h := run_bytes_of_string (P := Tryd.prog) w 9 22 5 (⟨#[a, b]⟩ : ByteArray) Tryd.underlying9 Tryd.underlying22 Tryd.underlying5
 refine ⟨_, _, h, ?_, ?_, ?_⟩
 ·have hb := alloc_new w.drew (.cells (bytesRow (⟨#[a, b]⟩ : ByteArray) (grownCap w 2 0 5)) 5 ((bytesRow (⟨#[a, b]⟩ : ByteArray) (grownCap w 2 0 5)).size, (bytesRow (⟨#[a, b]⟩ : ByteArray) (grownCap w 2 0 5)).size + 1))
  have hb' : (w.drew.alloc (.cells (bytesRow (⟨#[a, b]⟩ : ByteArray) (grownCap w 2 0 5)) 5 ((bytesRow (⟨#[a, b]⟩ : ByteArray) (grownCap w 2 0 5)).size, (bytesRow (⟨#[a, b]⟩ : ByteArray) (grownCap w 2 0 5)).size + 1))).heap[w.heap.size]? = some _ := hb
  exact (cell_of_row _ _ 0 _ _ _ hb').trans (bytesRow_at (⟨#[a, b]⟩ : ByteArray) _ 0 (by show 0 < 2; decide))
 ·have hb := alloc_new w.drew (.cells (bytesRow (⟨#[a, b]⟩ : ByteArray) (grownCap w 2 0 5)) 5 ((bytesRow (⟨#[a, b]⟩ : ByteArray) (grownCap w 2 0 5)).size, (bytesRow (⟨#[a, b]⟩ : ByteArray) (grownCap w 2 0 5)).size + 1))
  have hb' : (w.drew.alloc (.cells (bytesRow (⟨#[a, b]⟩ : ByteArray) (grownCap w 2 0 5)) 5 ((bytesRow (⟨#[a, b]⟩ : ByteArray) (grownCap w 2 0 5)).size, (bytesRow (⟨#[a, b]⟩ : ByteArray) (grownCap w 2 0 5)).size + 1))).heap[w.heap.size]? = some _ := hb
  exact (cell_of_row _ _ 1 _ _ _ hb').trans (bytesRow_at (⟨#[a, b]⟩ : ByteArray) _ 1 (by show 1 < 2; decide))
 ·exact below_alloc (below_drew (Below.refl w.heap.size w)) _
theorem or32 : ∀ q : Fin 6, bits .or .u8 ((97 + q.1 : Nat) : Int) 32 = ((97 + q.1 : Nat) : Int) := by decide
set_option maxHeartbeats 4000000 in
theorem lower_any (z : Nat) (h1 : 97 ≤ z) (h2 : z ≤ 102) (w : World) : Calls Tryd.prog 64 #[.int .u8 (z : Int)] w fun e w' => e = .returned (.int .u8 (z : Int)) ∧ w' = w := by
 have hz := or32 ⟨z - 97, by omega⟩
 have hz' : bits .or .u8 (z : Int) 32 = (z : Int) := by
  have e : 97 + (z - 97) = z := by omega
  simpa [e] using hz
 clear hz
 go_enter Tryd.func64, Tryd.ntmps64
 go_wp2
 go_ret
 exact ⟨rfl, rfl⟩
set_option maxHeartbeats 8000000 in
set_option maxRecDepth 1000000 in
theorem pu_in (a b : UInt8) (w : World) (ha : isHex a) (hb : isHex b) :
  Calls Tryd.prog 56 #[.string ⟨#[a, b]⟩, .int .i64 16, .int .i64 8] w fun e w' => e = .returned (.tuple #[.int .u64 (16 * hexv a.toNat + hexv b.toNat), .nilIface]) ∧ Below w.heap.size w w' := by
 unfold isHex at ha hb
 go_enter Tryd.func56, Tryd.ntmps56
 obtain ⟨c, W1, hcv, e0, e1, hB⟩ := bytes2 a b w
 have hva : 0 ≤ hexv a.toNat ∧ hexv a.toNat ≤ 15 := by unfold hexv; split <;> omega
 have hvb : 0 ≤ hexv b.toNat ∧ hexv b.toNat ≤ 15 := by unfold hexv; split <;> omega
 generalize a.toNat = za at *
 generalize b.toNat = zb at *
 have HA := Lib.hid ha
 have HB := Lib.hid hb
 have HVA := Lib.hid hva
 have HVB := Lib.hid hvb
 clear ha hb hva hvb
 have HBL := Lib.hid hB
 clear hB
 go_wp2
 go_loop [12, 13, 101] (fun u n i => PuRel za zb u n i) (fun _ _ i => 2 - (intOf i).toNat)
 case atStart => exact ⟨rfl, .inl ⟨rfl, rfl⟩⟩
 case round =>
  obtain ⟨rfl, hrel⟩ := hrel
  rcases hrel with ⟨rfl, rfl⟩ | ⟨rfl, rfl⟩ | ⟨rfl, rfl⟩
  ·skip
   rcases HA.out with ⟨h1, h2⟩ | ⟨h1, h2⟩
   ·have HV := Lib.hid (show hexv za = (za : Int) - 48 from by unfold hexv; rw [if_pos (by omega)])
    go_wp2
    go_round
    ·exact ⟨rfl, .inr (.inl ⟨by simp, by rw [HV.out] <;> first | rfl | (congr 1; omega)⟩)⟩
    ·simp only [intOf]; omega
   ·have HV := Lib.hid (show hexv za = (za : Int) - 87 from by unfold hexv; rw [if_neg (by omega)])
    go_wp2_with (first | (go_at_call 64; go_must (refine (lower_any za h1 h2 _).mono ?_); rintro e w5 ⟨rfl, rfl⟩))
    go_round
    ·exact ⟨rfl, .inr (.inl ⟨by simp, by rw [HV.out] <;> first | rfl | (congr 1; omega)⟩)⟩
    ·simp only [intOf]; omega
  ·skip
   obtain ⟨n0, n1⟩ := HVA.out
   generalize hN : hexv za = N at *
   have HN := Lib.hid hN
   clear hN
   rcases HB.out with ⟨h1, h2⟩ | ⟨h1, h2⟩
   ·have HV := Lib.hid (show hexv zb = (zb : Int) - 48 from by unfold hexv; rw [if_pos (by omega)])
    go_wp2
    go_round
    ·exact ⟨rfl, .inr (.inr ⟨by simp, by rw [HV.out, HN.out] <;> first | rfl | (congr 1; omega)⟩)⟩
    ·simp only [intOf]; omega
   ·have HV := Lib.hid (show hexv zb = (zb : Int) - 87 from by unfold hexv; rw [if_neg (by omega)])
    go_wp2_with (first | (go_at_call 64; go_must (refine (lower_any zb h1 h2 _).mono ?_); rintro e w5 ⟨rfl, rfl⟩))
    go_round
    ·exact ⟨rfl, .inr (.inr ⟨by simp, by rw [HV.out, HN.out] <;> first | rfl | (congr 1; omega)⟩)⟩
    ·simp only [intOf]; omega
  ·go_wp2
   go_ret2
   exact ⟨rfl, HBL.out⟩
end Go.Proofs.YtidicpngmildkaaDoor.Tx
set_option linter.unusedVariables false
set_option linter.unusedSimpArgs false
namespace Go.Proofs.YtidicpngmildkaaDoor.Tx
open Go.RowKit Go.Proofs.YtidicpngmildkaaDoorW.PrintWords Go.Proofs.YtidicpngmildkaaDoorW.PrintLast Go.Proofs.YtidicpngmildkaaDoorW.PrintMore Go.Proofs.YtidicpngmildkaaDoor.R
set_option maxHeartbeats 8000000 in
set_option maxRecDepth 1000000 in
theorem pu_any (a b : UInt8) (w : World) (ha : isHex a) (hb : isHex b) :
  Calls Tryd.prog 44 #[.string ⟨#[a, b]⟩, .int .i64 16, .int .i64 8] w fun e w' => e = .returned (.tuple #[.int .u64 (16 * hexv a.toNat + hexv b.toNat), .nilIface]) ∧ Below w.heap.size w w' := by
 have HC := Lib.hid (pu_in a b w ha hb)
 clear ha hb
 go_enter Tryd.func44, Tryd.ntmps44
 go_wp2_with (first | (go_at_call 56; go_must (refine (HC.out).mono ?_); rintro e w1 ⟨rfl, hb⟩; have HB := Lib.hid hb; clear hb))
 go_ret2
 exact ⟨rfl, HB.out⟩
def hexSet : ByteArray := ⟨#[48, 49, 50, 51, 52, 53, 54, 55, 56, 57, 97, 98, 99, 100, 101, 102]⟩
theorem hexSet_ascii : ∀ (j : Nat) b, hexSet.data.toList[j]? = some b → b.toNat < 128 := ascii_of_all (by decide)
def hexB (c : UInt8) : Bool := (decide (48 ≤ c.toNat) && decide (c.toNat ≤ 57)) || (decide (97 ≤ c.toNat) && decide (c.toNat ≤ 102))
theorem hexB_is (c : UInt8) (h : hexB c = true) : isHex c := by
 unfold hexB at h
 simp only [Bool.or_eq_true, Bool.and_eq_true, decide_eq_true_eq] at h
 exact h
theorem in_hex (b : UInt8) : hexSet.data.toList.contains b = hexB b := by
 have key : ∀ n : Fin 256, hexSet.data.toList.contains (UInt8.ofNat n.1) = hexB (UInt8.ofNat n.1) := by decide +kernel
 have := key ⟨b.toNat, UInt8.toNat_lt b⟩
 simpa using this
theorem trim_hex_nil (a b : UInt8) : Lib.trimS [a, b] hexSet.data.toList = [] ↔ (hexB a && hexB b) = true := by
 have hp : (fun b => hexSet.data.toList.contains b) = hexB := funext in_hex
 unfold Lib.trimS Lib.trimLeftS Lib.trimRightS
 rw [hp, dropWhile_nil, List.all_reverse, all_dropWhile, List.all_reverse]
 simp
theorem trim_hex (s : ByteArray) (w : World) (hs : s.size ≤ 1000000) : Calls Tryd.prog 43 #[.string s, .string hexSet] w fun e w' => e = .returned (.string ⟨(Lib.trimS s.data.toList hexSet.data.toList).toArray⟩) ∧ Below w.heap.size w w' :=
 Any.strings_Trim_laid Tryd.lays160 (by kernel_rfl) s hexSet w (by omega) (by decide) hexSet_ascii
theorem trim_two (a b : UInt8) (w : World) : ∃ X : ByteArray, ((X.toList == ([] : List UInt8)) = (hexB a && hexB b)) ∧ Calls Tryd.prog 43 #[.string ⟨#[a, b]⟩, .string hexSet] w fun e w' => e = .returned (.string X) ∧ Below w.heap.size w w' := by
 refine ⟨⟨(Lib.trimS [a, b] hexSet.data.toList).toArray⟩, ?_, trim_hex ⟨#[a, b]⟩ w (by show 2 ≤ _; omega)⟩
 have h := trim_hex_nil a b
 have hx : (⟨(Lib.trimS [a, b] hexSet.data.toList).toArray⟩ : ByteArray).toList = Lib.trimS [a, b] hexSet.data.toList := by rw [ByteArray.toList_eq]
 rw [hx, Bool.eq_iff_iff, ← h]
 simp
end Go.Proofs.YtidicpngmildkaaDoor.Tx
set_option linter.unusedVariables false
set_option linter.unusedSimpArgs false
namespace Go.Proofs.YtidicpngmildkaaDoor.Tx
open Go.RowKit Go.Proofs.YtidicpngmildkaaDoorW.PrintWords Go.Proofs.YtidicpngmildkaaDoorW.PrintLast Go.Proofs.YtidicpngmildkaaDoorW.PrintMore Go.Proofs.YtidicpngmildkaaDoor.R
theorem wp_with {P : Program} {c : Code} {Q : Exit → Act → World → Prop} {a : Act} {w : World} (p : World → Prop) (h : p w) (k : p w → c.wp P Q a w) : c.wp P Q a w := k h
theorem char_lit {O : Option (Nat × Nat)} {w0 w : World} {g c : Nat} {s : ByteArray} {k : Nat} {v : Value} {l : List Tok} {last : Int} (h : Lx O w0 g c s k v l last w) (hl : l.length ≤ 1000000) (n n1 : Int) (hn : n1 = n) (j : Nat) (j1 : Int) (hj1 : j1 = (j : Int)) (hs : s.size ≤ 1000000) (hj : k + j ≤ s.size) :
  Calls Tryd.prog 42 #[.pointer (some ⟨g, 0, none⟩), .int .i64 n1, .int .i64 j1] w fun e w' => e = .returned (.int .i64 0) ∧ Laid O w0 g c s (k + j) l 4 ⟨#[]⟩ n last k w' := by
 subst hn hj1
 exact char_any h hl n1 j hs hj
theorem wr_bt (u : ByteArray) (i : Int) : wrap64 (bt u i) = bt u i := by
 have := bt_range u i
 unfold wrap64
 omega
def q1 : ByteArray := ⟨#[39, 92, 39, 39]⟩
def q2 : ByteArray := ⟨#[39, 92, 92, 39]⟩
def q3 : ByteArray := ⟨#[39, 92, 120]⟩
def plainB (c : Int) : Bool := decide (32 ≤ c) && decide (c ≤ 126) && decide (c ≠ 39)
theorem plain_any (c : Int) (w : World) : Calls Tryd.prog 45 #[.int .u8 c] w fun e w' => e = .returned (.bool (plainB c)) ∧ ∃ n, w' = w.drewN n := by
 refine (scan_Plain.calls c (plainB c) w ?_).mono fun e w' ⟨h1, h2⟩ => ⟨h1, h2.out⟩
 unfold scan_Plain.f plainB
 by_cases h1 : c ≥ 32
 ·rw [if_pos h1, decide_eq_true (show 32 ≤ c from h1)]
  by_cases h2 : c ≤ 126
  ·rw [if_pos h2, decide_eq_true h2]; simp [bne, Bool.beq_eq_decide_eq]
  ·rw [if_neg h2, decide_eq_false h2]; rfl
 ·rw [if_neg h1, decide_eq_false (show ¬ 32 ≤ c from h1)]; rfl
theorem trim_two2 (a b : UInt8) : ∃ X : ByteArray, ((X.toList == ([] : List UInt8)) = (hexB a && hexB b)) ∧ ∀ w : World, Calls Tryd.prog 43 #[.string ⟨#[a, b]⟩, .string hexSet] w fun e w' => e = .returned (.string X) ∧ Below w.heap.size w w' := by
 refine ⟨⟨(Lib.trimS [a, b] hexSet.data.toList).toArray⟩, ?_, fun w => trim_hex ⟨#[a, b]⟩ w (by show 2 ≤ _; omega)⟩
 have h := trim_hex_nil a b
 have hx : (⟨(Lib.trimS [a, b] hexSet.data.toList).toArray⟩ : ByteArray).toList = Lib.trimS [a, b] hexSet.data.toList := by rw [ByteArray.toList_eq]
 rw [hx, Bool.eq_iff_iff, ← h]
 simp
theorem ext_two (u : ByteArray) (h : 5 ≤ u.size) : u.extract 3 5 = ⟨#[UInt8.ofNat (bt u 3).toNat, UInt8.ofNat (bt u 4).toNat]⟩ := by
 have g3 : UInt8.ofNat (bt u ((3 : Nat) : Int)).toNat = u.data.toList[3]'(by rw [data_length]; omega) := by
  rw [bt_get u 3 (by rw [data_length]; omega)]; simp
 have g4 : UInt8.ofNat (bt u ((4 : Nat) : Int)).toNat = u.data.toList[4]'(by rw [data_length]; omega) := by
  rw [bt_get u 4 (by rw [data_length]; omega)]; simp
 apply ByteArray.ext
 apply Array.toList_inj.1
 show (u.extract 3 5).data.toList = [UInt8.ofNat (bt u ((3 : Nat) : Int)).toNat, UInt8.ofNat (bt u ((4 : Nat) : Int)).toNat]
 rw [g3, g4]
 simp only [ByteArray.data_extract, Array.toList_extract, List.extract_eq_take_drop]
 rw [List.drop_eq_getElem_cons (by rw [data_length]; omega), List.drop_eq_getElem_cons (by rw [data_length]; omega), List.take_succ_cons, List.take_succ_cons, List.take_zero]
theorem hex_small (a b : UInt8) (ha : isHex a) (hb : isHex b) : 0 ≤ 16 * hexv a.toNat + hexv b.toNat ∧ 16 * hexv a.toNat + hexv b.toNat ≤ 255 := by
 unfold isHex at ha hb
 have h1 : 0 ≤ hexv a.toNat ∧ hexv a.toNat ≤ 15 := by unfold hexv; split <;> omega
 have h2 : 0 ≤ hexv b.toNat ∧ hexv b.toNat ≤ 15 := by unfold hexv; split <;> omega
 omega
theorem wr_hex (x y : Int) (h : 0 ≤ 16 * x + y ∧ 16 * x + y ≤ 255) : wrap64 (16 * x + y) = 16 * x + y := by
 unfold wrap64; omega
def u8At (u : ByteArray) (i : Nat) : UInt8 := UInt8.ofNat (bt u (i : Int)).toNat
/-- What a char's text at the beginning says, and how long it is. -/
def qtAt (u : ByteArray) : Option (Int × Nat) :=
 if pre u q1 = true ∨ pre u q2 = true then some (bt u 2, 4)
 else if 6 ≤ u.size ∧ pre u q3 = true ∧ bt u 5 = 39 ∧ hexB (u8At u 3) = true ∧ hexB (u8At u 4) = true then some (16 * hexv (u8At u 3).toNat + hexv (u8At u 4).toNat, 6)
 else if 3 ≤ u.size ∧ plainB (bt u 1) = true ∧ bt u 1 ≠ 92 ∧ bt u 2 = 39 then some (bt u 1, 3)
 else none
def qE : Option (Int × Nat) → Int
 | some _ => 0
 | none => 7
set_option maxHeartbeats 8000000 in
set_option maxRecDepth 1000000 in
theorem quoted_any {O : Option (Nat × Nat)} {w0 w : World} {g c : Nat} {s : ByteArray} {k : Nat} {v : Value} {l : List Tok} {last : Int} (h : Lx O w0 g c s k v l last w) (hl : l.length ≤ 1000000) (hs : s.size ≤ 1000000) (hk : k ≤ s.size) :
  Calls Tryd.prog 31 #[.pointer (some ⟨g, 0, none⟩)] w (Got O s w0 (qE (qtAt (s.extract k s.size))) (fun W => ∃ n j, qtAt (s.extract k s.size) = some (n, j) ∧ Laid O w0 g c s (k + j) l 4 ⟨#[]⟩ n last k W)) := by
 have H := Lib.hid h
 clear h
 obtain ⟨u, hu⟩ : ∃ u, u = s.extract k s.size := ⟨_, rfl⟩
 have hus : u.size = s.size - k := by rw [hu, ByteArray.size_extract]; omega
 rw [← hu]
 obtain ⟨o, ho⟩ : ∃ o, qtAt u = o := ⟨_, rfl⟩
 rw [ho]
 have HU := Lib.hid hu
 have HUS := Lib.hid hus
 clear hu hus
 have x1 : ∀ h : 1 < u.size, ((u[1]'h).toNat : Int) = bt u 1 := bt_at u 1
 have x2 : ∀ h : 2 < u.size, ((u[2]'h).toNat : Int) = bt u 2 := bt_at u 2
 have x5 : ∀ h : 5 < u.size, ((u[5]'h).toNat : Int) = bt u 5 := bt_at u 5
 cases hp1 : pre u q1 with
 | true =>
  have hsz : 4 ≤ u.size := by
   unfold pre at hp1
   rw [Bool.and_eq_true, decide_eq_true_eq] at hp1
   exact hp1.1
  have HUS4 := Lib.hid hsz
  have HQ : Hid (o = some (bt u 2, 4)) := Lib.hid (by rw [← ho]; unfold qtAt; rw [if_pos (.inl hp1)])
  have HP1 := Lib.hid (show pre u ⟨#[39, 92, 39, 39]⟩ = true from hp1)
  have hi2 : (2 : Int) < (u.size : Int) := by omega
  clear hp1 ho
  go_enter Tryd.func31, Tryd.ntmps31
  go_wp2_with (first
   | (go_at_call 27; go_must (refine (rest_any H.out hs hk).mono ?_); rintro e w5 ⟨rfl, hb⟩; rw [← HU.out]; have H5 := Lib.hid (H.out.below hb); clear hb)
   | (go_at_call 37; go_must (refine (prefix_any u _ _).mono ?_); rintro e w6 ⟨rfl, n6, rfl⟩; first | rw [HP1.out] | rw [HP2.out] | rw [HP3.out]))
  refine wp_with (fun W => Lx O w0 g c s k v l last W.drew) (H5.out.drewN _).drew (fun hX => ?_)
  have H0 := Lib.hid hX
  clear hX
  refine start_ (n := 8) (S := fun w' => True) (ds := []) #[ZZ,ZZ,ZZ,ZZ,ZZ,ZZ,ZZ,ZZ] (by kernel_rfl) rfl rfl trivial (fun hHeld => ?_)
  generalize hwd : World.drew _ = wd at *
  refine pure_ (i := 0) (N := some 15) (v := ?_) (a' := ?_) #[YY,ZZ,ZZ,ZZ,ZZ,ZZ,ZZ,ZZ] rfl rfl (by kernel_rfl) (fun _ _ _ h => h) (Or.inl ⟨by rfl, ?_⟩) ?_ ?_
  rotate_left
  ·intro w'
   go_simp
   with_reducible rfl
  rotate_left
  ·simp only [Act.put, List.setIfInBounds_toArray, List.set_cons_zero, List.set_cons_succ, i64_w, i32_w]
   rfl
  refine pure_ (i := 1) (N := some 16) (v := ?_) (a' := ?_) #[YY,YY,ZZ,ZZ,ZZ,ZZ,ZZ,ZZ] rfl rfl (by kernel_rfl) (fun _ _ _ h => h) (Or.inl ⟨by rfl, ?_⟩) ?_ ?_
  rotate_left
  ·intro w'
   go_simp
   with_reducible rfl
  rotate_left
  ·simp only [Act.put, List.setIfInBounds_toArray, List.set_cons_zero, List.set_cons_succ, i64_w, i32_w]
   rfl
  refine pure_ (i := 2) (N := some 17) (v := ?_) (a' := ?_) #[YY,YY,YY,ZZ,ZZ,ZZ,ZZ,ZZ] rfl rfl (by kernel_rfl) (fun _ _ _ h => h) (Or.inl ⟨by rfl, ?_⟩) ?_ ?_
  rotate_left
  ·intro w'
   go_simp
   with_reducible rfl
  rotate_left
  ·simp only [Act.put, List.setIfInBounds_toArray, List.set_cons_zero, List.set_cons_succ, i64_w, i32_w]
   rfl
  refine pure_ (i := 3) (N := some 18) (v := ?_) (a' := ?_) #[YY,YY,YY,YY,ZZ,ZZ,ZZ,ZZ] rfl rfl (by kernel_rfl) (fun _ _ _ h => h) (Or.inl ⟨by rfl, ?_⟩) ?_ ?_
  rotate_left
  ·intro w'
   go_simp
   with_reducible rfl
  rotate_left
  ·simp only [Act.put, List.setIfInBounds_toArray, List.set_cons_zero, List.set_cons_succ, i64_w, i32_w]
   rfl
  refine take_ (i := 4) (N := some 19) (v := ?_) (a' := ?_) #[YY,YY,YY,YY,YY,ZZ,ZZ,ZZ] rfl rfl (by kernel_rfl) (fun _ _ _ h => h) (Or.inl ⟨by rfl, ?_⟩) hHeld ?_ ?_
  rotate_left
  ·intro w' _
   go_simp
   with_reducible rfl
  rotate_left
  ·simp only [Act.put, List.setIfInBounds_toArray, List.set_cons_zero, List.set_cons_succ, i64_w, i32_w]
   rfl
  refine pure_ (i := 5) (N := some 20) (v := ?_) (a' := ?_) #[YY,YY,YY,YY,YY,YY,ZZ,ZZ] rfl rfl (by kernel_rfl) (fun _ _ _ h => h) (Or.inl ⟨by rfl, ?_⟩) ?_ ?_
  rotate_left
  ·intro w'
   go_simp
   with_reducible rfl
  rotate_left
  ·simp only [Act.put, List.setIfInBounds_toArray, List.set_cons_zero, List.set_cons_succ, i64_w, i32_w]
   rfl
  refine one_ (i := 6) (N := some 21) #[YY,YY,YY,YY,YY,YY,YY,ZZ] rfl rfl (by kernel_rfl) (by decide) (fun K hK => ?_)
  refine goes_ Tryd.func42 (by kernel_rfl) rfl #[.pointer (some ⟨g, 0, none⟩), .int .i64 (wrap64 (bt u 2)), .int .i64 4] (by rfl) rfl rfl (by simp only [List.map_toArray, List.map_cons, List.map_nil]; rfl) ?_
  with_reducible refine (char_lit H0.out hl (bt u 2) (wrap64 (bt u 2)) (wr_bt _ _) 4 4 rfl hs (by have := HUS.out; omega)).mono ?_
  rintro e w10 ⟨rfl, hL⟩
  refine ⟨_, rfl, ?_⟩
  have HL := Lib.hid hL
  clear hL
  refine hK.out _ _ trivial (fun hHeld => ?_)
  clear hK K
  refine norm_ (a' := ?_) ?_ ?_
  rotate_left
  ·show Act.put _ (some 21) _ = _
   simp only [Act.put, List.setIfInBounds_toArray, List.set_cons_zero, List.set_cons_succ, i64_w, i32_w]
   rfl
  refine pure_ (i := 7) (N := some 2) (v := ?_) (a' := ?_) #[YY,YY,YY,YY,YY,YY,YY,YY] rfl rfl (by kernel_rfl) (fun _ _ _ h => h) (Or.inl ⟨by rfl, ?_⟩) ?_ ?_
  rotate_left
  ·intro w'
   go_simp
   with_reducible rfl
  rotate_left
  ·simp only [Act.put, List.setIfInBounds_toArray, List.set_cons_zero, List.set_cons_succ, i64_w, i32_w]
   rfl
  refine done_ (by kernel_rfl) ?_
  go_wp2
  go_ret
  rw [HQ.out]
  exact ⟨rfl, fun _ => ⟨_, _, rfl, HL.out⟩, HL.out.fin⟩
 | false =>
  have HP1 := Lib.hid (show pre u ⟨#[39, 92, 39, 39]⟩ = false from hp1)
  cases hp2 : pre u q2 with
  | true =>
   have hsz : 4 ≤ u.size := by
    unfold pre at hp2
    rw [Bool.and_eq_true, decide_eq_true_eq] at hp2
    exact hp2.1
   have HQ : Hid (o = some (bt u 2, 4)) := Lib.hid (by rw [← ho]; unfold qtAt; rw [if_pos (.inr hp2)])
   have HP2 := Lib.hid (show pre u ⟨#[39, 92, 92, 39]⟩ = true from hp2)
   have hi2 : (2 : Int) < (u.size : Int) := by omega
   clear hp1 hp2 ho
   go_enter Tryd.func31, Tryd.ntmps31
   go_wp2_with (first
    | (go_at_call 27; go_must (refine (rest_any H.out hs hk).mono ?_); rintro e w5 ⟨rfl, hb⟩; rw [← HU.out]; have H5 := Lib.hid (H.out.below hb); clear hb)
    | (go_at_call 37; go_must (refine (prefix_any u _ _).mono ?_); rintro e w6 ⟨rfl, n6, rfl⟩; first | rw [HP1.out] | rw [HP2.out] | rw [HP3.out]))
   refine wp_with (fun W => Lx O w0 g c s k v l last W.drew) (H5.out.drewN _).drew (fun hX => ?_)
   have H0 := Lib.hid hX
   clear hX
   refine start_ (n := 8) (S := fun w' => True) (ds := []) #[ZZ,ZZ,ZZ,ZZ,ZZ,ZZ,ZZ,ZZ] (by kernel_rfl) rfl rfl trivial (fun hHeld => ?_)
   generalize hwd : World.drew _ = wd at *
   refine pure_ (i := 0) (N := some 15) (v := ?_) (a' := ?_) #[YY,ZZ,ZZ,ZZ,ZZ,ZZ,ZZ,ZZ] rfl rfl (by kernel_rfl) (fun _ _ _ h => h) (Or.inl ⟨by rfl, ?_⟩) ?_ ?_
   rotate_left
   ·intro w'
    go_simp
    with_reducible rfl
   rotate_left
   ·simp only [Act.put, List.setIfInBounds_toArray, List.set_cons_zero, List.set_cons_succ, i64_w, i32_w]
    rfl
   refine pure_ (i := 1) (N := some 16) (v := ?_) (a' := ?_) #[YY,YY,ZZ,ZZ,ZZ,ZZ,ZZ,ZZ] rfl rfl (by kernel_rfl) (fun _ _ _ h => h) (Or.inl ⟨by rfl, ?_⟩) ?_ ?_
   rotate_left
   ·intro w'
    go_simp
    with_reducible rfl
   rotate_left
   ·simp only [Act.put, List.setIfInBounds_toArray, List.set_cons_zero, List.set_cons_succ, i64_w, i32_w]
    rfl
   refine pure_ (i := 2) (N := some 17) (v := ?_) (a' := ?_) #[YY,YY,YY,ZZ,ZZ,ZZ,ZZ,ZZ] rfl rfl (by kernel_rfl) (fun _ _ _ h => h) (Or.inl ⟨by rfl, ?_⟩) ?_ ?_
   rotate_left
   ·intro w'
    go_simp
    with_reducible rfl
   rotate_left
   ·simp only [Act.put, List.setIfInBounds_toArray, List.set_cons_zero, List.set_cons_succ, i64_w, i32_w]
    rfl
   refine pure_ (i := 3) (N := some 18) (v := ?_) (a' := ?_) #[YY,YY,YY,YY,ZZ,ZZ,ZZ,ZZ] rfl rfl (by kernel_rfl) (fun _ _ _ h => h) (Or.inl ⟨by rfl, ?_⟩) ?_ ?_
   rotate_left
   ·intro w'
    go_simp
    with_reducible rfl
   rotate_left
   ·simp only [Act.put, List.setIfInBounds_toArray, List.set_cons_zero, List.set_cons_succ, i64_w, i32_w]
    rfl
   refine take_ (i := 4) (N := some 19) (v := ?_) (a' := ?_) #[YY,YY,YY,YY,YY,ZZ,ZZ,ZZ] rfl rfl (by kernel_rfl) (fun _ _ _ h => h) (Or.inl ⟨by rfl, ?_⟩) hHeld ?_ ?_
   rotate_left
   ·intro w' _
    go_simp
    with_reducible rfl
   rotate_left
   ·simp only [Act.put, List.setIfInBounds_toArray, List.set_cons_zero, List.set_cons_succ, i64_w, i32_w]
    rfl
   refine pure_ (i := 5) (N := some 20) (v := ?_) (a' := ?_) #[YY,YY,YY,YY,YY,YY,ZZ,ZZ] rfl rfl (by kernel_rfl) (fun _ _ _ h => h) (Or.inl ⟨by rfl, ?_⟩) ?_ ?_
   rotate_left
   ·intro w'
    go_simp
    with_reducible rfl
   rotate_left
   ·simp only [Act.put, List.setIfInBounds_toArray, List.set_cons_zero, List.set_cons_succ, i64_w, i32_w]
    rfl
   refine one_ (i := 6) (N := some 21) #[YY,YY,YY,YY,YY,YY,YY,ZZ] rfl rfl (by kernel_rfl) (by decide) (fun K hK => ?_)
   refine goes_ Tryd.func42 (by kernel_rfl) rfl #[.pointer (some ⟨g, 0, none⟩), .int .i64 (wrap64 (bt u 2)), .int .i64 4] (by rfl) rfl rfl (by simp only [List.map_toArray, List.map_cons, List.map_nil]; rfl) ?_
   with_reducible refine (char_lit H0.out hl (bt u 2) (wrap64 (bt u 2)) (wr_bt _ _) 4 4 rfl hs (by have := HUS.out; omega)).mono ?_
   rintro e w10 ⟨rfl, hL⟩
   refine ⟨_, rfl, ?_⟩
   have HL := Lib.hid hL
   clear hL
   refine hK.out _ _ trivial (fun hHeld => ?_)
   clear hK K
   refine norm_ (a' := ?_) ?_ ?_
   rotate_left
   ·show Act.put _ (some 21) _ = _
    simp only [Act.put, List.setIfInBounds_toArray, List.set_cons_zero, List.set_cons_succ, i64_w, i32_w]
    rfl
   refine pure_ (i := 7) (N := some 2) (v := ?_) (a' := ?_) #[YY,YY,YY,YY,YY,YY,YY,YY] rfl rfl (by kernel_rfl) (fun _ _ _ h => h) (Or.inl ⟨by rfl, ?_⟩) ?_ ?_
   rotate_left
   ·intro w'
    go_simp
    with_reducible rfl
   rotate_left
   ·simp only [Act.put, List.setIfInBounds_toArray, List.set_cons_zero, List.set_cons_succ, i64_w, i32_w]
    rfl
   refine done_ (by kernel_rfl) ?_
   go_wp2
   go_ret
   rw [HQ.out]
   exact ⟨rfl, fun _ => ⟨_, _, rfl, HL.out⟩, HL.out.fin⟩
  | false =>
   have HP2 := Lib.hid (show pre u ⟨#[39, 92, 92, 39]⟩ = false from hp2)
   by_cases c6 : 6 ≤ u.size
   ·have hi5 : (5 : Int) < (u.size : Int) := by omega
    cases hp3 : pre u q3 with
    | false =>
     have HP3 := Lib.hid (show pre u ⟨#[39, 92, 120]⟩ = false from hp3)
     have c3 : 3 ≤ u.size := by omega
     have hi1 : (1 : Int) < (u.size : Int) := by omega
     have hi2 : (2 : Int) < (u.size : Int) := by omega
     cases hpl : plainB (bt u 1) with
     | false =>
      have HPL := Lib.hid hpl
      have HQ : Hid (o = none) := Lib.hid (by rw [← ho]; unfold qtAt; rw [if_neg (by rw [hp1, hp2]; simp), if_neg (fun x => by have := x.2.1; rw [hp3] at this; cases this), if_neg (fun x => by have := x.2.1; rw [hpl] at this; cases this)])
      clear ho hp1 hp2 hp3 hpl
      go_enter Tryd.func31, Tryd.ntmps31
      go_wp2_with (first
       | (go_at_call 27; go_must (refine (rest_any H.out hs hk).mono ?_); rintro e w5 ⟨rfl, hb⟩; rw [← HU.out]; have H5 := Lib.hid (H.out.below hb); clear hb)
       | (go_at_call 37; go_must (refine (prefix_any u _ _).mono ?_); rintro e w6 ⟨rfl, n6, rfl⟩; first | rw [HP1.out] | rw [HP2.out] | rw [HP3.out])
       | (go_at_call 45; go_must (refine (plain_any (bt u 1) _).mono ?_); rintro e w9 ⟨rfl, n9, rfl⟩; rw [HPL.out]))
      go_ret
      rw [HQ.out]
      exact ⟨rfl, fun e => absurd e (by decide), (H5.out.drewN _).fin⟩
     | true =>
      have HPL := Lib.hid hpl
      by_cases b1 : bt u 1 = 92
      ·have b1a : (bt u 1 != 92) = false := by simp [b1]
       have b1b : (bt u 1 == 92) = true := by simp [b1]
       have HQ : Hid (o = none) := Lib.hid (by rw [← ho]; unfold qtAt; rw [if_neg (by rw [hp1, hp2]; simp), if_neg (fun x => by have := x.2.1; rw [hp3] at this; cases this), if_neg (fun x => x.2.2.1 b1)])
       clear ho hp1 hp2 hp3 hpl b1
       go_enter Tryd.func31, Tryd.ntmps31
       go_wp2_with (first
        | (go_at_call 27; go_must (refine (rest_any H.out hs hk).mono ?_); rintro e w5 ⟨rfl, hb⟩; rw [← HU.out]; have H5 := Lib.hid (H.out.below hb); clear hb)
        | (go_at_call 37; go_must (refine (prefix_any u _ _).mono ?_); rintro e w6 ⟨rfl, n6, rfl⟩; first | rw [HP1.out] | rw [HP2.out] | rw [HP3.out])
        | (go_at_call 45; go_must (refine (plain_any (bt u 1) _).mono ?_); rintro e w9 ⟨rfl, n9, rfl⟩; rw [HPL.out]))
       go_ret
       rw [HQ.out]
       exact ⟨rfl, fun e => absurd e (by decide), (H5.out.drewN _).fin⟩
      ·have b1a : (bt u 1 != 92) = true := by simpa using b1
       have b1b : (bt u 1 == 92) = false := by simpa using b1
       by_cases b2 : bt u 2 = 39
       ·have b2b : (bt u 2 == 39) = true := by simp [b2]
        have HQ : Hid (o = some (bt u 1, 3)) := Lib.hid (by rw [← ho]; unfold qtAt; rw [if_neg (by rw [hp1, hp2]; simp), if_neg (fun x => by have := x.2.1; rw [hp3] at this; cases this), if_pos ⟨c3, hpl, b1, b2⟩])
        have HUS3 := Lib.hid c3
        clear ho hp1 hp2 hp3 hpl b1 b2
        go_enter Tryd.func31, Tryd.ntmps31
        go_wp2_with (first
         | (go_at_call 27; go_must (refine (rest_any H.out hs hk).mono ?_); rintro e w5 ⟨rfl, hb⟩; rw [← HU.out]; have H5 := Lib.hid (H.out.below hb); clear hb)
         | (go_at_call 37; go_must (refine (prefix_any u _ _).mono ?_); rintro e w6 ⟨rfl, n6, rfl⟩; first | rw [HP1.out] | rw [HP2.out] | rw [HP3.out])
         | (go_at_call 45; go_must (refine (plain_any (bt u 1) _).mono ?_); rintro e w9 ⟨rfl, n9, rfl⟩; rw [HPL.out]))
        refine wp_with (fun W => Lx O w0 g c s k v l last W.drew) (H5.out.drewN _).drew (fun hX => ?_)
        have H0 := Lib.hid hX
        clear hX
        refine start_ (n := 8) (S := fun w' => True) (ds := []) #[ZZ,ZZ,ZZ,ZZ,ZZ,ZZ,ZZ,ZZ] (by kernel_rfl) rfl rfl trivial (fun hHeld => ?_)
        generalize hwd : World.drew _ = wd at *
        refine pure_ (i := 0) (N := some 72) (v := ?_) (a' := ?_) #[YY,ZZ,ZZ,ZZ,ZZ,ZZ,ZZ,ZZ] rfl rfl (by kernel_rfl) (fun _ _ _ h => h) (Or.inl ⟨by rfl, ?_⟩) ?_ ?_
        rotate_left
        ·intro w'
         go_simp
         with_reducible rfl
        rotate_left
        ·simp only [Act.put, List.setIfInBounds_toArray, List.set_cons_zero, List.set_cons_succ, i64_w, i32_w]
         rfl
        refine pure_ (i := 1) (N := some 73) (v := ?_) (a' := ?_) #[YY,YY,ZZ,ZZ,ZZ,ZZ,ZZ,ZZ] rfl rfl (by kernel_rfl) (fun _ _ _ h => h) (Or.inl ⟨by rfl, ?_⟩) ?_ ?_
        rotate_left
        ·intro w'
         go_simp
         with_reducible rfl
        rotate_left
        ·simp only [Act.put, List.setIfInBounds_toArray, List.set_cons_zero, List.set_cons_succ, i64_w, i32_w]
         rfl
        refine pure_ (i := 2) (N := some 74) (v := ?_) (a' := ?_) #[YY,YY,YY,ZZ,ZZ,ZZ,ZZ,ZZ] rfl rfl (by kernel_rfl) (fun _ _ _ h => h) (Or.inl ⟨by rfl, ?_⟩) ?_ ?_
        rotate_left
        ·intro w'
         go_simp
         with_reducible rfl
        rotate_left
        ·simp only [Act.put, List.setIfInBounds_toArray, List.set_cons_zero, List.set_cons_succ, i64_w, i32_w]
         rfl
        refine pure_ (i := 3) (N := some 75) (v := ?_) (a' := ?_) #[YY,YY,YY,YY,ZZ,ZZ,ZZ,ZZ] rfl rfl (by kernel_rfl) (fun _ _ _ h => h) (Or.inl ⟨by rfl, ?_⟩) ?_ ?_
        rotate_left
        ·intro w'
         go_simp
         with_reducible rfl
        rotate_left
        ·simp only [Act.put, List.setIfInBounds_toArray, List.set_cons_zero, List.set_cons_succ, i64_w, i32_w]
         rfl
        refine take_ (i := 4) (N := some 76) (v := ?_) (a' := ?_) #[YY,YY,YY,YY,YY,ZZ,ZZ,ZZ] rfl rfl (by kernel_rfl) (fun _ _ _ h => h) (Or.inl ⟨by rfl, ?_⟩) hHeld ?_ ?_
        rotate_left
        ·intro w' _
         go_simp
         with_reducible rfl
        rotate_left
        ·simp only [Act.put, List.setIfInBounds_toArray, List.set_cons_zero, List.set_cons_succ, i64_w, i32_w]
         rfl
        refine pure_ (i := 5) (N := some 77) (v := ?_) (a' := ?_) #[YY,YY,YY,YY,YY,YY,ZZ,ZZ] rfl rfl (by kernel_rfl) (fun _ _ _ h => h) (Or.inl ⟨by rfl, ?_⟩) ?_ ?_
        rotate_left
        ·intro w'
         go_simp
         with_reducible rfl
        rotate_left
        ·simp only [Act.put, List.setIfInBounds_toArray, List.set_cons_zero, List.set_cons_succ, i64_w, i32_w]
         rfl
        refine one_ (i := 6) (N := some 78) #[YY,YY,YY,YY,YY,YY,YY,ZZ] rfl rfl (by kernel_rfl) (by decide) (fun K hK => ?_)
        refine goes_ Tryd.func42 (by kernel_rfl) rfl #[.pointer (some ⟨g, 0, none⟩), .int .i64 (wrap64 (bt u 1)), .int .i64 3] (by rfl) rfl rfl (by simp only [List.map_toArray, List.map_cons, List.map_nil]; rfl) ?_
        with_reducible refine (char_lit H0.out hl (bt u 1) (wrap64 (bt u 1)) (wr_bt _ _) 3 3 rfl hs (by have := HUS.out; omega)).mono ?_
        rintro e w10 ⟨rfl, hL⟩
        refine ⟨_, rfl, ?_⟩
        have HL := Lib.hid hL
        clear hL
        refine hK.out _ _ trivial (fun hHeld => ?_)
        clear hK K
        refine norm_ (a' := ?_) ?_ ?_
        rotate_left
        ·show Act.put _ (some 78) _ = _
         simp only [Act.put, List.setIfInBounds_toArray, List.set_cons_zero, List.set_cons_succ, i64_w, i32_w]
         rfl
        refine pure_ (i := 7) (N := some 2) (v := ?_) (a' := ?_) #[YY,YY,YY,YY,YY,YY,YY,YY] rfl rfl (by kernel_rfl) (fun _ _ _ h => h) (Or.inl ⟨by rfl, ?_⟩) ?_ ?_
        rotate_left
        ·intro w'
         go_simp
         with_reducible rfl
        rotate_left
        ·simp only [Act.put, List.setIfInBounds_toArray, List.set_cons_zero, List.set_cons_succ, i64_w, i32_w]
         rfl
        refine done_ (by kernel_rfl) ?_
        go_wp2
        go_ret
        rw [HQ.out]
        exact ⟨rfl, fun _ => ⟨_, _, rfl, HL.out⟩, HL.out.fin⟩
       ·have b2b : (bt u 2 == 39) = false := by simpa using b2
        have HQ : Hid (o = none) := Lib.hid (by rw [← ho]; unfold qtAt; rw [if_neg (by rw [hp1, hp2]; simp), if_neg (fun x => by have := x.2.1; rw [hp3] at this; cases this), if_neg (fun x => b2 x.2.2.2)])
        clear ho hp1 hp2 hp3 hpl b1 b2
        go_enter Tryd.func31, Tryd.ntmps31
        go_wp2_with (first
         | (go_at_call 27; go_must (refine (rest_any H.out hs hk).mono ?_); rintro e w5 ⟨rfl, hb⟩; rw [← HU.out]; have H5 := Lib.hid (H.out.below hb); clear hb)
         | (go_at_call 37; go_must (refine (prefix_any u _ _).mono ?_); rintro e w6 ⟨rfl, n6, rfl⟩; first | rw [HP1.out] | rw [HP2.out] | rw [HP3.out])
         | (go_at_call 45; go_must (refine (plain_any (bt u 1) _).mono ?_); rintro e w9 ⟨rfl, n9, rfl⟩; rw [HPL.out]))
        go_ret
        rw [HQ.out]
        exact ⟨rfl, fun e => absurd e (by decide), (H5.out.drewN _).fin⟩
    | true =>
     have HP3 := Lib.hid (show pre u ⟨#[39, 92, 120]⟩ = true from hp3)
     by_cases b5 : bt u 5 = 39
     ·have b5b : (bt u 5 == 39) = true := by simp [b5]
      have he := ext_two u (by omega)
      obtain ⟨a, ha⟩ : ∃ a, a = u8At u 3 := ⟨_, rfl⟩
      obtain ⟨b, hb⟩ : ∃ b, b = u8At u 4 := ⟨_, rfl⟩
      rw [show UInt8.ofNat (bt u 3).toNat = a from ha.symm, show UInt8.ofNat (bt u 4).toNat = b from hb.symm] at he
      obtain ⟨X, hX, htr⟩ := trim_two2 a b
      have HTR := Lib.hid htr
      have hs3 : (5 : Int) ≤ (u.size : Int) := by omega
      clear htr
      cases hh : (hexB a && hexB b) with
      | true =>
       have hh2 := Bool.and_eq_true_iff.1 hh
       have HHA := Lib.hid hh2.1
       have HHB := Lib.hid hh2.2
       rw [hh] at hX
       have HQ : Hid (o = some (16 * hexv a.toNat + hexv b.toNat, 6)) := Lib.hid (by rw [← ho]; unfold qtAt; rw [if_neg (by rw [hp1, hp2]; simp), if_pos ⟨c6, hp3, b5, by rw [← ha]; exact hh2.1, by rw [← hb]; exact hh2.2⟩, ← ha, ← hb])
       have hvb := hex_small a b (hexB_is a hh2.1) (hexB_is b hh2.2)
       clear ho hp1 hp2 hp3 b5 hh hh2 ha hb
       go_enter Tryd.func31, Tryd.ntmps31
       go_wp2_with (first
        | (go_at_call 27; go_must (refine (rest_any H.out hs hk).mono ?_); rintro e w5 ⟨rfl, hb⟩; rw [← HU.out]; have H5 := Lib.hid (H.out.below hb); clear hb)
        | (go_at_call 37; go_must (refine (prefix_any u _ _).mono ?_); rintro e w6 ⟨rfl, n6, rfl⟩; first | rw [HP1.out] | rw [HP2.out] | rw [HP3.out])
        | (go_at_call 43; go_must (refine (HTR.out _).mono ?_); rintro e w7 ⟨rfl, hb⟩; have H7 := Lib.hid ((H5.out.drewN _).below hb); clear hb)
        | (go_at_call 44; go_must (refine (pu_any a b _ (hexB_is a HHA.out) (hexB_is b HHB.out)).mono ?_); rintro e w8 ⟨rfl, hb⟩; have H8 := Lib.hid (H7.out.below hb); clear hb)
        | (go_at_call 42; go_must (refine (char_lit H8.out hl (16 * hexv a.toNat + hexv b.toNat) _ (by first | rfl | exact wr_hex _ _ hvb) 6 6 rfl hs (by have := HUS.out; omega)).mono ?_); rintro e w10 ⟨rfl, hL⟩; have HL := Lib.hid hL; clear hL))
       go_ret
       rw [HQ.out]
       exact ⟨rfl, fun _ => ⟨_, _, rfl, HL.out⟩, HL.out.fin⟩
      | false =>
       rw [hh] at hX
       have HHF := Lib.hid hh
       clear hh
       have c3 : 3 ≤ u.size := by omega
       have hi1 : (1 : Int) < (u.size : Int) := by omega
       have hi2 : (2 : Int) < (u.size : Int) := by omega
       cases hpl : plainB (bt u 1) with
       | false =>
        have HPL := Lib.hid hpl
        have HQ : Hid (o = none) := Lib.hid (by rw [← ho]; unfold qtAt; rw [if_neg (by rw [hp1, hp2]; simp), if_neg (fun x => by have h1 := x.2.2.2.1; have h2 := x.2.2.2.2; rw [← ha] at h1; rw [← hb] at h2; have := HHF.out; rw [h1, h2] at this; cases this), if_neg (fun x => by have := x.2.1; rw [hpl] at this; cases this)])
        clear ho hp1 hp2 hp3 b5 ha hb hpl
        go_enter Tryd.func31, Tryd.ntmps31
        go_wp2_with (first
         | (go_at_call 27; go_must (refine (rest_any H.out hs hk).mono ?_); rintro e w5 ⟨rfl, hb⟩; rw [← HU.out]; have H5 := Lib.hid (H.out.below hb); clear hb)
         | (go_at_call 37; go_must (refine (prefix_any u _ _).mono ?_); rintro e w6 ⟨rfl, n6, rfl⟩; first | rw [HP1.out] | rw [HP2.out] | rw [HP3.out])
         | (go_at_call 43; go_must (refine (HTR.out _).mono ?_); rintro e w7 ⟨rfl, hb⟩; have H7 := Lib.hid ((H5.out.drewN _).below hb); clear hb)
         | (go_at_call 45; go_must (refine (plain_any (bt u 1) _).mono ?_); rintro e w9 ⟨rfl, n9, rfl⟩; rw [HPL.out]))
        go_ret
        rw [HQ.out]
        exact ⟨rfl, fun e => absurd e (by decide), (H7.out.drewN _).fin⟩
       | true =>
        have HPL := Lib.hid hpl
        by_cases b1 : bt u 1 = 92
        ·have b1a : (bt u 1 != 92) = false := by simp [b1]
         have b1b : (bt u 1 == 92) = true := by simp [b1]
         have HQ : Hid (o = none) := Lib.hid (by rw [← ho]; unfold qtAt; rw [if_neg (by rw [hp1, hp2]; simp), if_neg (fun x => by have h1 := x.2.2.2.1; have h2 := x.2.2.2.2; rw [← ha] at h1; rw [← hb] at h2; have := HHF.out; rw [h1, h2] at this; cases this), if_neg (fun x => x.2.2.1 b1)])
         clear ho hp1 hp2 hp3 b5 ha hb hpl b1
         go_enter Tryd.func31, Tryd.ntmps31
         go_wp2_with (first
          | (go_at_call 27; go_must (refine (rest_any H.out hs hk).mono ?_); rintro e w5 ⟨rfl, hb⟩; rw [← HU.out]; have H5 := Lib.hid (H.out.below hb); clear hb)
          | (go_at_call 37; go_must (refine (prefix_any u _ _).mono ?_); rintro e w6 ⟨rfl, n6, rfl⟩; first | rw [HP1.out] | rw [HP2.out] | rw [HP3.out])
          | (go_at_call 43; go_must (refine (HTR.out _).mono ?_); rintro e w7 ⟨rfl, hb⟩; have H7 := Lib.hid ((H5.out.drewN _).below hb); clear hb)
          | (go_at_call 45; go_must (refine (plain_any (bt u 1) _).mono ?_); rintro e w9 ⟨rfl, n9, rfl⟩; rw [HPL.out]))
         go_ret
         rw [HQ.out]
         exact ⟨rfl, fun e => absurd e (by decide), (H7.out.drewN _).fin⟩
        ·have b1a : (bt u 1 != 92) = true := by simpa using b1
         have b1b : (bt u 1 == 92) = false := by simpa using b1
         by_cases b2 : bt u 2 = 39
         ·have b2b : (bt u 2 == 39) = true := by simp [b2]
          have HQ : Hid (o = some (bt u 1, 3)) := Lib.hid (by rw [← ho]; unfold qtAt; rw [if_neg (by rw [hp1, hp2]; simp), if_neg (fun x => by have h1 := x.2.2.2.1; have h2 := x.2.2.2.2; rw [← ha] at h1; rw [← hb] at h2; have := HHF.out; rw [h1, h2] at this; cases this), if_pos ⟨c3, hpl, b1, b2⟩])
          have HUS3 := Lib.hid c3
          clear ho hp1 hp2 hp3 b5 ha hb hpl b1 b2
          go_enter Tryd.func31, Tryd.ntmps31
          go_wp2_with (first
           | (go_at_call 27; go_must (refine (rest_any H.out hs hk).mono ?_); rintro e w5 ⟨rfl, hb⟩; rw [← HU.out]; have H5 := Lib.hid (H.out.below hb); clear hb)
           | (go_at_call 37; go_must (refine (prefix_any u _ _).mono ?_); rintro e w6 ⟨rfl, n6, rfl⟩; first | rw [HP1.out] | rw [HP2.out] | rw [HP3.out])
           | (go_at_call 43; go_must (refine (HTR.out _).mono ?_); rintro e w7 ⟨rfl, hb⟩; have H7 := Lib.hid ((H5.out.drewN _).below hb); clear hb)
           | (go_at_call 45; go_must (refine (plain_any (bt u 1) _).mono ?_); rintro e w9 ⟨rfl, n9, rfl⟩; rw [HPL.out]))
          refine wp_with (fun W => Lx O w0 g c s k v l last W.drew) (H7.out.drewN _).drew (fun hX => ?_)
          have H0 := Lib.hid hX
          clear hX
          refine start_ (n := 8) (S := fun w' => True) (ds := []) #[ZZ,ZZ,ZZ,ZZ,ZZ,ZZ,ZZ,ZZ] (by kernel_rfl) rfl rfl trivial (fun hHeld => ?_)
          generalize hwd : World.drew _ = wd at *
          refine pure_ (i := 0) (N := some 72) (v := ?_) (a' := ?_) #[YY,ZZ,ZZ,ZZ,ZZ,ZZ,ZZ,ZZ] rfl rfl (by kernel_rfl) (fun _ _ _ h => h) (Or.inl ⟨by rfl, ?_⟩) ?_ ?_
          rotate_left
          ·intro w'
           go_simp
           with_reducible rfl
          rotate_left
          ·simp only [Act.put, List.setIfInBounds_toArray, List.set_cons_zero, List.set_cons_succ, i64_w, i32_w]
           rfl
          refine pure_ (i := 1) (N := some 73) (v := ?_) (a' := ?_) #[YY,YY,ZZ,ZZ,ZZ,ZZ,ZZ,ZZ] rfl rfl (by kernel_rfl) (fun _ _ _ h => h) (Or.inl ⟨by rfl, ?_⟩) ?_ ?_
          rotate_left
          ·intro w'
           go_simp
           with_reducible rfl
          rotate_left
          ·simp only [Act.put, List.setIfInBounds_toArray, List.set_cons_zero, List.set_cons_succ, i64_w, i32_w]
           rfl
          refine pure_ (i := 2) (N := some 74) (v := ?_) (a' := ?_) #[YY,YY,YY,ZZ,ZZ,ZZ,ZZ,ZZ] rfl rfl (by kernel_rfl) (fun _ _ _ h => h) (Or.inl ⟨by rfl, ?_⟩) ?_ ?_
          rotate_left
          ·intro w'
           go_simp
           with_reducible rfl
          rotate_left
          ·simp only [Act.put, List.setIfInBounds_toArray, List.set_cons_zero, List.set_cons_succ, i64_w, i32_w]
           rfl
          refine pure_ (i := 3) (N := some 75) (v := ?_) (a' := ?_) #[YY,YY,YY,YY,ZZ,ZZ,ZZ,ZZ] rfl rfl (by kernel_rfl) (fun _ _ _ h => h) (Or.inl ⟨by rfl, ?_⟩) ?_ ?_
          rotate_left
          ·intro w'
           go_simp
           with_reducible rfl
          rotate_left
          ·simp only [Act.put, List.setIfInBounds_toArray, List.set_cons_zero, List.set_cons_succ, i64_w, i32_w]
           rfl
          refine take_ (i := 4) (N := some 76) (v := ?_) (a' := ?_) #[YY,YY,YY,YY,YY,ZZ,ZZ,ZZ] rfl rfl (by kernel_rfl) (fun _ _ _ h => h) (Or.inl ⟨by rfl, ?_⟩) hHeld ?_ ?_
          rotate_left
          ·intro w' _
           go_simp
           with_reducible rfl
          rotate_left
          ·simp only [Act.put, List.setIfInBounds_toArray, List.set_cons_zero, List.set_cons_succ, i64_w, i32_w]
           rfl
          refine pure_ (i := 5) (N := some 77) (v := ?_) (a' := ?_) #[YY,YY,YY,YY,YY,YY,ZZ,ZZ] rfl rfl (by kernel_rfl) (fun _ _ _ h => h) (Or.inl ⟨by rfl, ?_⟩) ?_ ?_
          rotate_left
          ·intro w'
           go_simp
           with_reducible rfl
          rotate_left
          ·simp only [Act.put, List.setIfInBounds_toArray, List.set_cons_zero, List.set_cons_succ, i64_w, i32_w]
           rfl
          refine one_ (i := 6) (N := some 78) #[YY,YY,YY,YY,YY,YY,YY,ZZ] rfl rfl (by kernel_rfl) (by decide) (fun K hK => ?_)
          refine goes_ Tryd.func42 (by kernel_rfl) rfl #[.pointer (some ⟨g, 0, none⟩), .int .i64 (wrap64 (bt u 1)), .int .i64 3] (by rfl) rfl rfl (by simp only [List.map_toArray, List.map_cons, List.map_nil]; rfl) ?_
          with_reducible refine (char_lit H0.out hl (bt u 1) (wrap64 (bt u 1)) (wr_bt _ _) 3 3 rfl hs (by have := HUS.out; omega)).mono ?_
          rintro e w10 ⟨rfl, hL⟩
          refine ⟨_, rfl, ?_⟩
          have HL := Lib.hid hL
          clear hL
          refine hK.out _ _ trivial (fun hHeld => ?_)
          clear hK K
          refine norm_ (a' := ?_) ?_ ?_
          rotate_left
          ·show Act.put _ (some 78) _ = _
           simp only [Act.put, List.setIfInBounds_toArray, List.set_cons_zero, List.set_cons_succ, i64_w, i32_w]
           rfl
          refine pure_ (i := 7) (N := some 2) (v := ?_) (a' := ?_) #[YY,YY,YY,YY,YY,YY,YY,YY] rfl rfl (by kernel_rfl) (fun _ _ _ h => h) (Or.inl ⟨by rfl, ?_⟩) ?_ ?_
          rotate_left
          ·intro w'
           go_simp
           with_reducible rfl
          rotate_left
          ·simp only [Act.put, List.setIfInBounds_toArray, List.set_cons_zero, List.set_cons_succ, i64_w, i32_w]
           rfl
          refine done_ (by kernel_rfl) ?_
          go_wp2
          go_ret
          rw [HQ.out]
          exact ⟨rfl, fun _ => ⟨_, _, rfl, HL.out⟩, HL.out.fin⟩
         ·have b2b : (bt u 2 == 39) = false := by simpa using b2
          have HQ : Hid (o = none) := Lib.hid (by rw [← ho]; unfold qtAt; rw [if_neg (by rw [hp1, hp2]; simp), if_neg (fun x => by have h1 := x.2.2.2.1; have h2 := x.2.2.2.2; rw [← ha] at h1; rw [← hb] at h2; have := HHF.out; rw [h1, h2] at this; cases this), if_neg (fun x => b2 x.2.2.2)])
          clear ho hp1 hp2 hp3 b5 ha hb hpl b1 b2
          go_enter Tryd.func31, Tryd.ntmps31
          go_wp2_with (first
           | (go_at_call 27; go_must (refine (rest_any H.out hs hk).mono ?_); rintro e w5 ⟨rfl, hb⟩; rw [← HU.out]; have H5 := Lib.hid (H.out.below hb); clear hb)
           | (go_at_call 37; go_must (refine (prefix_any u _ _).mono ?_); rintro e w6 ⟨rfl, n6, rfl⟩; first | rw [HP1.out] | rw [HP2.out] | rw [HP3.out])
           | (go_at_call 43; go_must (refine (HTR.out _).mono ?_); rintro e w7 ⟨rfl, hb⟩; have H7 := Lib.hid ((H5.out.drewN _).below hb); clear hb)
           | (go_at_call 45; go_must (refine (plain_any (bt u 1) _).mono ?_); rintro e w9 ⟨rfl, n9, rfl⟩; rw [HPL.out]))
          go_ret
          rw [HQ.out]
          exact ⟨rfl, fun e => absurd e (by decide), (H7.out.drewN _).fin⟩
     ·have b5b : (bt u 5 == 39) = false := by simpa using b5
      have c3 : 3 ≤ u.size := by omega
      have hi1 : (1 : Int) < (u.size : Int) := by omega
      have hi2 : (2 : Int) < (u.size : Int) := by omega
      cases hpl : plainB (bt u 1) with
      | false =>
       have HPL := Lib.hid hpl
       have HQ : Hid (o = none) := Lib.hid (by rw [← ho]; unfold qtAt; rw [if_neg (by rw [hp1, hp2]; simp), if_neg (fun x => b5 x.2.2.1), if_neg (fun x => by have := x.2.1; rw [hpl] at this; cases this)])
       clear ho hp1 hp2 hp3 b5 hpl
       go_enter Tryd.func31, Tryd.ntmps31
       go_wp2_with (first
        | (go_at_call 27; go_must (refine (rest_any H.out hs hk).mono ?_); rintro e w5 ⟨rfl, hb⟩; rw [← HU.out]; have H5 := Lib.hid (H.out.below hb); clear hb)
        | (go_at_call 37; go_must (refine (prefix_any u _ _).mono ?_); rintro e w6 ⟨rfl, n6, rfl⟩; first | rw [HP1.out] | rw [HP2.out] | rw [HP3.out])
        | (go_at_call 45; go_must (refine (plain_any (bt u 1) _).mono ?_); rintro e w9 ⟨rfl, n9, rfl⟩; rw [HPL.out]))
       go_ret
       rw [HQ.out]
       exact ⟨rfl, fun e => absurd e (by decide), (H5.out.drewN _).fin⟩
      | true =>
       have HPL := Lib.hid hpl
       by_cases b1 : bt u 1 = 92
       ·have b1a : (bt u 1 != 92) = false := by simp [b1]
        have b1b : (bt u 1 == 92) = true := by simp [b1]
        have HQ : Hid (o = none) := Lib.hid (by rw [← ho]; unfold qtAt; rw [if_neg (by rw [hp1, hp2]; simp), if_neg (fun x => b5 x.2.2.1), if_neg (fun x => x.2.2.1 b1)])
        clear ho hp1 hp2 hp3 b5 hpl b1
        go_enter Tryd.func31, Tryd.ntmps31
        go_wp2_with (first
         | (go_at_call 27; go_must (refine (rest_any H.out hs hk).mono ?_); rintro e w5 ⟨rfl, hb⟩; rw [← HU.out]; have H5 := Lib.hid (H.out.below hb); clear hb)
         | (go_at_call 37; go_must (refine (prefix_any u _ _).mono ?_); rintro e w6 ⟨rfl, n6, rfl⟩; first | rw [HP1.out] | rw [HP2.out] | rw [HP3.out])
         | (go_at_call 45; go_must (refine (plain_any (bt u 1) _).mono ?_); rintro e w9 ⟨rfl, n9, rfl⟩; rw [HPL.out]))
        go_ret
        rw [HQ.out]
        exact ⟨rfl, fun e => absurd e (by decide), (H5.out.drewN _).fin⟩
       ·have b1a : (bt u 1 != 92) = true := by simpa using b1
        have b1b : (bt u 1 == 92) = false := by simpa using b1
        by_cases b2 : bt u 2 = 39
        ·have b2b : (bt u 2 == 39) = true := by simp [b2]
         have HQ : Hid (o = some (bt u 1, 3)) := Lib.hid (by rw [← ho]; unfold qtAt; rw [if_neg (by rw [hp1, hp2]; simp), if_neg (fun x => b5 x.2.2.1), if_pos ⟨c3, hpl, b1, b2⟩])
         have HUS3 := Lib.hid c3
         clear ho hp1 hp2 hp3 b5 hpl b1 b2
         go_enter Tryd.func31, Tryd.ntmps31
         go_wp2_with (first
          | (go_at_call 27; go_must (refine (rest_any H.out hs hk).mono ?_); rintro e w5 ⟨rfl, hb⟩; rw [← HU.out]; have H5 := Lib.hid (H.out.below hb); clear hb)
          | (go_at_call 37; go_must (refine (prefix_any u _ _).mono ?_); rintro e w6 ⟨rfl, n6, rfl⟩; first | rw [HP1.out] | rw [HP2.out] | rw [HP3.out])
          | (go_at_call 45; go_must (refine (plain_any (bt u 1) _).mono ?_); rintro e w9 ⟨rfl, n9, rfl⟩; rw [HPL.out]))
         refine wp_with (fun W => Lx O w0 g c s k v l last W.drew) (H5.out.drewN _).drew (fun hX => ?_)
         have H0 := Lib.hid hX
         clear hX
         refine start_ (n := 8) (S := fun w' => True) (ds := []) #[ZZ,ZZ,ZZ,ZZ,ZZ,ZZ,ZZ,ZZ] (by kernel_rfl) rfl rfl trivial (fun hHeld => ?_)
         generalize hwd : World.drew _ = wd at *
         refine pure_ (i := 0) (N := some 72) (v := ?_) (a' := ?_) #[YY,ZZ,ZZ,ZZ,ZZ,ZZ,ZZ,ZZ] rfl rfl (by kernel_rfl) (fun _ _ _ h => h) (Or.inl ⟨by rfl, ?_⟩) ?_ ?_
         rotate_left
         ·intro w'
          go_simp
          with_reducible rfl
         rotate_left
         ·simp only [Act.put, List.setIfInBounds_toArray, List.set_cons_zero, List.set_cons_succ, i64_w, i32_w]
          rfl
         refine pure_ (i := 1) (N := some 73) (v := ?_) (a' := ?_) #[YY,YY,ZZ,ZZ,ZZ,ZZ,ZZ,ZZ] rfl rfl (by kernel_rfl) (fun _ _ _ h => h) (Or.inl ⟨by rfl, ?_⟩) ?_ ?_
         rotate_left
         ·intro w'
          go_simp
          with_reducible rfl
         rotate_left
         ·simp only [Act.put, List.setIfInBounds_toArray, List.set_cons_zero, List.set_cons_succ, i64_w, i32_w]
          rfl
         refine pure_ (i := 2) (N := some 74) (v := ?_) (a' := ?_) #[YY,YY,YY,ZZ,ZZ,ZZ,ZZ,ZZ] rfl rfl (by kernel_rfl) (fun _ _ _ h => h) (Or.inl ⟨by rfl, ?_⟩) ?_ ?_
         rotate_left
         ·intro w'
          go_simp
          with_reducible rfl
         rotate_left
         ·simp only [Act.put, List.setIfInBounds_toArray, List.set_cons_zero, List.set_cons_succ, i64_w, i32_w]
          rfl
         refine pure_ (i := 3) (N := some 75) (v := ?_) (a' := ?_) #[YY,YY,YY,YY,ZZ,ZZ,ZZ,ZZ] rfl rfl (by kernel_rfl) (fun _ _ _ h => h) (Or.inl ⟨by rfl, ?_⟩) ?_ ?_
         rotate_left
         ·intro w'
          go_simp
          with_reducible rfl
         rotate_left
         ·simp only [Act.put, List.setIfInBounds_toArray, List.set_cons_zero, List.set_cons_succ, i64_w, i32_w]
          rfl
         refine take_ (i := 4) (N := some 76) (v := ?_) (a' := ?_) #[YY,YY,YY,YY,YY,ZZ,ZZ,ZZ] rfl rfl (by kernel_rfl) (fun _ _ _ h => h) (Or.inl ⟨by rfl, ?_⟩) hHeld ?_ ?_
         rotate_left
         ·intro w' _
          go_simp
          with_reducible rfl
         rotate_left
         ·simp only [Act.put, List.setIfInBounds_toArray, List.set_cons_zero, List.set_cons_succ, i64_w, i32_w]
          rfl
         refine pure_ (i := 5) (N := some 77) (v := ?_) (a' := ?_) #[YY,YY,YY,YY,YY,YY,ZZ,ZZ] rfl rfl (by kernel_rfl) (fun _ _ _ h => h) (Or.inl ⟨by rfl, ?_⟩) ?_ ?_
         rotate_left
         ·intro w'
          go_simp
          with_reducible rfl
         rotate_left
         ·simp only [Act.put, List.setIfInBounds_toArray, List.set_cons_zero, List.set_cons_succ, i64_w, i32_w]
          rfl
         refine one_ (i := 6) (N := some 78) #[YY,YY,YY,YY,YY,YY,YY,ZZ] rfl rfl (by kernel_rfl) (by decide) (fun K hK => ?_)
         refine goes_ Tryd.func42 (by kernel_rfl) rfl #[.pointer (some ⟨g, 0, none⟩), .int .i64 (wrap64 (bt u 1)), .int .i64 3] (by rfl) rfl rfl (by simp only [List.map_toArray, List.map_cons, List.map_nil]; rfl) ?_
         with_reducible refine (char_lit H0.out hl (bt u 1) (wrap64 (bt u 1)) (wr_bt _ _) 3 3 rfl hs (by have := HUS.out; omega)).mono ?_
         rintro e w10 ⟨rfl, hL⟩
         refine ⟨_, rfl, ?_⟩
         have HL := Lib.hid hL
         clear hL
         refine hK.out _ _ trivial (fun hHeld => ?_)
         clear hK K
         refine norm_ (a' := ?_) ?_ ?_
         rotate_left
         ·show Act.put _ (some 78) _ = _
          simp only [Act.put, List.setIfInBounds_toArray, List.set_cons_zero, List.set_cons_succ, i64_w, i32_w]
          rfl
         refine pure_ (i := 7) (N := some 2) (v := ?_) (a' := ?_) #[YY,YY,YY,YY,YY,YY,YY,YY] rfl rfl (by kernel_rfl) (fun _ _ _ h => h) (Or.inl ⟨by rfl, ?_⟩) ?_ ?_
         rotate_left
         ·intro w'
          go_simp
          with_reducible rfl
         rotate_left
         ·simp only [Act.put, List.setIfInBounds_toArray, List.set_cons_zero, List.set_cons_succ, i64_w, i32_w]
          rfl
         refine done_ (by kernel_rfl) ?_
         go_wp2
         go_ret
         rw [HQ.out]
         exact ⟨rfl, fun _ => ⟨_, _, rfl, HL.out⟩, HL.out.fin⟩
        ·have b2b : (bt u 2 == 39) = false := by simpa using b2
         have HQ : Hid (o = none) := Lib.hid (by rw [← ho]; unfold qtAt; rw [if_neg (by rw [hp1, hp2]; simp), if_neg (fun x => b5 x.2.2.1), if_neg (fun x => b2 x.2.2.2)])
         clear ho hp1 hp2 hp3 b5 hpl b1 b2
         go_enter Tryd.func31, Tryd.ntmps31
         go_wp2_with (first
          | (go_at_call 27; go_must (refine (rest_any H.out hs hk).mono ?_); rintro e w5 ⟨rfl, hb⟩; rw [← HU.out]; have H5 := Lib.hid (H.out.below hb); clear hb)
          | (go_at_call 37; go_must (refine (prefix_any u _ _).mono ?_); rintro e w6 ⟨rfl, n6, rfl⟩; first | rw [HP1.out] | rw [HP2.out] | rw [HP3.out])
          | (go_at_call 45; go_must (refine (plain_any (bt u 1) _).mono ?_); rintro e w9 ⟨rfl, n9, rfl⟩; rw [HPL.out]))
         go_ret
         rw [HQ.out]
         exact ⟨rfl, fun e => absurd e (by decide), (H5.out.drewN _).fin⟩
   ·replace c6 : u.size < 6 := by omega
    by_cases c3 : 3 ≤ u.size
    ·skip
     have hi1 : (1 : Int) < (u.size : Int) := by omega
     have hi2 : (2 : Int) < (u.size : Int) := by omega
     cases hpl : plainB (bt u 1) with
     | false =>
      have HPL := Lib.hid hpl
      have HQ : Hid (o = none) := Lib.hid (by rw [← ho]; unfold qtAt; rw [if_neg (by rw [hp1, hp2]; simp), if_neg (fun x => by have := x.1; omega), if_neg (fun x => by have := x.2.1; rw [hpl] at this; cases this)])
      clear ho hp1 hp2 hpl
      go_enter Tryd.func31, Tryd.ntmps31
      go_wp2_with (first
       | (go_at_call 27; go_must (refine (rest_any H.out hs hk).mono ?_); rintro e w5 ⟨rfl, hb⟩; rw [← HU.out]; have H5 := Lib.hid (H.out.below hb); clear hb)
       | (go_at_call 37; go_must (refine (prefix_any u _ _).mono ?_); rintro e w6 ⟨rfl, n6, rfl⟩; first | rw [HP1.out] | rw [HP2.out] | rw [HP3.out])
       | (go_at_call 45; go_must (refine (plain_any (bt u 1) _).mono ?_); rintro e w9 ⟨rfl, n9, rfl⟩; rw [HPL.out]))
      go_ret
      rw [HQ.out]
      exact ⟨rfl, fun e => absurd e (by decide), (H5.out.drewN _).fin⟩
     | true =>
      have HPL := Lib.hid hpl
      by_cases b1 : bt u 1 = 92
      ·have b1a : (bt u 1 != 92) = false := by simp [b1]
       have b1b : (bt u 1 == 92) = true := by simp [b1]
       have HQ : Hid (o = none) := Lib.hid (by rw [← ho]; unfold qtAt; rw [if_neg (by rw [hp1, hp2]; simp), if_neg (fun x => by have := x.1; omega), if_neg (fun x => x.2.2.1 b1)])
       clear ho hp1 hp2 hpl b1
       go_enter Tryd.func31, Tryd.ntmps31
       go_wp2_with (first
        | (go_at_call 27; go_must (refine (rest_any H.out hs hk).mono ?_); rintro e w5 ⟨rfl, hb⟩; rw [← HU.out]; have H5 := Lib.hid (H.out.below hb); clear hb)
        | (go_at_call 37; go_must (refine (prefix_any u _ _).mono ?_); rintro e w6 ⟨rfl, n6, rfl⟩; first | rw [HP1.out] | rw [HP2.out] | rw [HP3.out])
        | (go_at_call 45; go_must (refine (plain_any (bt u 1) _).mono ?_); rintro e w9 ⟨rfl, n9, rfl⟩; rw [HPL.out]))
       go_ret
       rw [HQ.out]
       exact ⟨rfl, fun e => absurd e (by decide), (H5.out.drewN _).fin⟩
      ·have b1a : (bt u 1 != 92) = true := by simpa using b1
       have b1b : (bt u 1 == 92) = false := by simpa using b1
       by_cases b2 : bt u 2 = 39
       ·have b2b : (bt u 2 == 39) = true := by simp [b2]
        have HQ : Hid (o = some (bt u 1, 3)) := Lib.hid (by rw [← ho]; unfold qtAt; rw [if_neg (by rw [hp1, hp2]; simp), if_neg (fun x => by have := x.1; omega), if_pos ⟨c3, hpl, b1, b2⟩])
        have HUS3 := Lib.hid c3
        clear ho hp1 hp2 hpl b1 b2
        go_enter Tryd.func31, Tryd.ntmps31
        go_wp2_with (first
         | (go_at_call 27; go_must (refine (rest_any H.out hs hk).mono ?_); rintro e w5 ⟨rfl, hb⟩; rw [← HU.out]; have H5 := Lib.hid (H.out.below hb); clear hb)
         | (go_at_call 37; go_must (refine (prefix_any u _ _).mono ?_); rintro e w6 ⟨rfl, n6, rfl⟩; first | rw [HP1.out] | rw [HP2.out] | rw [HP3.out])
         | (go_at_call 45; go_must (refine (plain_any (bt u 1) _).mono ?_); rintro e w9 ⟨rfl, n9, rfl⟩; rw [HPL.out]))
        refine wp_with (fun W => Lx O w0 g c s k v l last W.drew) (H5.out.drewN _).drew (fun hX => ?_)
        have H0 := Lib.hid hX
        clear hX
        refine start_ (n := 8) (S := fun w' => True) (ds := []) #[ZZ,ZZ,ZZ,ZZ,ZZ,ZZ,ZZ,ZZ] (by kernel_rfl) rfl rfl trivial (fun hHeld => ?_)
        generalize hwd : World.drew _ = wd at *
        refine pure_ (i := 0) (N := some 72) (v := ?_) (a' := ?_) #[YY,ZZ,ZZ,ZZ,ZZ,ZZ,ZZ,ZZ] rfl rfl (by kernel_rfl) (fun _ _ _ h => h) (Or.inl ⟨by rfl, ?_⟩) ?_ ?_
        rotate_left
        ·intro w'
         go_simp
         with_reducible rfl
        rotate_left
        ·simp only [Act.put, List.setIfInBounds_toArray, List.set_cons_zero, List.set_cons_succ, i64_w, i32_w]
         rfl
        refine pure_ (i := 1) (N := some 73) (v := ?_) (a' := ?_) #[YY,YY,ZZ,ZZ,ZZ,ZZ,ZZ,ZZ] rfl rfl (by kernel_rfl) (fun _ _ _ h => h) (Or.inl ⟨by rfl, ?_⟩) ?_ ?_
        rotate_left
        ·intro w'
         go_simp
         with_reducible rfl
        rotate_left
        ·simp only [Act.put, List.setIfInBounds_toArray, List.set_cons_zero, List.set_cons_succ, i64_w, i32_w]
         rfl
        refine pure_ (i := 2) (N := some 74) (v := ?_) (a' := ?_) #[YY,YY,YY,ZZ,ZZ,ZZ,ZZ,ZZ] rfl rfl (by kernel_rfl) (fun _ _ _ h => h) (Or.inl ⟨by rfl, ?_⟩) ?_ ?_
        rotate_left
        ·intro w'
         go_simp
         with_reducible rfl
        rotate_left
        ·simp only [Act.put, List.setIfInBounds_toArray, List.set_cons_zero, List.set_cons_succ, i64_w, i32_w]
         rfl
        refine pure_ (i := 3) (N := some 75) (v := ?_) (a' := ?_) #[YY,YY,YY,YY,ZZ,ZZ,ZZ,ZZ] rfl rfl (by kernel_rfl) (fun _ _ _ h => h) (Or.inl ⟨by rfl, ?_⟩) ?_ ?_
        rotate_left
        ·intro w'
         go_simp
         with_reducible rfl
        rotate_left
        ·simp only [Act.put, List.setIfInBounds_toArray, List.set_cons_zero, List.set_cons_succ, i64_w, i32_w]
         rfl
        refine take_ (i := 4) (N := some 76) (v := ?_) (a' := ?_) #[YY,YY,YY,YY,YY,ZZ,ZZ,ZZ] rfl rfl (by kernel_rfl) (fun _ _ _ h => h) (Or.inl ⟨by rfl, ?_⟩) hHeld ?_ ?_
        rotate_left
        ·intro w' _
         go_simp
         with_reducible rfl
        rotate_left
        ·simp only [Act.put, List.setIfInBounds_toArray, List.set_cons_zero, List.set_cons_succ, i64_w, i32_w]
         rfl
        refine pure_ (i := 5) (N := some 77) (v := ?_) (a' := ?_) #[YY,YY,YY,YY,YY,YY,ZZ,ZZ] rfl rfl (by kernel_rfl) (fun _ _ _ h => h) (Or.inl ⟨by rfl, ?_⟩) ?_ ?_
        rotate_left
        ·intro w'
         go_simp
         with_reducible rfl
        rotate_left
        ·simp only [Act.put, List.setIfInBounds_toArray, List.set_cons_zero, List.set_cons_succ, i64_w, i32_w]
         rfl
        refine one_ (i := 6) (N := some 78) #[YY,YY,YY,YY,YY,YY,YY,ZZ] rfl rfl (by kernel_rfl) (by decide) (fun K hK => ?_)
        refine goes_ Tryd.func42 (by kernel_rfl) rfl #[.pointer (some ⟨g, 0, none⟩), .int .i64 (wrap64 (bt u 1)), .int .i64 3] (by rfl) rfl rfl (by simp only [List.map_toArray, List.map_cons, List.map_nil]; rfl) ?_
        with_reducible refine (char_lit H0.out hl (bt u 1) (wrap64 (bt u 1)) (wr_bt _ _) 3 3 rfl hs (by have := HUS.out; omega)).mono ?_
        rintro e w10 ⟨rfl, hL⟩
        refine ⟨_, rfl, ?_⟩
        have HL := Lib.hid hL
        clear hL
        refine hK.out _ _ trivial (fun hHeld => ?_)
        clear hK K
        refine norm_ (a' := ?_) ?_ ?_
        rotate_left
        ·show Act.put _ (some 78) _ = _
         simp only [Act.put, List.setIfInBounds_toArray, List.set_cons_zero, List.set_cons_succ, i64_w, i32_w]
         rfl
        refine pure_ (i := 7) (N := some 2) (v := ?_) (a' := ?_) #[YY,YY,YY,YY,YY,YY,YY,YY] rfl rfl (by kernel_rfl) (fun _ _ _ h => h) (Or.inl ⟨by rfl, ?_⟩) ?_ ?_
        rotate_left
        ·intro w'
         go_simp
         with_reducible rfl
        rotate_left
        ·simp only [Act.put, List.setIfInBounds_toArray, List.set_cons_zero, List.set_cons_succ, i64_w, i32_w]
         rfl
        refine done_ (by kernel_rfl) ?_
        go_wp2
        go_ret
        rw [HQ.out]
        exact ⟨rfl, fun _ => ⟨_, _, rfl, HL.out⟩, HL.out.fin⟩
       ·have b2b : (bt u 2 == 39) = false := by simpa using b2
        have HQ : Hid (o = none) := Lib.hid (by rw [← ho]; unfold qtAt; rw [if_neg (by rw [hp1, hp2]; simp), if_neg (fun x => by have := x.1; omega), if_neg (fun x => b2 x.2.2.2)])
        clear ho hp1 hp2 hpl b1 b2
        go_enter Tryd.func31, Tryd.ntmps31
        go_wp2_with (first
         | (go_at_call 27; go_must (refine (rest_any H.out hs hk).mono ?_); rintro e w5 ⟨rfl, hb⟩; rw [← HU.out]; have H5 := Lib.hid (H.out.below hb); clear hb)
         | (go_at_call 37; go_must (refine (prefix_any u _ _).mono ?_); rintro e w6 ⟨rfl, n6, rfl⟩; first | rw [HP1.out] | rw [HP2.out] | rw [HP3.out])
         | (go_at_call 45; go_must (refine (plain_any (bt u 1) _).mono ?_); rintro e w9 ⟨rfl, n9, rfl⟩; rw [HPL.out]))
        go_ret
        rw [HQ.out]
        exact ⟨rfl, fun e => absurd e (by decide), (H5.out.drewN _).fin⟩
    ·replace c3 : u.size < 3 := by omega
     have HQ : Hid (o = none) := Lib.hid (by rw [← ho]; unfold qtAt; rw [if_neg (by rw [hp1, hp2]; simp), if_neg (fun x => by have := x.1; omega), if_neg (fun x => by have := x.1; omega)])
     clear ho hp1 hp2
     go_enter Tryd.func31, Tryd.ntmps31
     go_wp2_with (first
      | (go_at_call 27; go_must (refine (rest_any H.out hs hk).mono ?_); rintro e w5 ⟨rfl, hb⟩; rw [← HU.out]; have H5 := Lib.hid (H.out.below hb); clear hb)
      | (go_at_call 37; go_must (refine (prefix_any u _ _).mono ?_); rintro e w6 ⟨rfl, n6, rfl⟩; first | rw [HP1.out] | rw [HP2.out] | rw [HP3.out]))
     go_ret
     rw [HQ.out]
     exact ⟨rfl, fun e => absurd e (by decide), (H5.out.drewN _).fin⟩
end Go.Proofs.YtidicpngmildkaaDoor.Tx
set_option linter.unusedVariables false
set_option linter.unusedSimpArgs false
namespace Go.Proofs.YtidicpngmildkaaDoor.Tx
open Go.RowKit Go.Proofs.YtidicpngmildkaaDoorW.PrintWords Go.Proofs.YtidicpngmildkaaDoorW.PrintLast Go.Proofs.YtidicpngmildkaaDoorW.PrintMore Go.Proofs.YtidicpngmildkaaDoor.R
open Go.Proofs.YtidicpngmildkaaDoor.Wd (mem lst is_any)
def signsL : List ByteArray := [⟨#[38, 38]⟩, ⟨#[124, 124]⟩, ⟨#[61, 61]⟩, ⟨#[33, 61]⟩, ⟨#[60, 61]⟩, ⟨#[62, 61]⟩, ⟨#[61]⟩, ⟨#[60]⟩, ⟨#[62]⟩, ⟨#[43]⟩, ⟨#[45]⟩, ⟨#[42]⟩, ⟨#[47]⟩, ⟨#[37]⟩, ⟨#[38]⟩, ⟨#[124]⟩, ⟨#[33]⟩, ⟨#[40]⟩, ⟨#[41]⟩, ⟨#[91]⟩, ⟨#[93]⟩, ⟨#[123]⟩, ⟨#[125]⟩, ⟨#[59]⟩, ⟨#[44]⟩, ⟨#[46]⟩]
theorem signs_lit (w : World) : Kd.C Kd.string (w.alloc (.cells #[.string ⟨#[38, 38]⟩, .string ⟨#[124, 124]⟩, .string ⟨#[61, 61]⟩, .string ⟨#[33, 61]⟩, .string ⟨#[60, 61]⟩, .string ⟨#[62, 61]⟩, .string ⟨#[61]⟩, .string ⟨#[60]⟩, .string ⟨#[62]⟩, .string ⟨#[43]⟩, .string ⟨#[45]⟩, .string ⟨#[42]⟩, .string ⟨#[47]⟩, .string ⟨#[37]⟩, .string ⟨#[38]⟩, .string ⟨#[124]⟩, .string ⟨#[33]⟩, .string ⟨#[40]⟩, .string ⟨#[41]⟩, .string ⟨#[91]⟩, .string ⟨#[93]⟩, .string ⟨#[123]⟩, .string ⟨#[125]⟩, .string ⟨#[59]⟩, .string ⟨#[44]⟩, .string ⟨#[46]⟩] 9)) (some ⟨w.heap.size, 0, none⟩) signsL.length signsL := by
 obtain ⟨A, c, he, hlc, hC⟩ := Kd.R_reads (Wd.R_fields w signsL (by decide))
 injection he with h1 _ _
 rw [← h1] at hC
 exact hC
/-- What stands at a byte: the error; the token's kind, text and number; where it ends. -/
structure Fd where
 e : Int
 kind : Int
 text : ByteArray
 n : Int
 k : Nat
def qtFd (k : Nat) : Option (Int × Nat) → Fd
 | some (n, j) => ⟨0, 4, ⟨#[]⟩, n, k + j⟩
 | none => ⟨7, 0, ⟨#[]⟩, 0, k⟩
def sgFd (k : Nat) : Option ByteArray → Fd
 | some t => ⟨0, 5, t, 0, k + t.size⟩
 | none => ⟨5, 0, ⟨#[]⟩, 0, k⟩
def nxAt (s : ByteArray) (k : Nat) : Fd :=
 if inS smallS (bt s (k : Int)) = true then ⟨longE (nmAt s k).2, wordKind (mem (lst 1) (s.extract k (nmAt s k).1)), s.extract k (nmAt s k).1, 0, (nmAt s k).1⟩
 else if inS digSet (bt s (k : Int)) = true then ⟨(numAt s k).2, 3, ⟨#[]⟩, (numAt s k).1, k + whN s digSet k⟩
 else if bt s (k : Int) = 39 then
  qtFd k (qtAt (s.extract k s.size))
 else sgFd k (signsL.find? (fun t => pre (s.extract k s.size) t))
def NxG (O : Option (Nat × Nat)) (w0 : World) (g c : Nat) (s : ByteArray) (l : List Tok) (last : Int) (k : Nat) (f : Fd) : Ending → World → Prop := Got O s w0 f.e (Laid O w0 g c s f.k l f.kind f.text f.n last k)
set_option maxHeartbeats 8000000 in
set_option maxRecDepth 1000000 in
theorem next_lex {O : Option (Nat × Nat)} {w0 w : World} {g c : Nat} {s : ByteArray} {k : Nat} {v : Value} {l : List Tok} {last : Int} (ht : Wd.Tab w0) (h : Lx O w0 g c s k v l last w) (hl : l.length ≤ 1000000) (hs : s.size ≤ 1000000) (hk : k ≤ s.size) :
  Calls Tryd.prog 20 #[.pointer (some ⟨g, 0, none⟩), .int .u8 (bt s (k : Int))] w (NxG O w0 g c s l last k (nxAt s k)) := by
 have HT := Lib.hid ht
 have H := Lib.hid h
 clear h ht
 obtain ⟨b0, b1⟩ := bt_u8 s (k : Int)
 obtain ⟨f, hf⟩ : ∃ f, nxAt s k = f := ⟨_, rfl⟩
 rw [hf]
 obtain ⟨b, hb⟩ : ∃ b, b = bt s (k : Int) := ⟨_, rfl⟩
 rw [← hb] at b0 b1 ⊢
 cases hin : inS smallS b with
 | true =>
  have hix := index_in smallS b b0 b1 hin
  have hix2 : decide (0 ≤ Lib.indexByte smallS.data.toList b.toNat.toUInt8) = true := decide_eq_true hix
  have HF := Lib.hid (show f = ⟨longE (nmAt s k).2, wordKind (mem (lst 1) (s.extract k (nmAt s k).1)), s.extract k (nmAt s k).1, 0, (nmAt s k).1⟩ from by rw [← hf]; unfold nxAt; rw [← hb, if_pos hin])
  clear hin hf hb
  go_enter Tryd.func20, Tryd.ntmps20
  go_wp2_with (first
   | (go_at_call 24; go_must (refine (Tryd.strings_IndexByte smallS b _).mono ?_); rintro e w3 ⟨rfl, rfl⟩)
   | (go_at_call 29; go_must (refine (name_any HT.out H.out hl hs hk).mono ?_); rintro e w4 ⟨rfl, hg, hbl⟩; have HG := Lib.hid hg; have HB := Lib.hid hbl; clear hg hbl))
  go_ret
  rw [HF.out]
  exact ⟨rfl, HG.out, HB.out⟩
 | false =>
  have hix := index_out smallS b b0 b1 hin
  cases hid : inS digSet b with
  | true =>
   have hjx := index_in digSet b b0 b1 hid
   have hjx2 : decide (0 ≤ Lib.indexByte digSet.data.toList b.toNat.toUInt8) = true := decide_eq_true hjx
   have HF := Lib.hid (show f = ⟨(numAt s k).2, 3, ⟨#[]⟩, (numAt s k).1, k + whN s digSet k⟩ from by rw [← hf]; unfold nxAt; rw [← hb, if_neg (by rw [hin]; simp), if_pos hid])
   clear hin hid hf hb
   go_enter Tryd.func20, Tryd.ntmps20
   go_wp2_with (first
    | (go_at_call 24; go_must (first | (refine (Tryd.strings_IndexByte smallS b _).mono ?_) | (refine (Tryd.strings_IndexByte digSet b _).mono ?_)); rintro e w3 ⟨rfl, rfl⟩)
    | (go_at_call 30; go_must (refine (int_any H.out hl hs hk).mono ?_); rintro e w4 ⟨rfl, hg, hbl⟩; have HG := Lib.hid hg; have HB := Lib.hid hbl; clear hg hbl))
   go_ret
   rw [HF.out]
   exact ⟨rfl, HG.out, HB.out⟩
  | false =>
   have hjx := index_out digSet b b0 b1 hid
   by_cases h39 : b = 39
   ·obtain ⟨o, ho⟩ : ∃ o, qtAt (s.extract k s.size) = o := ⟨_, rfl⟩
    have hq := fun w => quoted_any (O := O) (w := w) (w0 := w0) (g := g) (c := c) (s := s) (k := k) (v := v) (l := l) (last := last)
    rw [ho] at hq
    have HQ := Lib.hid hq
    have HF := Lib.hid (show f = qtFd k o from by rw [← hf]; unfold nxAt; rw [← hb, if_neg (by rw [hin]; simp), if_neg (by rw [hid]; simp), if_pos h39, ho])
    have h39b : (b == 39) = true := by simp [h39]
    clear hin hid hf hb ho hq h39
    go_enter Tryd.func20, Tryd.ntmps20
    go_wp2_with (first
     | (go_at_call 24; go_must (first | (refine (Tryd.strings_IndexByte smallS b _).mono ?_) | (refine (Tryd.strings_IndexByte digSet b _).mono ?_)); rintro e w3 ⟨rfl, rfl⟩)
     | (go_at_call 31; go_must (refine (HQ.out _ H.out hl hs hk).mono ?_); rintro e w4 ⟨rfl, hg, hbl⟩; have HG := Lib.hid hg; have HB := Lib.hid hbl; clear hg hbl))
    go_ret
    rw [HF.out]
    cases o with
    | none => exact ⟨rfl, fun e => absurd e (show ¬ (7 : Int) = 0 by decide), HB.out⟩
    | some p =>
     obtain ⟨n, j⟩ := p
     refine ⟨rfl, fun _ => ?_, HB.out⟩
     obtain ⟨n1, j1, hx, hL⟩ := HG.out rfl
     obtain ⟨rfl, rfl⟩ := Prod.mk.inj (Option.some.inj hx)
     exact hL
   ·obtain ⟨o, ho⟩ : ∃ o, signsL.find? (fun t => pre (s.extract k s.size) t) = o := ⟨_, rfl⟩
    have hq := fun w A cp hL hr => sign_any (O := O) (w := w) (w0 := w0) (g := g) (c := c) (s := s) (k := k) (v := v) (l := l) (last := last) hL hl hs hk A 26 cp signsL rfl (by omega) hr
    rw [ho] at hq
    have HQ := Lib.hid hq
    have HF := Lib.hid (show f = sgFd k o from by rw [← hf]; unfold nxAt; rw [← hb, if_neg (by rw [hin]; simp), if_neg (by rw [hid]; simp), if_neg h39, ho])
    have h39b : (b == 39) = false := by simpa using h39
    clear hin hid hf hb ho hq h39
    have HAL := Lib.hid (fun W : World => below_alloc (Below.refl W.heap.size W))
    go_enter Tryd.func20, Tryd.ntmps20
    go_wp2_with (first
     | (go_at_call 24; go_must (first | (refine (Tryd.strings_IndexByte smallS b _).mono ?_) | (refine (Tryd.strings_IndexByte digSet b _).mono ?_)); rintro e w3 ⟨rfl, rfl⟩)
     | (go_at_call 32; go_must (refine (HQ.out _ _ _ (H.out.below (HAL.out _ _)) (signs_lit _)).mono ?_); rintro e w4 ⟨rfl, hg, hbl⟩; have HG := Lib.hid hg; have HB := Lib.hid hbl; clear hg hbl))
    go_ret
    rw [HF.out]
    cases o with
    | none => exact ⟨rfl, fun e => absurd e (show ¬ (5 : Int) = 0 by decide), HB.out⟩
    | some t =>
     refine ⟨rfl, fun _ => ?_, HB.out⟩
     obtain ⟨t1, hx, hL⟩ := HG.out rfl
     obtain rfl := Option.some.inj hx
     exact hL
end Go.Proofs.YtidicpngmildkaaDoor.Tx
set_option linter.unusedVariables false
set_option linter.unusedSimpArgs false
namespace Go.Proofs.YtidicpngmildkaaDoor.Tx
open Go.RowKit Go.Proofs.YtidicpngmildkaaDoorW.PrintWords Go.Proofs.YtidicpngmildkaaDoorW.PrintLast Go.Proofs.YtidicpngmildkaaDoorW.PrintMore Go.Proofs.YtidicpngmildkaaDoor.R
open Go.Proofs.YtidicpngmildkaaDoor.Wd (mem lst is_any)
def blankS : ByteArray := ⟨#[32, 9, 13, 10]⟩
/-- What stands at a byte, comments too. -/
def fdAt (s : ByteArray) (k : Nat) : Fd :=
 if pre (s.extract k s.size) ⟨#[47, 42]⟩ = true then ⟨(noteAt (s.extract k s.size)).2.2, 6, (noteAt (s.extract k s.size)).1, 0, k + (noteAt (s.extract k s.size)).2.1.toNat⟩ else nxAt s k
def tkAt (d : Fd) (last : Int) (s : ByteArray) (q : Nat) : Tok := TkOf d.kind d.text d.n (last == (ln s q : Int)) s q
inductive LexR where
 | ok (l : List Tok)
 | bad (code : Int) (k : Nat)
def lexG (s : ByteArray) : Nat → Nat → List Tok → Int → LexR
 | 0, k, _, _ => .bad 0 k
 | f + 1, k, l, last =>
  if k + whN s blankS k < s.size then
   if (fdAt s (k + whN s blankS k)).e = 0 then lexG s f (fdAt s (k + whN s blankS k)).k (l ++ [tkAt (fdAt s (k + whN s blankS k)) last s (k + whN s blankS k)]) (ln s (fdAt s (k + whN s blankS k)).k)
   else .bad (fdAt s (k + whN s blankS k)).e (k + whN s blankS k)
  else .ok (l ++ [tkAt ⟨0, 0, ⟨#[]⟩, 0, 0⟩ last s (k + whN s blankS k)])
def lexA (s : ByteArray) : LexR := lexG s (s.size + 1) 0 [] (-1)
/-! ### Each token has some bytes -/
theorem wh_pos (s set : ByteArray) (k : Nat) (hk : k < s.size) (h : inS set (bt s (k : Int)) = true) : 1 ≤ whN s set k := by
 rcases Nat.lt_or_ge 0 (whN s set k) with h1 | h1
 ·exact h1
 ·have h0 : whN s set k = 0 := by omega
  have := whN_out s set k (by rw [h0]; exact hk)
  rw [h0, Nat.add_zero, h] at this
  cases this
theorem small_rest (c : Int) (h : inS smallS c = true) : inS restS c = true := by
 unfold inS at h ⊢
 rw [List.any_eq_true] at h ⊢
 obtain ⟨x, hx, hc⟩ := h
 refine ⟨x, ?_, hc⟩
 revert x
 have : (smallS.data.toList.all fun x => restS.data.toList.contains x) = true := by decide
 intro x hx _
 have := List.all_eq_true.1 this x hx
 simpa using this
theorem nmG_le (s : ByteArray) : ∀ (f k : Nat) (b : Bool), k ≤ s.size → k ≤ (nmG s f k b).1 ∧ (nmG s f k b).1 ≤ s.size := by
 intro f
 induction f with
 | zero => intro k b hk; exact ⟨Nat.le_refl _, hk⟩
 | succ f ih =>
  intro k b hk
  rw [nmG]
  split
  ·rename_i h
   obtain ⟨hk1, _⟩ := fol_lt s k h
   have hq := whN_le s restS (k + 1) (by omega)
   have := ih (k + 1 + whN s restS (k + 1)) (b || decide (32 < whN s restS (k + 1))) hq
   omega
  ·exact ⟨Nat.le_refl _, hk⟩
theorem nmAt_le (s : ByteArray) (k : Nat) (hk : k < s.size) (h : inS smallS (bt s (k : Int)) = true) : k < (nmAt s k).1 ∧ (nmAt s k).1 ≤ s.size := by
 have h1 := wh_pos s restS k hk (small_rest _ h)
 have h2 := whN_le s restS k (by omega)
 unfold nmAt
 have := nmG_le s s.size (k + whN s restS k) (decide (32 < whN s restS k)) h2
 omega
theorem pre_le (u t : ByteArray) (h : pre u t = true) : t.size ≤ u.size := by
 unfold pre at h
 rw [Bool.and_eq_true, decide_eq_true_eq] at h
 exact h.1
theorem qt_le (u : ByteArray) (n : Int) (j : Nat) (h : qtAt u = some (n, j)) : 3 ≤ j ∧ j ≤ u.size := by
 unfold qtAt at h
 split at h
 ·rename_i hp
  obtain ⟨_, rfl⟩ := Prod.mk.inj (Option.some.inj h)
  have : 4 ≤ u.size := by
   rcases hp with hp | hp
   ·exact pre_le _ _ hp
   ·exact pre_le _ _ hp
  omega
 ·split at h
  ·rename_i hp
   obtain ⟨_, rfl⟩ := Prod.mk.inj (Option.some.inj h)
   have := hp.1
   omega
  ·split at h
   ·rename_i hp
    obtain ⟨_, rfl⟩ := Prod.mk.inj (Option.some.inj h)
    have := hp.1
    omega
   ·cases h
theorem sign_pos : ∀ t ∈ signsL, 1 ≤ t.size := by decide
theorem nx_le (s : ByteArray) (k : Nat) (hk : k < s.size) (h : (nxAt s k).e = 0) : k < (nxAt s k).k ∧ (nxAt s k).k ≤ s.size := by
 have hus : (s.extract k s.size).size = s.size - k := by rw [ByteArray.size_extract]; omega
 unfold nxAt at h ⊢
 by_cases h1 : inS smallS (bt s (k : Int)) = true
 ·rw [if_pos h1]
  exact nmAt_le s k hk h1
 ·rw [if_neg h1] at h ⊢
  by_cases h2 : inS digSet (bt s (k : Int)) = true
  ·rw [if_pos h2]
   have := wh_pos s digSet k hk h2
   have := whN_le s digSet k (by omega)
   show k < k + whN s digSet k ∧ k + whN s digSet k ≤ s.size
   omega
  ·rw [if_neg h2] at h ⊢
   by_cases h3 : bt s (k : Int) = 39
   ·rw [if_pos h3] at h ⊢
    cases hq : qtAt (s.extract k s.size) with
    | none => rw [hq] at h; exact absurd h (show ¬ (7 : Int) = 0 by decide)
    | some p =>
     obtain ⟨n, j⟩ := p
     have := qt_le _ n j hq
     show k < k + j ∧ k + j ≤ s.size
     omega
   ·rw [if_neg h3] at h ⊢
    cases hq : signsL.find? (fun t => pre (s.extract k s.size) t) with
    | none => rw [hq] at h; exact absurd h (show ¬ (5 : Int) = 0 by decide)
    | some t =>
     have h4 := sign_pos t (List.mem_of_find?_eq_some hq)
     have h5 := pre_le _ _ (List.find?_some hq)
     show k < k + t.size ∧ k + t.size ≤ s.size
     omega
theorem fd_le (s : ByteArray) (k : Nat) (hs : s.size ≤ 1000000) (hk : k < s.size) (h : (fdAt s k).e = 0) : k < (fdAt s k).k ∧ (fdAt s k).k ≤ s.size := by
 have hus : (s.extract k s.size).size = s.size - k := by rw [ByteArray.size_extract]; omega
 unfold fdAt at h ⊢
 by_cases hp : pre (s.extract k s.size) ⟨#[47, 42]⟩ = true
 ·rw [if_pos hp] at h ⊢
  have := (noteAt_ok _ (by omega) hp).2 h
  show k < k + (noteAt (s.extract k s.size)).2.1.toNat ∧ k + (noteAt (s.extract k s.size)).2.1.toNat ≤ s.size
  omega
 ·rw [if_neg hp] at h ⊢
  exact nx_le s k hk h
end Go.Proofs.YtidicpngmildkaaDoor.Tx
set_option linter.unusedVariables false
set_option linter.unusedSimpArgs false
namespace Go.Proofs.YtidicpngmildkaaDoor.Tx
open Go.RowKit Go.Proofs.YtidicpngmildkaaDoorW.PrintWords Go.Proofs.YtidicpngmildkaaDoorW.PrintLast Go.Proofs.YtidicpngmildkaaDoorW.PrintMore Go.Proofs.YtidicpngmildkaaDoor.R
open Go.Proofs.YtidicpngmildkaaDoor.Wd (mem lst is_any)
theorem results_tmp_cell {P : Program} {fn : Func} {t p : Tmp} {ty : TypeId} (h : fn.results = #[.tmp t, .cell p ty]) (tmps : Array Value) (w : World) (v : Value) (hv : tmps.getD t undef = v) (g : Nat) (t1 : TypeId) (cs : Array Value) (fr : Nat × Nat) (d : TypeDesc)
  (hp : tmps.getD p undef = .pointer (some ⟨g, 0, none⟩)) (hg : w.heap[g]? = some (.cells cs t1 fr))
  (hu : P.underlying ty = some d) (hd : (match d with | .struct _ | .array _ _ => true | _ => false) = true) (hi : (P.info? ty).map (·.size) = some cs.size) :
  (results fn tmps).run P w = .ok (.tuple #[v, .agg cs]) w := by
 subst hv
 have hp' : tmps[p]?.getD undef = .pointer (some ⟨g, 0, none⟩) := by simpa using hp
 simp [results, h, hp', asAddr, run_loadVar_row w g t1 ty cs fr d hg hu hd hi]
theorem scan_new (s : ByteArray) (w : World) :
  Calls Tryd.prog 14 #[.int .i64 1, .string s] w fun e w' => ∃ c : Nat, e = .returned (.agg #[.pointer (some ⟨c, 0, none⟩), .int .i64 1, .string s, .slice none 0 0, .int .i64 (-1)]) ∧ Cu c s 0 w' ∧ w.heap.size ≤ c ∧ Below w.heap.size w w' := by
 have HX := Lib.hid (alloc_new w (.cells #[.pointer none, .int .i64 0, .string ⟨#[]⟩, .slice none 0 0, .int .i64 0] 47))
 have HB0 := Lib.hid (below_alloc (Below.refl w.heap.size w) (.cells #[.pointer none, .int .i64 0, .string ⟨#[]⟩, .slice none 0 0, .int .i64 0] 47))
 go_enter Tryd.func14, Tryd.ntmps14
 go_wp2_with (first | (go_at_call 23; go_must (refine (new_any s _).mono ?_)))
 rintro e w1 ⟨c, rfl, hc, hg, hb⟩
 have hx1 := (hb.block w.heap.size (blk_lt HX.out)).trans HX.out
 have HX1 := Lib.hid hx1
 have HC := Lib.hid hc
 have HB := Lib.hid (below_weaken HB0.out HB0.out.size hb)
 have HG := Lib.hid (show w.heap.size < c from Nat.lt_of_lt_of_le (blk_lt HX.out) hg)
 clear hc hb hg hx1 HX HB0
 have f0 := blk_frozen HX1.out 0
 have f1 := blk_frozen HX1.out 1
 have f2 := blk_frozen HX1.out 2
 have f3 := blk_frozen HX1.out 3
 have f4 := blk_frozen HX1.out 4
 have c0 := blk_cell HX1.out 0
 have c1 := blk_cell HX1.out 1
 have c2 := blk_cell HX1.out 2
 have c3 := blk_cell HX1.out 3
 have c4 := blk_cell HX1.out 4
 go_wp2
 have hb := blk_set (blk_set (blk_set (blk_set (blk_set HX1.out 0 (.pointer (some ⟨c, 0, none⟩))) 1 (.int .i64 1)) 2 (.string s)) 3 (.slice none 0 0)) 4 (.int .i64 (-1))
 refine bodyPost_ret (results_cell_row rfl _ _ w.heap.size 47 #[.pointer (some ⟨c, 0, none⟩), .int .i64 1, .string s, .slice none 0 0, .int .i64 (-1)] (0, 0) _ rfl hb Tryd.underlying47 rfl (by kernel_rfl)) rfl ?_
 have ha : At1 w.heap.size w1 ((((((w1.setCell ⟨w.heap.size, 0, none⟩ (.pointer (some ⟨c, 0, none⟩))).setCell ⟨w.heap.size, 1, none⟩ (.int .i64 1)).setCell ⟨w.heap.size, 2, none⟩ (.string s)).setCell ⟨w.heap.size, 3, none⟩ (.slice none 0 0)).setCell ⟨w.heap.size, 4, none⟩ (.int .i64 (-1)))) := (((((At1.refl _ w1).set 0 _).set 1 _).set 2 _).set 3 _).set 4 _
 exact ⟨c, rfl, ha.cu (by have := HG.out; omega) HC.out, Nat.le_of_lt HG.out, ha.below HB.out (Nat.le_refl _)⟩
/-- A Diag in a block of its own. -/
def Dg (b : Nat) (W : World) : Prop := W.heap[b]? = some (.cells #[.int .i64 0, .int .i64 0, .int .i64 0, .int .i64 0] 29 (0, 0))
theorem dg_cells {b : Nat} {W : World} (h : Dg b W) : W.cell? ⟨b, 0, none⟩ = some (.int .i64 0) ∧ W.cell? ⟨b, 1, none⟩ = some (.int .i64 0) ∧ W.cell? ⟨b, 2, none⟩ = some (.int .i64 0) ∧ W.cell? ⟨b, 3, none⟩ = some (.int .i64 0) :=
 ⟨(blk_cell h 0).trans rfl, (blk_cell h 1).trans rfl, (blk_cell h 2).trans rfl, (blk_cell h 3).trans rfl⟩
def diagV (s : ByteArray) (code : Int) (k : Nat) : Value := .agg #[.int .i64 code, .int .i64 k, .int .i64 (ln s k), .int .i64 (cl s k)]
/-- What All answers. -/
def AllTo (s : ByteArray) (w0 : World) : LexR → Ending → World → Prop
 | .ok l, e, w' => ∃ v, e = .returned (.tuple #[v, .agg #[.int .i64 0, .int .i64 0, .int .i64 0, .int .i64 0]]) ∧ Kd.R kTok 35 w' w0.heap.size (fun _ => True) v l ∧ Below w0.heap.size w0 w'
 | .bad c k, e, w' => e = .returned (.tuple #[.slice none 0 0, .agg #[.int .i64 c, .int .i64 k, .int .i64 (ln s k), .int .i64 (cl s k)]]) ∧ Below w0.heap.size w0 w'
theorem Lx.withPos {w0 W : World} {g c : Nat} {s : ByteArray} {k : Nat} {v : Value} {l : List Tok} {last : Int} (h : Lx none w0 g c s k v l last W) {b q : Nat} (hp : Px b q (ln s q) (cl s q) W) : Lx (some (b, q)) w0 g c s k v l last W :=
 ⟨h.blk, h.cu, h.row, h.bel, h.hg, h.hc, fun b1 q1 e => by obtain ⟨rfl, rfl⟩ := Prod.mk.inj (Option.some.inj e); exact hp⟩
theorem Lx.noPos {O : Option (Nat × Nat)} {w0 W : World} {g c : Nat} {s : ByteArray} {k : Nat} {v : Value} {l : List Tok} {last : Int} (h : Lx O w0 g c s k v l last W) : Lx none w0 g c s k v l last W :=
 ⟨h.blk, h.cu, h.row, h.bel, h.hg, h.hc, fun b1 q1 e => by cases e⟩
theorem Lx.p5 {b5 q : Nat} {w0 W : World} {g c : Nat} {s : ByteArray} {k : Nat} {v : Value} {l : List Tok} {last : Int} (h : Lx (some (b5, q)) w0 g c s k v l last W) : W.cell? ⟨b5, 0, none⟩ = some (.int .i64 q) ∧ W.cell? ⟨b5, 1, none⟩ = some (.int .i64 (ln s q)) ∧ W.cell? ⟨b5, 2, none⟩ = some (.int .i64 (cl s q)) := (h.pos b5 q rfl).cells
theorem PosIn.p5 {b5 q : Nat} {W : World} {s : ByteArray} (h : PosIn (some (b5, q)) s W) : W.cell? ⟨b5, 0, none⟩ = some (.int .i64 q) ∧ W.cell? ⟨b5, 1, none⟩ = some (.int .i64 (ln s q)) ∧ W.cell? ⟨b5, 2, none⟩ = some (.int .i64 (cl s q)) := (h b5 q rfl).cells
theorem PosIn.drew {O : Option (Nat × Nat)} {s : ByteArray} {W : World} (h : PosIn O s W) : PosIn O s W.drew := h.below (below_drew (Below.refl _ _))
def kOf (c : Nat) (W : World) : Nat := match W.cell? ⟨c, 1, none⟩ with | some (.int _ k) => k.toNat | _ => 0
theorem kOf_eq {c : Nat} {s : ByteArray} {k : Nat} {W : World} (h : Cu c s k W) : kOf c W = k := by
 unfold kOf
 rw [(cu_cells h).2.1]
 exact Int.toNat_natCast k
def AllRel (w1 : World) (g c : Nat) (s : ByteArray) (r : LexR) (wr : World) : Prop :=
 ∃ (k f : Nat) (v : Value) (l : List Tok) (last : Int), k ≤ s.size ∧ s.size - k < f ∧ l.length ≤ k ∧ lexG s f k l last = r ∧ Lx none w1 g c s k v l last wr
theorem pos_at {c : Nat} {s : ByteArray} {k : Nat} {w : World} (h : Cu c s k w) : Calls Tryd.prog 16 #[.pointer (some ⟨c, 0, none⟩)] w fun e w' => e = .returned (.agg #[.int .i64 k, .int .i64 (ln s k), .int .i64 (cl s k)]) ∧ Below w.heap.size w w' := pos_any c s k w h
theorem note_fd {O : Option (Nat × Nat)} {w0 w : World} {g c : Nat} {s : ByteArray} {k : Nat} {v : Value} {l : List Tok} {last : Int} (h : Lx O w0 g c s k v l last w) (hl : l.length ≤ 1000000) (hs : s.size ≤ 1000000) (hk : k ≤ s.size) (hb : pre (s.extract k s.size) ⟨#[47, 42]⟩ = true) (d : Fd) (hd : fdAt s k = d) :
  Calls Tryd.prog 19 #[.pointer (some ⟨g, 0, none⟩)] w fun e w' => e = .returned (.tuple #[.bool true, .int .i64 d.e]) ∧ (d.e = 0 → Laid O w0 g c s d.k l d.kind d.text d.n last k w') ∧ Bel O s w0 w' := by
 subst hd
 have := note_yes h hl hs hk hb
 unfold fdAt
 rw [if_pos hb]
 exact this
theorem next_fd {O : Option (Nat × Nat)} {w0 w : World} {g c : Nat} {s : ByteArray} {k : Nat} {v : Value} {l : List Tok} {last : Int} (ht : Wd.Tab w0) (h : Lx O w0 g c s k v l last w) (hl : l.length ≤ 1000000) (hs : s.size ≤ 1000000) (hk : k ≤ s.size) (hb : pre (s.extract k s.size) ⟨#[47, 42]⟩ = false) (d : Fd) (hd : fdAt s k = d) :
  Calls Tryd.prog 20 #[.pointer (some ⟨g, 0, none⟩), .int .u8 (bt s (k : Int))] w fun e w' => e = .returned (.int .i64 d.e) ∧ (d.e = 0 → Laid O w0 g c s d.k l d.kind d.text d.n last k w') ∧ Bel O s w0 w' := by
 subst hd
 have := next_lex ht h hl hs hk
 unfold fdAt
 rw [if_neg (by rw [hb]; simp)]
 exact this
theorem fin_row {O : Option (Nat × Nat)} {w w1 W W' : World} {b3 g c : Nat} {s : ByteArray} {k : Nat} {v : Value} {l : List Tok} {last : Int} (hb1 : Below w.heap.size w w1) (he : b3 = w.heap.size) (h : Lx O w1 g c s k v l last W) (hd : Dg b3 W) (ha : At1 b3 W W') : Kd.R kTok 35 W' w.heap.size (fun _ => True) v l ∧ Below w.heap.size w W' :=
 ⟨Kd.R_lower (Kd.R_grown2 h.row rfl ha (fun q e => by have := Option.some.inj e; subst this; exact Kd.R_ne h.row hd (by decide))) hb1.size, ha.below (below_weaken hb1 hb1.size h.bel) (by omega)⟩
theorem fin_bel {w w1 W W' : World} {b3 : Nat} (hb1 : Below w.heap.size w w1) (he : b3 = w.heap.size) (h : Below w1.heap.size w1 W) (ha : At1 b3 W W') : Below w.heap.size w W' := ha.below (below_weaken hb1 hb1.size h) (by omega)
set_option maxHeartbeats 16000000 in
set_option maxRecDepth 1000000 in
theorem all_lex (s : ByteArray) (w : World) (ht : Wd.Tab w) (hs : s.size ≤ 65536) : Calls Tryd.prog 8 #[.string s] w (AllTo s w (lexA s)) := by
 have HT := Lib.hid ht
 have hgt : decide ((s.size : Int) > 65536) = false := decide_eq_false (by omega)
 have hgt2 : ((65536 : Int) < (s.size : Int)) = False := eq_false (by omega)
 obtain ⟨r, hr⟩ : ∃ r, lexA s = r := ⟨_, rfl⟩
 rw [hr]
 obtain ⟨w1, hw1⟩ : ∃ w1, w1 = w.alloc (.cells #[.int .i64 0, .int .i64 0, .int .i64 0, .int .i64 0] 29) := ⟨_, rfl⟩
 have hb1 : Below w.heap.size w w1 := by rw [hw1]; exact below_alloc (Below.refl _ _) _
 have HT1 := Lib.hid (Wd.tab_below ht hb1)
 have hd : Dg w.heap.size w1 := by rw [hw1]; exact alloc_new w _
 have HW1 := Lib.hid hw1
 have HB1 := Lib.hid hb1
 have HR := Lib.hid hr
 clear ht hr hw1 hb1
 obtain ⟨b3, hb3⟩ : ∃ b3, b3 = w.heap.size := ⟨_, rfl⟩
 rw [← hb3] at hd
 have HB3 := Lib.hid hb3
 have HDG := Lib.hid hd
 have hlt3 : b3 < w1.heap.size := blk_lt hd
 have HL3 := Lib.hid hlt3
 clear hb3 hd hlt3
 go_enter Tryd.func8, Tryd.ntmps8
 go_wp2_with (first | (go_at_call 14; rw [← HW1.out, ← HB3.out]; go_must (refine (scan_new s w1).mono ?_)))
 rintro e w2 ⟨c, rfl, hc, hcl, hb⟩
 have hal : Below w2.heap.size w2 (w2.alloc (.cells #[.pointer (some ⟨c, 0, none⟩), .int .i64 1, .string s, .slice none 0 0, .int .i64 (-1)] 50)) := below_alloc (Below.refl _ _) _
 have hL : Lx none w1 w2.heap.size c s 0 (.slice none 0 0) [] (-1) (w2.alloc (.cells #[.pointer (some ⟨c, 0, none⟩), .int .i64 1, .string s, .slice none 0 0, .int .i64 (-1)] 50)) :=
  ⟨alloc_new w2 _, hc.below hal, Kd.R_nil _ _ _ _ _, below_weaken hb hb.size hal, hb.size, hcl, fun b1 q1 e => by cases e⟩
 have H := Lib.hid hL
 clear hc hcl hb hal hL
 go_wp2
 generalize w2.heap.size = g at H ⊢
 generalize w2.alloc (.cells #[.pointer (some ⟨c, 0, none⟩), .int .i64 1, .string s, .slice none 0 0, .int .i64 (-1)] 50) = w3 at H ⊢
 go_loopw [] (fun wr => AllRel w1 g c s r wr) (fun wr => s.size + 1 - kOf c wr)
 case atStart => exact ⟨0, s.size + 1, _, [], -1, Nat.zero_le _, by omega, Nat.le_refl _, HR.out, H.out⟩
 case round =>
  obtain ⟨k, f, v, l, last, hk, hf, hl, hx, hL⟩ := hrel
  clear H HR
  have HKK := Lib.hid (kOf_eq hL.cu)
  have H := Lib.hid hL
  have hs1 : s.size ≤ 1000000 := by omega
  obtain ⟨f, rfl⟩ : ∃ f', f = f' + 1 := ⟨f - 1, by omega⟩
  obtain ⟨q, hq⟩ : ∃ q, q = k + whN s blankS k := ⟨_, rfl⟩
  have hqs : q ≤ s.size := by have := whN_le s blankS k hk; omega
  have hkq : k ≤ q := by omega
  rw [lexG, ← hq] at hx
  have HQ := Lib.hid hq
  have HX := Lib.hid hx
  clear hL hq hx
  obtain ⟨c0, c1, c2, c3, c4⟩ := H.out.cells
  go_wp2_with (first
   | (go_at_call 15; go_must (refine (while_any c s k blankS _ H.out.cu hs1 hk).mono ?_); rintro e w4 ⟨rfl, hc, ha⟩; rw [← HQ.out] at hc; have H4 := Lib.hid (H.out.move hc ha); clear hc ha c0 c1 c2 c3 c4; obtain ⟨c0, c1, c2, c3, c4⟩ := H4.out.cells)
   | (go_at_call 16; go_must (refine (pos_at H4.out.cu).mono ?_)))
  rintro e w5 ⟨rfl, hb⟩
  have H5 := Lib.hid (H4.out.below hb)
  clear hb H4 H c0 c1 c2 c3 c4
  have hal : Below w5.heap.size w5 (w5.alloc (.cells #[.int .i64 q, .int .i64 (ln s q), .int .i64 (cl s q)] 27)) := below_alloc (Below.refl _ _) _
  have H6 := Lib.hid ((H5.out.below hal).withPos (b := w5.heap.size) (q := q) (alloc_new w5 _))
  clear hal H5
  obtain ⟨c0, c1, c2, c3, c4⟩ := H6.out.cells
  have hpk := pk_nat s q 0
  rw [Nat.add_zero] at hpk
  by_cases hlt : q < s.size
  ·rw [decide_eq_true hlt] at hpk
   have HPK := Lib.hid (show Pk s q 0 = _ from hpk)
   clear hpk
   obtain ⟨d, hd⟩ : ∃ d, fdAt s q = d := ⟨_, rfl⟩
   have hdk := fd_le s q hs1 hlt
   have hx := HX.out
   rw [if_pos hlt, hd] at hx
   rw [hd] at hdk
   have HX1 := Lib.hid hx
   have HDK := Lib.hid hdk
   have HD := Lib.hid hd
   have hll : l.length ≤ 1000000 := by omega
   clear hx hd hdk HX
   by_cases h0 : d.e = 0
   ·have HE := Lib.hid h0
    have HX2 : Hid (lexG s f d.k (l ++ [tkAt d last s q]) (ln s d.k) = r) := Lib.hid (by rw [← HX1.out, if_pos h0])
    clear h0 HX1
    cases hp : pre (s.extract q s.size) ⟨#[47, 42]⟩ with
    | true =>
     have HP := Lib.hid hp
     clear hp
     go_wp2_with (first
      | (go_at_call 17; go_must (refine (peek_any c s q 0 _ H6.out.cu hs1 hqs).mono ?_); rintro e w7 ⟨rfl, n7, rfl⟩; rw [HPK.out]; have H7 := Lib.hid (H6.out.drewN n7))
      | (go_at_call 19; go_must (refine (note_fd H7.out hll hs1 hqs HP.out d HD.out).mono ?_); rintro e w8 ⟨rfl, hg, hbl⟩; have HG := Lib.hid hg; have HBL := Lib.hid hbl; clear hg hbl; rw [HE.out]))
     go_round
     ·obtain ⟨v1, hL1⟩ := HG.out HE.out
      refine ⟨d.k, f, v1, l ++ [tkAt d last s q], ln s d.k, (HDK.out HE.out).2, ?_, ?_, HX2.out, hL1.noPos⟩
      ·have := HDK.out HE.out; omega
      ·have := HDK.out HE.out
       rw [List.length_append]
       show l.length + 1 ≤ d.k
       omega
     ·obtain ⟨v1, hL1⟩ := HG.out HE.out
      have := HDK.out HE.out
      rw [HKK.out, kOf_eq hL1.cu]
      omega
    | false =>
     have HP := Lib.hid hp
     clear hp
     go_wp2_with (first
      | (go_at_call 17; go_must (refine (peek_any c s q 0 _ H6.out.cu hs1 hqs).mono ?_); rintro e w7 ⟨rfl, n7, rfl⟩; rw [HPK.out]; have H7 := Lib.hid (H6.out.drewN n7))
      | (go_at_call 19; go_must (refine (note_no H7.out hs1 hqs HP.out).mono ?_); rintro e w8 ⟨rfl, hL⟩; have H8 := Lib.hid hL; clear hL)
      | (go_at_call 20; go_must (refine (next_fd HT1.out H8.out hll hs1 hqs HP.out d HD.out).mono ?_); rintro e w9 ⟨rfl, hg, hbl⟩; have HG := Lib.hid hg; have HBL := Lib.hid hbl; clear hg hbl; rw [HE.out]))
     go_round
     ·obtain ⟨v1, hL1⟩ := HG.out HE.out
      refine ⟨d.k, f, v1, l ++ [tkAt d last s q], ln s d.k, (HDK.out HE.out).2, ?_, ?_, HX2.out, hL1.noPos⟩
      ·have := HDK.out HE.out; omega
      ·have := HDK.out HE.out
       rw [List.length_append]
       show l.length + 1 ≤ d.k
       omega
     ·obtain ⟨v1, hL1⟩ := HG.out HE.out
      have := HDK.out HE.out
      rw [HKK.out, kOf_eq hL1.cu]
      omega
   ·have h1 : (d.e == 0) = false := by simpa using h0
    have h2 : (d.e != 0) = true := by simpa using h0
    have HX2 : Hid (r = .bad d.e q) := Lib.hid (by rw [← HX1.out, if_neg h0])
    clear h0 HX1
    cases hp : pre (s.extract q s.size) ⟨#[47, 42]⟩ with
    | true =>
     have HP := Lib.hid hp
     clear hp
     go_wp2_with (first
      | (go_at_call 17; go_must (refine (peek_any c s q 0 _ H6.out.cu hs1 hqs).mono ?_); rintro e w7 ⟨rfl, n7, rfl⟩; rw [HPK.out]; have H7 := Lib.hid (H6.out.drewN n7))
      | (go_at_call 19; go_must (refine (note_fd H7.out hll hs1 hqs HP.out d HD.out).mono ?_); rintro e w8 ⟨rfl, hg, hbl⟩; have HG := Lib.hid hg; have HBL := Lib.hid hbl; clear hg hbl))
     generalize w5.heap.size = b5 at HBL ⊢
     have H0 := Lib.hid (show PosIn (some (b5, q)) s w8.drew from HBL.out.2.drew)
     have HB0 := Lib.hid (below_drew HBL.out.1)
     have HD0 := Lib.hid (show Dg b3 w8.drew from (HB0.out.block b3 HL3.out).trans HDG.out)
     clear H6 H7 c0 c1 c2 c3 c4
     refine start_ (n := 5) (S := fun w' => w'.cell? ⟨b5, 0, none⟩ = some (.int .i64 q) ∧ w'.cell? ⟨b5, 1, none⟩ = some (.int .i64 (ln s q)) ∧ w'.cell? ⟨b5, 2, none⟩ = some (.int .i64 (cl s q))) (ds := [4]) #[ZZ,ZZ,ZZ,ZZ,ZZ] (by kernel_rfl) rfl rfl ⟨H0.out.p5.1, H0.out.p5.2.1, H0.out.p5.2.2⟩ (fun hHeld => ?_)
     generalize hwd : World.drew _ = wd at *
     refine pure_ (i := 0) (N := some 67) (v := ?_) (a' := ?_) #[YY,ZZ,ZZ,ZZ,ZZ] rfl rfl (by kernel_rfl) (fun _ _ _ h => h) (Or.inl ⟨by rfl, ?_⟩) ?_ ?_
     rotate_left
     ·intro w'
      go_simp
      with_reducible rfl
     rotate_left
     ·simp only [Act.put, List.setIfInBounds_toArray, List.set_cons_zero, List.set_cons_succ, i64_w, i32_w]
      rfl
     refine pure_ (i := 3) (N := some 2) (v := ?_) (a' := ?_) #[YY,ZZ,ZZ,YY,ZZ] rfl rfl (by kernel_rfl) (fun _ _ _ h => h) (Or.inl ⟨by rfl, ?_⟩) ?_ ?_
     rotate_left
     ·intro w'
      go_simp
      with_reducible rfl
     rotate_left
     ·simp only [Act.put, List.setIfInBounds_toArray, List.set_cons_zero, List.set_cons_succ, i64_w, i32_w]
      rfl
     refine take_ (i := 1) (N := some 68) (v := ?_) (a' := ?_) #[YY,YY,ZZ,YY,ZZ] rfl rfl (by kernel_rfl) (fun _ _ _ h => h) (Or.inl ⟨by rfl, ?_⟩) hHeld ?_ ?_
     rotate_left
     ·rintro w' ⟨s0, s1, s2⟩
      go_simp
      with_reducible rfl
     rotate_left
     ·simp only [Act.put, List.setIfInBounds_toArray, List.set_cons_zero, List.set_cons_succ, i64_w, i32_w]
      rfl
     refine pure_ (i := 2) (N := some 69) (v := ?_) (a' := ?_) #[YY,YY,YY,YY,ZZ] rfl rfl (by kernel_rfl) (fun _ _ _ h => h) (Or.inl ⟨by rfl, ?_⟩) ?_ ?_
     rotate_left
     ·intro w'
      go_simp
      with_reducible rfl
     rotate_left
     ·simp only [Act.put, List.setIfInBounds_toArray, List.set_cons_zero, List.set_cons_succ, i64_w, i32_w]
      rfl
     refine last_ (i := 4) (N := none) #[YY,YY,YY,YY,YY] rfl rfl (by kernel_rfl) (by decide) (fun K hK => ?_)
     obtain ⟨t0, t1, t2, t3⟩ := dg_cells HD0.out
     have f0 := blk_frozen HD0.out 0
     have f1 := blk_frozen HD0.out 1
     have f2 := blk_frozen HD0.out 2
     have f3 := blk_frozen HD0.out 3
     refine skip_ (w1 := ?_) (by rfl) rfl ?_ ?_
     rotate_left
     ·go_simp
      rfl
     clear t0 t1 t2 t3 f0 f1 f2 f3
     refine hK.out _ _ ?_
     clear hK K
     refine done_ (by kernel_rfl) ?_
     clear hwd
     go_wp2
     have hb := blk_set (blk_set (blk_set (blk_set HD0.out 0 (.int .i64 d.e)) 1 (.int .i64 q)) 2 (.int .i64 (ln s q))) 3 (.int .i64 (cl s q))
     refine bodyPost_ret (results_tmp_cell rfl _ _ (.slice none 0 0) rfl b3 29 #[.int .i64 d.e, .int .i64 q, .int .i64 (ln s q), .int .i64 (cl s q)] (0, 0) _ rfl hb Tryd.underlying29 rfl (by kernel_rfl)) rfl ?_
     rw [HX2.out]
     exact ⟨rfl, fin_bel HB1.out HB3.out HB0.out (((((At1.refl b3 wd).set 0 (.int .i64 d.e)).set 1 (.int .i64 q)).set 2 (.int .i64 (ln s q))).set 3 (.int .i64 (cl s q)))⟩
    | false =>
     have HP := Lib.hid hp
     clear hp
     go_wp2_with (first
      | (go_at_call 17; go_must (refine (peek_any c s q 0 _ H6.out.cu hs1 hqs).mono ?_); rintro e w7 ⟨rfl, n7, rfl⟩; rw [HPK.out]; have H7 := Lib.hid (H6.out.drewN n7))
      | (go_at_call 19; go_must (refine (note_no H7.out hs1 hqs HP.out).mono ?_); rintro e w8 ⟨rfl, hL⟩; have H8 := Lib.hid hL; clear hL)
      | (go_at_call 20; go_must (refine (next_fd HT1.out H8.out hll hs1 hqs HP.out d HD.out).mono ?_); rintro e w9 ⟨rfl, hg, hbl⟩; have HG := Lib.hid hg; have HBL := Lib.hid hbl; clear hg hbl))
     generalize w5.heap.size = b5 at HBL ⊢
     have H0 := Lib.hid (show PosIn (some (b5, q)) s w9.drew from HBL.out.2.drew)
     have HB0 := Lib.hid (below_drew HBL.out.1)
     have HD0 := Lib.hid (show Dg b3 w9.drew from (HB0.out.block b3 HL3.out).trans HDG.out)
     clear H6 H7 c0 c1 c2 c3 c4
     refine start_ (n := 5) (S := fun w' => w'.cell? ⟨b5, 0, none⟩ = some (.int .i64 q) ∧ w'.cell? ⟨b5, 1, none⟩ = some (.int .i64 (ln s q)) ∧ w'.cell? ⟨b5, 2, none⟩ = some (.int .i64 (cl s q))) (ds := [4]) #[ZZ,ZZ,ZZ,ZZ,ZZ] (by kernel_rfl) rfl rfl ⟨H0.out.p5.1, H0.out.p5.2.1, H0.out.p5.2.2⟩ (fun hHeld => ?_)
     generalize hwd : World.drew _ = wd at *
     refine pure_ (i := 0) (N := some 67) (v := ?_) (a' := ?_) #[YY,ZZ,ZZ,ZZ,ZZ] rfl rfl (by kernel_rfl) (fun _ _ _ h => h) (Or.inl ⟨by rfl, ?_⟩) ?_ ?_
     rotate_left
     ·intro w'
      go_simp
      with_reducible rfl
     rotate_left
     ·simp only [Act.put, List.setIfInBounds_toArray, List.set_cons_zero, List.set_cons_succ, i64_w, i32_w]
      rfl
     refine pure_ (i := 3) (N := some 2) (v := ?_) (a' := ?_) #[YY,ZZ,ZZ,YY,ZZ] rfl rfl (by kernel_rfl) (fun _ _ _ h => h) (Or.inl ⟨by rfl, ?_⟩) ?_ ?_
     rotate_left
     ·intro w'
      go_simp
      with_reducible rfl
     rotate_left
     ·simp only [Act.put, List.setIfInBounds_toArray, List.set_cons_zero, List.set_cons_succ, i64_w, i32_w]
      rfl
     refine take_ (i := 1) (N := some 68) (v := ?_) (a' := ?_) #[YY,YY,ZZ,YY,ZZ] rfl rfl (by kernel_rfl) (fun _ _ _ h => h) (Or.inl ⟨by rfl, ?_⟩) hHeld ?_ ?_
     rotate_left
     ·rintro w' ⟨s0, s1, s2⟩
      go_simp
      with_reducible rfl
     rotate_left
     ·simp only [Act.put, List.setIfInBounds_toArray, List.set_cons_zero, List.set_cons_succ, i64_w, i32_w]
      rfl
     refine pure_ (i := 2) (N := some 69) (v := ?_) (a' := ?_) #[YY,YY,YY,YY,ZZ] rfl rfl (by kernel_rfl) (fun _ _ _ h => h) (Or.inl ⟨by rfl, ?_⟩) ?_ ?_
     rotate_left
     ·intro w'
      go_simp
      with_reducible rfl
     rotate_left
     ·simp only [Act.put, List.setIfInBounds_toArray, List.set_cons_zero, List.set_cons_succ, i64_w, i32_w]
      rfl
     refine last_ (i := 4) (N := none) #[YY,YY,YY,YY,YY] rfl rfl (by kernel_rfl) (by decide) (fun K hK => ?_)
     obtain ⟨t0, t1, t2, t3⟩ := dg_cells HD0.out
     have f0 := blk_frozen HD0.out 0
     have f1 := blk_frozen HD0.out 1
     have f2 := blk_frozen HD0.out 2
     have f3 := blk_frozen HD0.out 3
     refine skip_ (w1 := ?_) (by rfl) rfl ?_ ?_
     rotate_left
     ·go_simp
      rfl
     clear t0 t1 t2 t3 f0 f1 f2 f3
     refine hK.out _ _ ?_
     clear hK K
     refine done_ (by kernel_rfl) ?_
     clear hwd
     go_wp2
     have hb := blk_set (blk_set (blk_set (blk_set HD0.out 0 (.int .i64 d.e)) 1 (.int .i64 q)) 2 (.int .i64 (ln s q))) 3 (.int .i64 (cl s q))
     refine bodyPost_ret (results_tmp_cell rfl _ _ (.slice none 0 0) rfl b3 29 #[.int .i64 d.e, .int .i64 q, .int .i64 (ln s q), .int .i64 (cl s q)] (0, 0) _ rfl hb Tryd.underlying29 rfl (by kernel_rfl)) rfl ?_
     rw [HX2.out]
     exact ⟨rfl, fin_bel HB1.out HB3.out HB0.out (((((At1.refl b3 wd).set 0 (.int .i64 d.e)).set 1 (.int .i64 q)).set 2 (.int .i64 (ln s q))).set 3 (.int .i64 (cl s q)))⟩
  ·rw [decide_eq_false hlt] at hpk
   have HPK := Lib.hid (show Pk s q 0 = _ from hpk)
   have HX2 : Hid (r = .ok (l ++ [tkAt ⟨0, 0, ⟨#[]⟩, 0, 0⟩ last s q])) := Lib.hid (by rw [← HX.out, if_neg hlt])
   have hll : l.length ≤ 1000000 := by omega
   clear hpk HX
   go_wp2_with (first | (go_at_call 17; go_must (refine (peek_any c s q 0 _ H6.out.cu hs1 hqs).mono ?_); rintro e w7 ⟨rfl, n7, rfl⟩; rw [HPK.out]))
   have H0 := Lib.hid (H6.out.drewN n7).drew
   generalize w5.heap.size = b5 at H0 ⊢
   clear H6 c0 c1 c2 c3 c4
   refine start_ (n := 6) (S := fun w' => w'.cell? ⟨b5, 0, none⟩ = some (.int .i64 q) ∧ w'.cell? ⟨b5, 1, none⟩ = some (.int .i64 (ln s q)) ∧ w'.cell? ⟨b5, 2, none⟩ = some (.int .i64 (cl s q))) (ds := [5]) #[ZZ,ZZ,ZZ,ZZ,ZZ,ZZ] (by kernel_rfl) rfl rfl ⟨H0.out.p5.1, H0.out.p5.2.1, H0.out.p5.2.2⟩ (fun hHeld => ?_)
   generalize hwd : World.drew _ = wd at *
   refine pure_ (i := 0) (N := some 41) (v := ?_) (a' := ?_) #[YY,ZZ,ZZ,ZZ,ZZ,ZZ] rfl rfl (by kernel_rfl) (fun _ _ _ h => h) (Or.inl ⟨by rfl, ?_⟩) ?_ ?_
   rotate_left
   ·intro w'
    go_simp
    with_reducible rfl
   rotate_left
   ·simp only [Act.put, List.setIfInBounds_toArray, List.set_cons_zero, List.set_cons_succ, i64_w, i32_w]
    rfl
   refine pure_ (i := 1) (N := some 42) (v := ?_) (a' := ?_) #[YY,YY,ZZ,ZZ,ZZ,ZZ] rfl rfl (by kernel_rfl) (fun _ _ _ h => h) (Or.inl ⟨by rfl, ?_⟩) ?_ ?_
   rotate_left
   ·intro w'
    go_simp
    with_reducible rfl
   rotate_left
   ·simp only [Act.put, List.setIfInBounds_toArray, List.set_cons_zero, List.set_cons_succ, i64_w, i32_w]
    rfl
   refine pure_ (i := 2) (N := some 43) (v := ?_) (a' := ?_) #[YY,YY,YY,ZZ,ZZ,ZZ] rfl rfl (by kernel_rfl) (fun _ _ _ h => h) (Or.inl ⟨by rfl, ?_⟩) ?_ ?_
   rotate_left
   ·intro w'
    go_simp
    with_reducible rfl
   rotate_left
   ·simp only [Act.put, List.setIfInBounds_toArray, List.set_cons_zero, List.set_cons_succ, i64_w, i32_w]
    rfl
   refine pure_ (i := 3) (N := some 44) (v := ?_) (a' := ?_) #[YY,YY,YY,YY,ZZ,ZZ] rfl rfl (by kernel_rfl) (fun _ _ _ h => h) (Or.inl ⟨by rfl, ?_⟩) ?_ ?_
   rotate_left
   ·intro w'
    go_simp
    with_reducible rfl
   rotate_left
   ·simp only [Act.put, List.setIfInBounds_toArray, List.set_cons_zero, List.set_cons_succ, i64_w, i32_w]
    rfl
   refine take_ (i := 4) (N := some 45) (v := ?_) (a' := ?_) #[YY,YY,YY,YY,YY,ZZ] rfl rfl (by kernel_rfl) (fun _ _ _ h => h) (Or.inl ⟨by rfl, ?_⟩) hHeld ?_ ?_
   rotate_left
   ·rintro w' ⟨s0, s1, s2⟩
    go_simp
    with_reducible rfl
   rotate_left
   ·simp only [Act.put, List.setIfInBounds_toArray, List.set_cons_zero, List.set_cons_succ, i64_w, i32_w]
    rfl
   refine last_ (i := 5) (N := some 46) #[YY,YY,YY,YY,YY,YY] rfl rfl (by kernel_rfl) (by decide) (fun K hK => ?_)
   refine goes_ Tryd.func18 (by kernel_rfl) rfl #[.pointer (some ⟨g, 0, none⟩), .agg #[.int .i64 0, .string ⟨#[]⟩, .int .i64 0, .bool false, .int .i64 0, .int .i64 0, .int .i64 0], .agg #[.int .i64 q, .int .i64 (ln s q), .int .i64 (cl s q)]] (by rfl) rfl rfl (by simp only [List.map_toArray, List.map_cons, List.map_nil]; rfl) ?_
   with_reducible refine (add_at H0.out hll 0 ⟨#[]⟩ 0 (k0 := q)).mono ?_
   rintro e w9 ⟨rfl, hL⟩
   refine ⟨_, rfl, ?_⟩
   have HL := Lib.hid hL
   clear hL
   refine hK.out _ _ ?_
   clear hK K
   refine norm_ (a' := ?_) ?_ ?_
   rotate_left
   ·show Act.put _ (some 46) _ = _
    simp only [Act.put, List.setIfInBounds_toArray, List.set_cons_zero, List.set_cons_succ, i64_w, i32_w]
    rfl
   refine done_ (by kernel_rfl) ?_
   clear hwd
   obtain ⟨v1, hL1⟩ := HL.out
   have H9 := Lib.hid hL1
   have HD9 := Lib.hid (show Dg b3 w9 from (H9.out.bel.block b3 HL3.out).trans HDG.out)
   clear hL1
   obtain ⟨c0, c1, c2, c3, c4⟩ := H9.out.cells
   obtain ⟨t0, t1, t2, t3⟩ := dg_cells HD9.out
   have f0 := blk_frozen HD9.out 0
   have f1 := blk_frozen HD9.out 1
   have f2 := blk_frozen HD9.out 2
   have f3 := blk_frozen HD9.out 3
   go_wp2
   have hb := blk_set (blk_set (blk_set (blk_set HD9.out 0 (.int .i64 0)) 1 (.int .i64 0)) 2 (.int .i64 0)) 3 (.int .i64 0)
   refine bodyPost_ret (results_tmp_cell rfl _ _ v1 rfl b3 29 #[.int .i64 0, .int .i64 0, .int .i64 0, .int .i64 0] (0, 0) _ rfl hb Tryd.underlying29 rfl (by kernel_rfl)) rfl ?_
   rw [HX2.out]
   have hfin := fin_row HB1.out HB3.out H9.out HD9.out (((((At1.refl b3 w9).set 0 (.int .i64 0)).set 1 (.int .i64 0)).set 2 (.int .i64 0)).set 3 (.int .i64 0))
   exact ⟨v1, rfl, hfin.1, hfin.2⟩
end Go.Proofs.YtidicpngmildkaaDoor.Tx

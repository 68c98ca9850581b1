/- do: an act at both. -/
import Derived.Test.YtchdcklalgadhaaSkj
set_option linter.unusedVariables false
set_option linter.unusedSimpArgs false
namespace Go.Proofs.Ytchdcklalgadhaa.Sk
open Go.RowKit Go.Proofs.YtchdcklalgadhaaW.PrintWords Go.Proofs.YtchdcklalgadhaaW.PrintLast Go.Proofs.YtchdcklalgadhaaW.PrintMore Go.Proofs.Ytchdcklalgadhaa.R
attribute [local go_sem] max2_int min2_int max_two min_two

def DoTo (w0 : World) (g gx : Nat) (M : Int) (bs : List UInt8) (d : Int) (n : Nat) (e : Ending) (w' : World) : Prop :=
  e = .returned (.bool true) ∧ ∃ bs' d' f', J0 w0 g gx M bs' d' f' bs' d' f' w' ∧ 0 ≤ d' ∧ d' ≤ d + 1 ∧ (bs'.length : Int) ≤ max M 0 ∧ bs'.length ≤ bs.length + n + 2 * d.toNat + 1
set_option maxHeartbeats 8000000 in
set_option maxRecDepth 1000000 in
theorem do_any (w0 : World) (g gx : Nat) (M : Int) (bs : List UInt8) (d : Int) (f : Bool) (kind : Int) (A : Option Addr) (c : Nat) (l : List ByteArray) (w : World) (h : J0 w0 g gx M bs d f bs d f w)
    (hr : Kd.string.C w0 A l.length l) (hm : M ≤ 9223372036854775807) (hd0 : 0 ≤ d) (hd : d ≤ 100) (hll : l.length ≤ 1000) (hb : (bs.length : Int) ≤ max M 0) (hb2 : bs.length ≤ 1000000) (hl : (cat l).length ≤ 20000) :
    Calls Try.prog 20 #[.pointer (some ⟨g, 0, none⟩), .pointer (some ⟨gx, 0, none⟩), .agg #[.int .i64 kind, .slice A l.length c]] w (DoTo w0 g gx M bs d (cat l).length) := by
  have HR := Lib.hid hr
  have HB := Lib.hid (h.boxed (.cells #[.int .i64 kind, .slice A l.length c] 33))
  have hc0 : (w.alloc (.cells #[.int .i64 kind, .slice A l.length c] 33)).cell? ⟨w.heap.size, 0, none⟩ = some (.int .i64 kind) := (blk_cell HB.out.box 0).trans rfl
  have hc1 : (w.alloc (.cells #[.int .i64 kind, .slice A l.length c] 33)).cell? ⟨w.heap.size, 1, none⟩ = some (.slice A l.length c) := (blk_cell HB.out.box 1).trans rfl
  clear hr h
  go_enter Try.func20, Try.ntmps20
  go_wp2_with (first | (go_at_call 25; go_must (refine (pick7 _ _).mono ?_)))
  rintro e w1 ⟨r, rfl, rfl⟩
  generalize hbx : w.heap.size = bx at *
  generalize hw1 : w.alloc (.cells #[.int .i64 kind, .slice A l.length c] 33) = w1 at *
  clear hw1
  have HJ := HB
  clear HB
  by_cases h2 : r = 2
  · subst h2
    clear hc0 hc1
    go_wp2_with (first | (go_at_call 10; go_must (refine (jin HJ.out hd0 (by omega)).mono ?_)))
    rintro e w2 ⟨rfl, hj⟩
    obtain ⟨c0, c1, c2, c3⟩ := hj.j0.xcells
    have f1 := hj.j0.xfrozen 1
    have HJ2 := Lib.hid (hj.setDeep (d + 1))
    clear hj HJ
    go_wp2
    go_ret
    exact ⟨rfl, bs, d + 1, f, HJ2.out.j0, by omega, Int.le_refl _, hb, by omega⟩
  · by_cases h3 : r = 3
    · subst h3
      clear hc0 hc1
      go_wp2_with (first | (go_at_call 11; go_must (refine (jout HJ.out hd0 (by omega)).mono ?_)))
      rintro e w2 ⟨rfl, hj⟩
      obtain ⟨c0, c1, c2, c3⟩ := hj.j0.xcells
      have f1 := hj.j0.xfrozen 1
      by_cases h1d : d = 0
      · subst h1d
        have HJ2 : Hid (J w0 g gx bx (.cells #[.int .i64 kind, .slice A l.length c] 33) M bs 0 f bs 0 f _) := Lib.hid (hj.setDeep 0)
        clear hj HJ
        go_wp2
        all_goals (go_ret; exact ⟨rfl, bs, 0, f, HJ2.out.j0, by omega, by omega, hb, by omega⟩)
      · have hmx : max 0 (d - 1) = d - 1 := by omega
        rw [hmx] at hj
        have HJ2 := Lib.hid (hj.setDeep (d - 1))
        clear hj HJ
        go_wp2
        all_goals (go_ret; first | exact ⟨rfl, bs, d - 1, f, HJ2.out.j0, by omega, by omega, hb, by omega⟩ | (have h0 : d - 1 = 0 := (by omega); rw [h0] at HJ2; exact ⟨rfl, bs, 0, f, HJ2.out.j0, by omega, by omega, hb, by omega⟩))
    · by_cases h4 : r = 4
      · subst h4
        have hlm : (cat (ind d :: l)).length = 2 * d.toNat + (cat l).length := by simp only [cat, List.length_append, data_length, ind_size]
        have hlx : cat (indL d.toNat ++ l) = cat (ind d :: l) := by
          rw [cat_append, cat_indL]; simp only [cat]; rw [show ((d.toNat : Nat) : Int) = d from by omega]
        have hrl := res_len M bs f (ind d :: l) hb
        go_wp2
        have HJ0 := Lib.hid HJ.out.drew
        refine start_ (n := 12) (S := fun w' => w'.cell? ⟨bx, 1, none⟩ = some (.slice A l.length c)) (ds := []) #[false, false, false, false, false, false, false, false, false, false, false, false] (by kernel_rfl) rfl rfl ((J.cell1 HJ0.out)) (fun hHeld => ?_)
        generalize hwd : w1.drew = wd at *
        refine pure_ (i := 0) (N := some 36) (v := ?_) (a' := ?_) #[true, false, false, false, false, false, false, false, false, false, false, false] rfl rfl (by kernel_rfl) (fun _ _ _ h => h) (Or.inl ⟨by rfl, ?_⟩) ?_ ?_
        rotate_left
        · intro w'
          go_simp
          with_reducible rfl
        rotate_left
        · simp only [Act.put, List.setIfInBounds_toArray, List.set_cons_zero, List.set_cons_succ, i64_w, i32_w]
          rfl
        refine pure_ (i := 1) (N := some 37) (v := ?_) (a' := ?_) #[true, true, false, false, false, false, false, false, false, false, false, false] rfl rfl (by kernel_rfl) (fun _ _ _ h => h) (Or.inl ⟨by rfl, ?_⟩) ?_ ?_
        rotate_left
        · intro w'
          go_simp
          with_reducible rfl
        rotate_left
        · simp only [Act.put, List.setIfInBounds_toArray, List.set_cons_zero, List.set_cons_succ, i64_w, i32_w]
          rfl
        refine pure_ (i := 4) (N := some 40) (v := ?_) (a' := ?_) #[true, true, false, false, true, false, false, false, false, false, false, false] rfl rfl (by kernel_rfl) (fun _ _ _ h => h) (Or.inl ⟨by rfl, ?_⟩) ?_ ?_
        rotate_left
        · intro w'
          go_simp
          with_reducible rfl
        rotate_left
        · simp only [Act.put, List.setIfInBounds_toArray, List.set_cons_zero, List.set_cons_succ, i64_w, i32_w]
          rfl
        refine pure_ (i := 5) (N := some 41) (v := ?_) (a' := ?_) #[true, true, false, false, true, true, false, false, false, false, false, false] rfl rfl (by kernel_rfl) (fun _ _ _ h => h) (Or.inl ⟨by rfl, ?_⟩) ?_ ?_
        rotate_left
        · intro w'
          go_simp
          with_reducible rfl
        rotate_left
        · simp only [Act.put, List.setIfInBounds_toArray, List.set_cons_zero, List.set_cons_succ, i64_w, i32_w]
          rfl
        refine pure_ (i := 6) (N := some 42) (v := ?_) (a' := ?_) #[true, true, false, false, true, true, true, false, false, false, false, false] rfl rfl (by kernel_rfl) (fun _ _ _ h => h) (Or.inl ⟨by rfl, ?_⟩) ?_ ?_
        rotate_left
        · intro w'
          go_simp
          with_reducible rfl
        rotate_left
        · simp only [Act.put, List.setIfInBounds_toArray, List.set_cons_zero, List.set_cons_succ, i64_w, i32_w]
          rfl
        refine take_ (i := 2) (N := some 38) (v := ?_) (a' := ?_) #[true, true, true, false, true, true, true, false, false, false, false, false] rfl rfl (by kernel_rfl) (fun _ _ _ h => h) (Or.inl ⟨by rfl, ?_⟩) hHeld ?_ ?_
        rotate_left
        · intro w' s0
          go_simp
          with_reducible rfl
        rotate_left
        · simp only [Act.put, List.setIfInBounds_toArray, List.set_cons_zero, List.set_cons_succ, i64_w, i32_w]
          rfl
        refine take_ (i := 7) (N := some 43) (v := ?_) (a' := ?_) #[true, true, true, false, true, true, true, true, false, false, false, false] rfl rfl (by kernel_rfl) (fun _ _ _ h => h) (Or.inl ⟨by rfl, ?_⟩) hHeld ?_ ?_
        rotate_left
        · intro w' s0
          go_simp
          with_reducible rfl
        rotate_left
        · simp only [Act.put, List.setIfInBounds_toArray, List.set_cons_zero, List.set_cons_succ, i64_w, i32_w]
          rfl
        refine one_ (i := 3) (N := some 39) #[true, true, true, true, true, true, true, true, false, false, false, false] rfl rfl (by kernel_rfl) (by decide) (fun K hK => ?_)
        refine goes_ Try.func18 (by kernel_rfl) rfl #[.pointer (some ⟨g, 0, none⟩), .slice A l.length c] (by rfl) rfl rfl (by simp only [List.map_toArray, List.map_cons, List.map_nil]; rfl) ?_
        with_reducible refine (jbegin (c := c) HJ0.out HR.out hm hd0 (by omega) hll hb (by omega)).mono ?_
        rintro e w3 ⟨rfl, hj, hk⟩
        refine ⟨_, rfl, ?_⟩
        have HJ3 := Lib.hid hj
        have HK3 := Lib.hid hk
        clear hj hk
        refine hK.out _ _ ((J.cell1 HJ3.out)) (fun hHeld => ?_)
        clear hK K
        refine norm_ (a' := ?_) ?_ ?_
        rotate_left
        · show Act.put _ (some 39) _ = _
          simp only [Act.put, List.setIfInBounds_toArray, List.set_cons_zero, List.set_cons_succ, i64_w, i32_w]
          rfl
        refine one_ (i := 8) (N := some 44) #[true, true, true, true, true, true, true, true, true, false, false, false] rfl rfl (by kernel_rfl) (by decide) (fun K hK => ?_)
        refine goes_ Try.func27 (by kernel_rfl) rfl #[.pointer (some ⟨gx, 0, none⟩), .slice A l.length c] (by rfl) rfl rfl (by simp only [List.map_toArray, List.map_cons, List.map_nil]; rfl) ?_
        with_reducible refine (jmargin (c := c) HJ3.out HR.out hd0 (by omega) hll).mono ?_
        rintro e w4 ⟨v4, rfl, hR, hj, hk⟩
        refine ⟨_, rfl, ?_⟩
        have HR4 := Lib.hid hR
        clear hR
        have HJ4 := Lib.hid hj
        have HK4 := Lib.hid hk
        clear hj hk
        refine hK.out _ _ ((J.cell1 HJ4.out)) (fun hHeld => ?_)
        clear hK K
        refine norm_ (a' := ?_) ?_ ?_
        rotate_left
        · show Act.put _ (some 44) _ = _
          simp only [Act.put, List.setIfInBounds_toArray, List.set_cons_zero, List.set_cons_succ, i64_w, i32_w]
          rfl
        refine one_ (i := 9) (N := some 45) #[true, true, true, true, true, true, true, true, true, true, false, false] rfl rfl (by kernel_rfl) (by decide) (fun K hK => ?_)
        refine goes_ Try.func26 (by kernel_rfl) rfl #[.pointer (some ⟨gx, 0, none⟩), v4] (by rfl) rfl rfl (by simp only [List.map_toArray, List.map_cons, List.map_nil]; rfl) ?_
        with_reducible refine (jxput_row HJ4.out HR4.out hm (by rw [hlx]; omega)).mono ?_
        rintro e w5 ⟨rfl, hj, hk⟩
        refine ⟨_, rfl, ?_⟩
        have HJ5 := Lib.hid hj
        have HK5 := Lib.hid hk
        clear hj hk
        refine hK.out _ _ ((J.cell1 HJ5.out)) (fun hHeld => ?_)
        clear hK K
        refine norm_ (a' := ?_) ?_ ?_
        rotate_left
        · show Act.put _ (some 45) _ = _
          simp only [Act.put, List.setIfInBounds_toArray, List.set_cons_zero, List.set_cons_succ, i64_w, i32_w]
          rfl
        refine pure_ (i := 10) (N := some 46) (v := ?_) (a' := ?_) #[true, true, true, true, true, true, true, true, true, true, true, false] rfl rfl (by kernel_rfl) (fun _ _ _ h => h) (Or.inl ⟨by rfl, ?_⟩) ?_ ?_
        rotate_left
        · intro w'
          go_simp
          with_reducible rfl
        rotate_left
        · simp only [Act.put, List.setIfInBounds_toArray, List.set_cons_zero, List.set_cons_succ, i64_w, i32_w]
          rfl
        refine pure_ (i := 11) (N := some 6) (v := ?_) (a' := ?_) #[true, true, true, true, true, true, true, true, true, true, true, true] rfl rfl (by kernel_rfl) (fun _ _ _ h => h) (Or.inl ⟨by rfl, ?_⟩) ?_ ?_
        rotate_left
        · intro w'
          go_simp
          with_reducible rfl
        rotate_left
        · simp only [Act.put, List.setIfInBounds_toArray, List.set_cons_zero, List.set_cons_succ, i64_w, i32_w]
          rfl
        refine done_ (by kernel_rfl) ?_
        go_wp2
        go_ret
        rw [res_cat M bs f _ _ hlx] at HJ5 ⊢
        refine ⟨by simp, _, d, _, HJ5.out.j0, hd0, by omega, hrl.1, by have := hrl.2; omega⟩
      · by_cases h5 : r = 5
        · subst h5
          have hlm : (cat (l ++ [⟨#[10]⟩])).length = (cat l).length + 1 := by rw [cat_append, List.length_append]; rfl
          have hlx : cat ([] ++ l ++ [⟨#[10]⟩]) = cat (l ++ [⟨#[10]⟩]) := rfl
          have hrl := res_len M bs f (l ++ [⟨#[10]⟩]) hb
          go_wp2
          have HJ0 := Lib.hid HJ.out.drew
          refine start_ (n := 14) (S := fun w' => w'.cell? ⟨bx, 1, none⟩ = some (.slice A l.length c)) (ds := []) #[false, false, false, false, false, false, false, false, false, false, false, false, false, false] (by kernel_rfl) rfl rfl ((J.cell1 HJ0.out)) (fun hHeld => ?_)
          generalize hwd : w1.drew = wd at *
          refine pure_ (i := 0) (N := some 49) (v := ?_) (a' := ?_) #[true, false, false, false, false, false, false, false, false, false, false, false, false, false] rfl rfl (by kernel_rfl) (fun _ _ _ h => h) (Or.inl ⟨by rfl, ?_⟩) ?_ ?_
          rotate_left
          · intro w'
            go_simp
            with_reducible rfl
          rotate_left
          · simp only [Act.put, List.setIfInBounds_toArray, List.set_cons_zero, List.set_cons_succ, i64_w, i32_w]
            rfl
          refine pure_ (i := 1) (N := some 50) (v := ?_) (a' := ?_) #[true, true, false, false, false, false, false, false, false, false, false, false, false, false] rfl rfl (by kernel_rfl) (fun _ _ _ h => h) (Or.inl ⟨by rfl, ?_⟩) ?_ ?_
          rotate_left
          · intro w'
            go_simp
            with_reducible rfl
          rotate_left
          · simp only [Act.put, List.setIfInBounds_toArray, List.set_cons_zero, List.set_cons_succ, i64_w, i32_w]
            rfl
          refine pure_ (i := 4) (N := some 53) (v := ?_) (a' := ?_) #[true, true, false, false, true, false, false, false, false, false, false, false, false, false] rfl rfl (by kernel_rfl) (fun _ _ _ h => h) (Or.inl ⟨by rfl, ?_⟩) ?_ ?_
          rotate_left
          · intro w'
            go_simp
            with_reducible rfl
          rotate_left
          · simp only [Act.put, List.setIfInBounds_toArray, List.set_cons_zero, List.set_cons_succ, i64_w, i32_w]
            rfl
          refine pure_ (i := 6) (N := some 55) (v := ?_) (a' := ?_) #[true, true, false, false, true, false, true, false, false, false, false, false, false, false] rfl rfl (by kernel_rfl) (fun _ _ _ h => h) (Or.inl ⟨by rfl, ?_⟩) ?_ ?_
          rotate_left
          · intro w'
            go_simp
            with_reducible rfl
          rotate_left
          · simp only [Act.put, List.setIfInBounds_toArray, List.set_cons_zero, List.set_cons_succ, i64_w, i32_w]
            rfl
          refine take_ (i := 2) (N := some 51) (v := ?_) (a' := ?_) #[true, true, true, false, true, false, true, false, false, false, false, false, false, false] rfl rfl (by kernel_rfl) (fun _ _ _ h => h) (Or.inl ⟨by rfl, ?_⟩) hHeld ?_ ?_
          rotate_left
          · intro w' s0
            go_simp
            with_reducible rfl
          rotate_left
          · simp only [Act.put, List.setIfInBounds_toArray, List.set_cons_zero, List.set_cons_succ, i64_w, i32_w]
            rfl
          refine take_ (i := 7) (N := some 56) (v := ?_) (a' := ?_) #[true, true, true, false, true, false, true, true, false, false, false, false, false, false] rfl rfl (by kernel_rfl) (fun _ _ _ h => h) (Or.inl ⟨by rfl, ?_⟩) hHeld ?_ ?_
          rotate_left
          · intro w' s0
            go_simp
            with_reducible rfl
          rotate_left
          · simp only [Act.put, List.setIfInBounds_toArray, List.set_cons_zero, List.set_cons_succ, i64_w, i32_w]
            rfl
          refine join_ (σ := Nat × Value × Nat) 4 #[true, true, true, true, true, true, true, true, true, true, false, false, false, false] (fun s => [(52, .bool (res M bs f (l ++ [⟨#[10]⟩])).1), (54, .slice (some ⟨s.1, 0, none⟩) 0 0), (57, s.2.1), (58, .slice (some ⟨s.2.2, 0, none⟩) 1 1)]) (fun s w' => J w0 g gx bx (.cells #[.int .i64 kind, .slice A l.length c] 33) M (res M bs f (l ++ [⟨#[10]⟩])).2.1 d (res M bs f (l ++ [⟨#[10]⟩])).2.2 bs d f w' ∧ Kd.string.R 9 w' w0.heap.size Any1 s.2.1 ([] ++ l) ∧ Kd.string.R 9 w' w0.heap.size Any1 (.slice (some ⟨s.2.2, 0, none⟩) 1 1) [⟨#[10]⟩]) ?_ ?_
          rotate_left
          · intro hCont
            refine three_ (i := 3) (j := 5) (k := 9) (Ni := some 52) (Nj := some 54) (Nk := some 58) #[true, true, true, true, true, false, true, true, false, false, false, false, false, false] #[true, true, true, false, true, true, true, true, false, false, false, false, false, false] #[true, true, true, false, true, false, true, true, false, true, false, false, false, false] rfl rfl rfl rfl rfl rfl (by kernel_rfl) (by decide) (by decide) (by decide) (fun K hK => ?_) (fun K hK => ?_) (fun K hK => ?_)
            · skip
              refine goes_ Try.func19 (by kernel_rfl) rfl #[.pointer (some ⟨g, 0, none⟩), .slice A l.length c] (by rfl) rfl rfl (by simp only [List.map_toArray, List.map_cons, List.map_nil]; rfl) ?_
              with_reducible refine (jend (c := c) HJ0.out HR.out hm hll hb (by omega)).mono ?_
              rintro e W3 ⟨rfl, hj, hk⟩
              refine ⟨_, rfl, ?_⟩
              have HJ3 := Lib.hid hj
              clear hj hk
              refine hK.out _ _ ((J.cell1 HJ3.out)) (fun hHeld => ?_)
              clear hK K
              refine norm_ (a' := ?_) ?_ ?_
              rotate_left
              · show Act.put _ (some 52) _ = _
                simp only [Act.put, List.setIfInBounds_toArray, List.set_cons_zero, List.set_cons_succ, i64_w, i32_w]
                rfl
              refine two_ (i := 5) (j := 9) (Ni := some 54) (Nj := some 58) #[true, true, true, true, true, true, true, true, false, false, false, false, false, false] #[true, true, true, true, true, false, true, true, false, true, false, false, false, false] rfl rfl rfl rfl (by kernel_rfl) (by decide) (by decide) (fun K hK => ?_) (fun K hK => ?_)
              · skip
                refine value_ (w1 := ?_) (v := ?_) (by rfl) rfl ?_ ?_
                rotate_left 2
                · go_simp
                  constructor
                  · rfl
                  · rfl
                have HJ3_5 := Lib.hid (J.below (w := W3) HJ3.out (below_alloc (Below.refl _ _) (.cells #[] 9)))
                have HR5_3_5 := Lib.hid (R_lit0_at W3 (base := w0.heap.size) (q := W3.heap.size) ((HJ3.out).bel.size) rfl)
                refine hK.out _ _ ((J.cell1 HJ3_5.out)) (fun hHeld => ?_)
                clear hK K
                refine norm_ (a' := ?_) ?_ ?_
                rotate_left
                · show Act.put _ (some 54) _ = _
                  simp only [Act.put, List.setIfInBounds_toArray, List.set_cons_zero, List.set_cons_succ, i64_w, i32_w]
                  rfl
                refine two_ (i := 8) (j := 9) (Ni := some 57) (Nj := some 58) #[true, true, true, true, true, true, true, true, true, false, false, false, false, false] #[true, true, true, true, true, true, true, true, false, true, false, false, false, false] rfl rfl rfl rfl (by kernel_rfl) (by decide) (by decide) (fun K hK => ?_) (fun K hK => ?_)
                · skip
                  refine Kd.R_append_rows_step Kd.string w0.heap.size (by rfl) (.tmp 54) (.tmp 56) 31 9 (.string ⟨#[]⟩) 16 rfl Try.underlying31 infoStr rfl (by decide) (by omega) (.slice (some ⟨W3.heap.size, 0, none⟩) 0 0) [] l A l.length c Any1 (fun _ => False) rfl rfl HR5_3_5.out (Kd.C_below HR.out HJ3_5.out.bel) (fun _ _ h => h) (fun _ h => h.elim) (fun _ _ => trivial) (Below.refl _ _) HJ3_5.out.bel.size ?aL3_5_8 ?_
                  (case aL3_5_8 => show (0 + l.length) * 16 ≤ _; omega)
                  intro v3_5_8 W3_5_8 hR hb hg hat
                  have HJ3_5_8 := Lib.hid (J.grown HJ3_5.out HR5_3_5.out hg)
                  have HR8_3_5_8 := Lib.hid hR
                  clear hR hb hg hat
                  refine hK.out _ _ ((J.cell1 HJ3_5_8.out)) (fun hHeld => ?_)
                  clear hK K
                  refine norm_ (a' := ?_) ?_ ?_
                  rotate_left
                  · show Act.put _ (some 57) _ = _
                    simp only [Act.put, List.setIfInBounds_toArray, List.set_cons_zero, List.set_cons_succ, i64_w, i32_w]
                    rfl
                  refine one_ (i := 9) (N := some 58) #[true, true, true, true, true, true, true, true, true, true, false, false, false, false] rfl rfl (by kernel_rfl) (by decide) (fun K hK => ?_)
                  refine value_ (w1 := ?_) (v := ?_) (by rfl) rfl ?_ ?_
                  rotate_left 2
                  · go_simp
                    constructor
                    · rfl
                    · rfl
                  have HJ3_5_8_9 := Lib.hid (J.below (w := W3_5_8) HJ3_5_8.out (below_alloc (Below.refl _ _) (.cells #[.string (⟨#[10]⟩ : ByteArray)] 9)))
                  have HR8_3_5_8_9 := Lib.hid (Kd.R_below (w := W3_5_8) HR8_3_5_8.out (below_alloc (Below.refl _ _) (.cells #[.string (⟨#[10]⟩ : ByteArray)] 9)))
                  have HR9_3_5_8_9 := Lib.hid (R_one_at W3_5_8 (⟨#[10]⟩ : ByteArray) (base := w0.heap.size) (q := W3_5_8.heap.size) ((HJ3_5_8.out).bel.size) rfl)
                  refine hK.out _ _ ((J.cell1 HJ3_5_8_9.out)) (fun hHeld => ?_)
                  clear hK K
                  refine norm_ (a' := ?_) ?_ ?_
                  rotate_left
                  · show Act.put _ (some 58) _ = _
                    simp only [Act.put, List.setIfInBounds_toArray, List.set_cons_zero, List.set_cons_succ, i64_w, i32_w]
                    rfl
                  exact norm_ (by first | (simp only [putAll, Act.put, List.setIfInBounds_toArray, List.set_cons_zero, List.set_cons_succ]; done) | (simp only [putAll, Act.put, List.setIfInBounds_toArray, List.set_cons_zero, List.set_cons_succ, size_alloc]; done)) (hCont (W3.heap.size, v3_5_8, W3_5_8.heap.size) _ ⟨HJ3_5_8_9.out, HR8_3_5_8_9.out, HR9_3_5_8_9.out⟩)
                · skip
                  refine value_ (w1 := ?_) (v := ?_) (by rfl) rfl ?_ ?_
                  rotate_left 2
                  · go_simp
                    constructor
                    · rfl
                    · rfl
                  have HJ3_5_9 := Lib.hid (J.below (w := (W3.alloc (.cells #[] 9))) HJ3_5.out (below_alloc (Below.refl _ _) (.cells #[.string (⟨#[10]⟩ : ByteArray)] 9)))
                  have HR5_3_5_9 := Lib.hid (Kd.R_below (w := (W3.alloc (.cells #[] 9))) HR5_3_5.out (below_alloc (Below.refl _ _) (.cells #[.string (⟨#[10]⟩ : ByteArray)] 9)))
                  have HR9_3_5_9 := Lib.hid (R_one_at (W3.alloc (.cells #[] 9)) (⟨#[10]⟩ : ByteArray) (base := w0.heap.size) (q := W3.heap.size + 1) ((HJ3_5.out).bel.size) (by rw [size_alloc]))
                  have HNE_3_5_9 := Lib.hid (show W3.heap.size + 1 ≠ W3.heap.size from by have h1 := R_lt HR5_3_5.out; (try simp only [size_alloc] at h1); omega)
                  refine hK.out _ _ ((J.cell1 HJ3_5_9.out)) (fun hHeld => ?_)
                  clear hK K
                  refine norm_ (a' := ?_) ?_ ?_
                  rotate_left
                  · show Act.put _ (some 58) _ = _
                    simp only [Act.put, List.setIfInBounds_toArray, List.set_cons_zero, List.set_cons_succ, i64_w, i32_w]
                    rfl
                  refine one_ (i := 8) (N := some 57) #[true, true, true, true, true, true, true, true, true, true, false, false, false, false] rfl rfl (by kernel_rfl) (by decide) (fun K hK => ?_)
                  refine Kd.R_append_rows_step Kd.string w0.heap.size (by rfl) (.tmp 54) (.tmp 56) 31 9 (.string ⟨#[]⟩) 16 rfl Try.underlying31 infoStr rfl (by decide) (by omega) (.slice (some ⟨W3.heap.size, 0, none⟩) 0 0) [] l A l.length c Any1 (fun _ => False) rfl rfl HR5_3_5_9.out (Kd.C_below HR.out HJ3_5_9.out.bel) (fun _ _ h => h) (fun _ h => h.elim) (fun _ _ => trivial) (Below.refl _ _) HJ3_5_9.out.bel.size ?aL3_5_9_8 ?_
                  (case aL3_5_9_8 => show (0 + l.length) * 16 ≤ _; omega)
                  intro v3_5_9_8 W3_5_9_8 hR hb hg hat
                  have HR9_3_5_9_8 := Lib.hid (R_apart HR9_3_5_9.out hg HNE_3_5_9.out)
                  have HJ3_5_9_8 := Lib.hid (J.grown HJ3_5_9.out HR5_3_5_9.out hg)
                  have HR8_3_5_9_8 := Lib.hid hR
                  clear hR hb hg hat
                  refine hK.out _ _ ((J.cell1 HJ3_5_9_8.out)) (fun hHeld => ?_)
                  clear hK K
                  refine norm_ (a' := ?_) ?_ ?_
                  rotate_left
                  · show Act.put _ (some 57) _ = _
                    simp only [Act.put, List.setIfInBounds_toArray, List.set_cons_zero, List.set_cons_succ, i64_w, i32_w]
                    rfl
                  exact norm_ (by first | (simp only [putAll, Act.put, List.setIfInBounds_toArray, List.set_cons_zero, List.set_cons_succ]; done) | (simp only [putAll, Act.put, List.setIfInBounds_toArray, List.set_cons_zero, List.set_cons_succ, size_alloc]; done)) (hCont (W3.heap.size, v3_5_9_8, W3.heap.size + 1) _ ⟨HJ3_5_9_8.out, HR8_3_5_9_8.out, HR9_3_5_9_8.out⟩)
              · skip
                refine value_ (w1 := ?_) (v := ?_) (by rfl) rfl ?_ ?_
                rotate_left 2
                · go_simp
                  constructor
                  · rfl
                  · rfl
                have HJ3_9 := Lib.hid (J.below (w := W3) HJ3.out (below_alloc (Below.refl _ _) (.cells #[.string (⟨#[10]⟩ : ByteArray)] 9)))
                have HR9_3_9 := Lib.hid (R_one_at W3 (⟨#[10]⟩ : ByteArray) (base := w0.heap.size) (q := W3.heap.size) ((HJ3.out).bel.size) rfl)
                refine hK.out _ _ ((J.cell1 HJ3_9.out)) (fun hHeld => ?_)
                clear hK K
                refine norm_ (a' := ?_) ?_ ?_
                rotate_left
                · show Act.put _ (some 58) _ = _
                  simp only [Act.put, List.setIfInBounds_toArray, List.set_cons_zero, List.set_cons_succ, i64_w, i32_w]
                  rfl
                refine one_ (i := 5) (N := some 54) #[true, true, true, true, true, true, true, true, false, true, false, false, false, false] rfl rfl (by kernel_rfl) (by decide) (fun K hK => ?_)
                refine value_ (w1 := ?_) (v := ?_) (by rfl) rfl ?_ ?_
                rotate_left 2
                · go_simp
                  constructor
                  · rfl
                  · rfl
                have HJ3_9_5 := Lib.hid (J.below (w := (W3.alloc (.cells #[.string (⟨#[10]⟩ : ByteArray)] 9))) HJ3_9.out (below_alloc (Below.refl _ _) (.cells #[] 9)))
                have HR9_3_9_5 := Lib.hid (Kd.R_below (w := (W3.alloc (.cells #[.string (⟨#[10]⟩ : ByteArray)] 9))) HR9_3_9.out (below_alloc (Below.refl _ _) (.cells #[] 9)))
                have HR5_3_9_5 := Lib.hid (R_lit0_at (W3.alloc (.cells #[.string (⟨#[10]⟩ : ByteArray)] 9)) (base := w0.heap.size) (q := W3.heap.size + 1) ((HJ3_9.out).bel.size) (by rw [size_alloc]))
                have HNE_3_9_5 := Lib.hid (show W3.heap.size ≠ W3.heap.size + 1 from by have h1 := R_lt HR9_3_9.out; (try simp only [size_alloc] at h1); omega)
                refine hK.out _ _ ((J.cell1 HJ3_9_5.out)) (fun hHeld => ?_)
                clear hK K
                refine norm_ (a' := ?_) ?_ ?_
                rotate_left
                · show Act.put _ (some 54) _ = _
                  simp only [Act.put, List.setIfInBounds_toArray, List.set_cons_zero, List.set_cons_succ, i64_w, i32_w]
                  rfl
                refine one_ (i := 8) (N := some 57) #[true, true, true, true, true, true, true, true, true, true, false, false, false, false] rfl rfl (by kernel_rfl) (by decide) (fun K hK => ?_)
                refine Kd.R_append_rows_step Kd.string w0.heap.size (by rfl) (.tmp 54) (.tmp 56) 31 9 (.string ⟨#[]⟩) 16 rfl Try.underlying31 infoStr rfl (by decide) (by omega) (.slice (some ⟨W3.heap.size + 1, 0, none⟩) 0 0) [] l A l.length c Any1 (fun _ => False) rfl rfl HR5_3_9_5.out (Kd.C_below HR.out HJ3_9_5.out.bel) (fun _ _ h => h) (fun _ h => h.elim) (fun _ _ => trivial) (Below.refl _ _) HJ3_9_5.out.bel.size ?aL3_9_5_8 ?_
                (case aL3_9_5_8 => show (0 + l.length) * 16 ≤ _; omega)
                intro v3_9_5_8 W3_9_5_8 hR hb hg hat
                have HR9_3_9_5_8 := Lib.hid (R_apart HR9_3_9_5.out hg HNE_3_9_5.out)
                have HJ3_9_5_8 := Lib.hid (J.grown HJ3_9_5.out HR5_3_9_5.out hg)
                have HR8_3_9_5_8 := Lib.hid hR
                clear hR hb hg hat
                refine hK.out _ _ ((J.cell1 HJ3_9_5_8.out)) (fun hHeld => ?_)
                clear hK K
                refine norm_ (a' := ?_) ?_ ?_
                rotate_left
                · show Act.put _ (some 57) _ = _
                  simp only [Act.put, List.setIfInBounds_toArray, List.set_cons_zero, List.set_cons_succ, i64_w, i32_w]
                  rfl
                exact norm_ (by first | (simp only [putAll, Act.put, List.setIfInBounds_toArray, List.set_cons_zero, List.set_cons_succ]; done) | (simp only [putAll, Act.put, List.setIfInBounds_toArray, List.set_cons_zero, List.set_cons_succ, size_alloc]; done)) (hCont (W3.heap.size + 1, v3_9_5_8, W3.heap.size) _ ⟨HJ3_9_5_8.out, HR8_3_9_5_8.out, HR9_3_9_5_8.out⟩)
            · skip
              refine value_ (w1 := ?_) (v := ?_) (by rfl) rfl ?_ ?_
              rotate_left 2
              · go_simp
                constructor
                · rfl
                · rfl
              have HJ5 := Lib.hid (J.below (w := wd) HJ0.out (below_alloc (Below.refl _ _) (.cells #[] 9)))
              have HR5_5 := Lib.hid (R_lit0_at wd (base := w0.heap.size) (q := wd.heap.size) ((HJ0.out).bel.size) rfl)
              refine hK.out _ _ ((J.cell1 HJ5.out)) (fun hHeld => ?_)
              clear hK K
              refine norm_ (a' := ?_) ?_ ?_
              rotate_left
              · show Act.put _ (some 54) _ = _
                simp only [Act.put, List.setIfInBounds_toArray, List.set_cons_zero, List.set_cons_succ, i64_w, i32_w]
                rfl
              refine two_ (i := 3) (j := 9) (Ni := some 52) (Nj := some 58) #[true, true, true, true, true, true, true, true, false, false, false, false, false, false] #[true, true, true, false, true, true, true, true, false, true, false, false, false, false] rfl rfl rfl rfl (by kernel_rfl) (by decide) (by decide) (fun K hK => ?_) (fun K hK => ?_)
              · skip
                refine goes_ Try.func19 (by kernel_rfl) rfl #[.pointer (some ⟨g, 0, none⟩), .slice A l.length c] (by rfl) rfl rfl (by simp only [List.map_toArray, List.map_cons, List.map_nil]; rfl) ?_
                with_reducible refine (jend (c := c) HJ5.out HR.out hm hll hb (by omega)).mono ?_
                rintro e W5_3 ⟨rfl, hj, hk⟩
                refine ⟨_, rfl, ?_⟩
                have HJ5_3 := Lib.hid hj
                have HR5_5_3 := Lib.hid (hk _ _ _ HR5_5.out)
                clear hj hk
                refine hK.out _ _ ((J.cell1 HJ5_3.out)) (fun hHeld => ?_)
                clear hK K
                refine norm_ (a' := ?_) ?_ ?_
                rotate_left
                · show Act.put _ (some 52) _ = _
                  simp only [Act.put, List.setIfInBounds_toArray, List.set_cons_zero, List.set_cons_succ, i64_w, i32_w]
                  rfl
                refine two_ (i := 8) (j := 9) (Ni := some 57) (Nj := some 58) #[true, true, true, true, true, true, true, true, true, false, false, false, false, false] #[true, true, true, true, true, true, true, true, false, true, false, false, false, false] rfl rfl rfl rfl (by kernel_rfl) (by decide) (by decide) (fun K hK => ?_) (fun K hK => ?_)
                · skip
                  refine Kd.R_append_rows_step Kd.string w0.heap.size (by rfl) (.tmp 54) (.tmp 56) 31 9 (.string ⟨#[]⟩) 16 rfl Try.underlying31 infoStr rfl (by decide) (by omega) (.slice (some ⟨wd.heap.size, 0, none⟩) 0 0) [] l A l.length c Any1 (fun _ => False) rfl rfl HR5_5_3.out (Kd.C_below HR.out HJ5_3.out.bel) (fun _ _ h => h) (fun _ h => h.elim) (fun _ _ => trivial) (Below.refl _ _) HJ5_3.out.bel.size ?aL5_3_8 ?_
                  (case aL5_3_8 => show (0 + l.length) * 16 ≤ _; omega)
                  intro v5_3_8 W5_3_8 hR hb hg hat
                  have HJ5_3_8 := Lib.hid (J.grown HJ5_3.out HR5_5_3.out hg)
                  have HR8_5_3_8 := Lib.hid hR
                  clear hR hb hg hat
                  refine hK.out _ _ ((J.cell1 HJ5_3_8.out)) (fun hHeld => ?_)
                  clear hK K
                  refine norm_ (a' := ?_) ?_ ?_
                  rotate_left
                  · show Act.put _ (some 57) _ = _
                    simp only [Act.put, List.setIfInBounds_toArray, List.set_cons_zero, List.set_cons_succ, i64_w, i32_w]
                    rfl
                  refine one_ (i := 9) (N := some 58) #[true, true, true, true, true, true, true, true, true, true, false, false, false, false] rfl rfl (by kernel_rfl) (by decide) (fun K hK => ?_)
                  refine value_ (w1 := ?_) (v := ?_) (by rfl) rfl ?_ ?_
                  rotate_left 2
                  · go_simp
                    constructor
                    · rfl
                    · rfl
                  have HJ5_3_8_9 := Lib.hid (J.below (w := W5_3_8) HJ5_3_8.out (below_alloc (Below.refl _ _) (.cells #[.string (⟨#[10]⟩ : ByteArray)] 9)))
                  have HR8_5_3_8_9 := Lib.hid (Kd.R_below (w := W5_3_8) HR8_5_3_8.out (below_alloc (Below.refl _ _) (.cells #[.string (⟨#[10]⟩ : ByteArray)] 9)))
                  have HR9_5_3_8_9 := Lib.hid (R_one_at W5_3_8 (⟨#[10]⟩ : ByteArray) (base := w0.heap.size) (q := W5_3_8.heap.size) ((HJ5_3_8.out).bel.size) rfl)
                  refine hK.out _ _ ((J.cell1 HJ5_3_8_9.out)) (fun hHeld => ?_)
                  clear hK K
                  refine norm_ (a' := ?_) ?_ ?_
                  rotate_left
                  · show Act.put _ (some 58) _ = _
                    simp only [Act.put, List.setIfInBounds_toArray, List.set_cons_zero, List.set_cons_succ, i64_w, i32_w]
                    rfl
                  exact norm_ (by first | (simp only [putAll, Act.put, List.setIfInBounds_toArray, List.set_cons_zero, List.set_cons_succ]; done) | (simp only [putAll, Act.put, List.setIfInBounds_toArray, List.set_cons_zero, List.set_cons_succ, size_alloc]; done)) (hCont (wd.heap.size, v5_3_8, W5_3_8.heap.size) _ ⟨HJ5_3_8_9.out, HR8_5_3_8_9.out, HR9_5_3_8_9.out⟩)
                · skip
                  refine value_ (w1 := ?_) (v := ?_) (by rfl) rfl ?_ ?_
                  rotate_left 2
                  · go_simp
                    constructor
                    · rfl
                    · rfl
                  have HJ5_3_9 := Lib.hid (J.below (w := W5_3) HJ5_3.out (below_alloc (Below.refl _ _) (.cells #[.string (⟨#[10]⟩ : ByteArray)] 9)))
                  have HR5_5_3_9 := Lib.hid (Kd.R_below (w := W5_3) HR5_5_3.out (below_alloc (Below.refl _ _) (.cells #[.string (⟨#[10]⟩ : ByteArray)] 9)))
                  have HR9_5_3_9 := Lib.hid (R_one_at W5_3 (⟨#[10]⟩ : ByteArray) (base := w0.heap.size) (q := W5_3.heap.size) ((HJ5_3.out).bel.size) rfl)
                  have HNE_5_3_9 := Lib.hid (show W5_3.heap.size ≠ wd.heap.size from by have h1 := R_lt HR5_5_3.out; (try simp only [size_alloc] at h1); omega)
                  refine hK.out _ _ ((J.cell1 HJ5_3_9.out)) (fun hHeld => ?_)
                  clear hK K
                  refine norm_ (a' := ?_) ?_ ?_
                  rotate_left
                  · show Act.put _ (some 58) _ = _
                    simp only [Act.put, List.setIfInBounds_toArray, List.set_cons_zero, List.set_cons_succ, i64_w, i32_w]
                    rfl
                  refine one_ (i := 8) (N := some 57) #[true, true, true, true, true, true, true, true, true, true, false, false, false, false] rfl rfl (by kernel_rfl) (by decide) (fun K hK => ?_)
                  refine Kd.R_append_rows_step Kd.string w0.heap.size (by rfl) (.tmp 54) (.tmp 56) 31 9 (.string ⟨#[]⟩) 16 rfl Try.underlying31 infoStr rfl (by decide) (by omega) (.slice (some ⟨wd.heap.size, 0, none⟩) 0 0) [] l A l.length c Any1 (fun _ => False) rfl rfl HR5_5_3_9.out (Kd.C_below HR.out HJ5_3_9.out.bel) (fun _ _ h => h) (fun _ h => h.elim) (fun _ _ => trivial) (Below.refl _ _) HJ5_3_9.out.bel.size ?aL5_3_9_8 ?_
                  (case aL5_3_9_8 => show (0 + l.length) * 16 ≤ _; omega)
                  intro v5_3_9_8 W5_3_9_8 hR hb hg hat
                  have HR9_5_3_9_8 := Lib.hid (R_apart HR9_5_3_9.out hg HNE_5_3_9.out)
                  have HJ5_3_9_8 := Lib.hid (J.grown HJ5_3_9.out HR5_5_3_9.out hg)
                  have HR8_5_3_9_8 := Lib.hid hR
                  clear hR hb hg hat
                  refine hK.out _ _ ((J.cell1 HJ5_3_9_8.out)) (fun hHeld => ?_)
                  clear hK K
                  refine norm_ (a' := ?_) ?_ ?_
                  rotate_left
                  · show Act.put _ (some 57) _ = _
                    simp only [Act.put, List.setIfInBounds_toArray, List.set_cons_zero, List.set_cons_succ, i64_w, i32_w]
                    rfl
                  exact norm_ (by first | (simp only [putAll, Act.put, List.setIfInBounds_toArray, List.set_cons_zero, List.set_cons_succ]; done) | (simp only [putAll, Act.put, List.setIfInBounds_toArray, List.set_cons_zero, List.set_cons_succ, size_alloc]; done)) (hCont (wd.heap.size, v5_3_9_8, W5_3.heap.size) _ ⟨HJ5_3_9_8.out, HR8_5_3_9_8.out, HR9_5_3_9_8.out⟩)
              · skip
                refine value_ (w1 := ?_) (v := ?_) (by rfl) rfl ?_ ?_
                rotate_left 2
                · go_simp
                  constructor
                  · rfl
                  · rfl
                have HJ5_9 := Lib.hid (J.below (w := (wd.alloc (.cells #[] 9))) HJ5.out (below_alloc (Below.refl _ _) (.cells #[.string (⟨#[10]⟩ : ByteArray)] 9)))
                have HR5_5_9 := Lib.hid (Kd.R_below (w := (wd.alloc (.cells #[] 9))) HR5_5.out (below_alloc (Below.refl _ _) (.cells #[.string (⟨#[10]⟩ : ByteArray)] 9)))
                have HR9_5_9 := Lib.hid (R_one_at (wd.alloc (.cells #[] 9)) (⟨#[10]⟩ : ByteArray) (base := w0.heap.size) (q := wd.heap.size + 1) ((HJ5.out).bel.size) (by rw [size_alloc]))
                have HNE_5_9 := Lib.hid (show wd.heap.size + 1 ≠ wd.heap.size from by have h1 := R_lt HR5_5.out; (try simp only [size_alloc] at h1); omega)
                refine hK.out _ _ ((J.cell1 HJ5_9.out)) (fun hHeld => ?_)
                clear hK K
                refine norm_ (a' := ?_) ?_ ?_
                rotate_left
                · show Act.put _ (some 58) _ = _
                  simp only [Act.put, List.setIfInBounds_toArray, List.set_cons_zero, List.set_cons_succ, i64_w, i32_w]
                  rfl
                refine one_ (i := 3) (N := some 52) #[true, true, true, true, true, true, true, true, false, true, false, false, false, false] rfl rfl (by kernel_rfl) (by decide) (fun K hK => ?_)
                refine goes_ Try.func19 (by kernel_rfl) rfl #[.pointer (some ⟨g, 0, none⟩), .slice A l.length c] (by rfl) rfl rfl (by simp only [List.map_toArray, List.map_cons, List.map_nil]; rfl) ?_
                with_reducible refine (jend (c := c) HJ5_9.out HR.out hm hll hb (by omega)).mono ?_
                rintro e W5_9_3 ⟨rfl, hj, hk⟩
                refine ⟨_, rfl, ?_⟩
                have HJ5_9_3 := Lib.hid hj
                have HR5_5_9_3 := Lib.hid (hk _ _ _ HR5_5_9.out)
                have HR9_5_9_3 := Lib.hid (hk _ _ _ HR9_5_9.out)
                clear hj hk
                refine hK.out _ _ ((J.cell1 HJ5_9_3.out)) (fun hHeld => ?_)
                clear hK K
                refine norm_ (a' := ?_) ?_ ?_
                rotate_left
                · show Act.put _ (some 52) _ = _
                  simp only [Act.put, List.setIfInBounds_toArray, List.set_cons_zero, List.set_cons_succ, i64_w, i32_w]
                  rfl
                refine one_ (i := 8) (N := some 57) #[true, true, true, true, true, true, true, true, true, true, false, false, false, false] rfl rfl (by kernel_rfl) (by decide) (fun K hK => ?_)
                refine Kd.R_append_rows_step Kd.string w0.heap.size (by rfl) (.tmp 54) (.tmp 56) 31 9 (.string ⟨#[]⟩) 16 rfl Try.underlying31 infoStr rfl (by decide) (by omega) (.slice (some ⟨wd.heap.size, 0, none⟩) 0 0) [] l A l.length c Any1 (fun _ => False) rfl rfl HR5_5_9_3.out (Kd.C_below HR.out HJ5_9_3.out.bel) (fun _ _ h => h) (fun _ h => h.elim) (fun _ _ => trivial) (Below.refl _ _) HJ5_9_3.out.bel.size ?aL5_9_3_8 ?_
                (case aL5_9_3_8 => show (0 + l.length) * 16 ≤ _; omega)
                intro v5_9_3_8 W5_9_3_8 hR hb hg hat
                have HR9_5_9_3_8 := Lib.hid (R_apart HR9_5_9_3.out hg HNE_5_9.out)
                have HJ5_9_3_8 := Lib.hid (J.grown HJ5_9_3.out HR5_5_9_3.out hg)
                have HR8_5_9_3_8 := Lib.hid hR
                clear hR hb hg hat
                refine hK.out _ _ ((J.cell1 HJ5_9_3_8.out)) (fun hHeld => ?_)
                clear hK K
                refine norm_ (a' := ?_) ?_ ?_
                rotate_left
                · show Act.put _ (some 57) _ = _
                  simp only [Act.put, List.setIfInBounds_toArray, List.set_cons_zero, List.set_cons_succ, i64_w, i32_w]
                  rfl
                exact norm_ (by first | (simp only [putAll, Act.put, List.setIfInBounds_toArray, List.set_cons_zero, List.set_cons_succ]; done) | (simp only [putAll, Act.put, List.setIfInBounds_toArray, List.set_cons_zero, List.set_cons_succ, size_alloc]; done)) (hCont (wd.heap.size, v5_9_3_8, wd.heap.size + 1) _ ⟨HJ5_9_3_8.out, HR8_5_9_3_8.out, HR9_5_9_3_8.out⟩)
            · skip
              refine value_ (w1 := ?_) (v := ?_) (by rfl) rfl ?_ ?_
              rotate_left 2
              · go_simp
                constructor
                · rfl
                · rfl
              have HJ9 := Lib.hid (J.below (w := wd) HJ0.out (below_alloc (Below.refl _ _) (.cells #[.string (⟨#[10]⟩ : ByteArray)] 9)))
              have HR9_9 := Lib.hid (R_one_at wd (⟨#[10]⟩ : ByteArray) (base := w0.heap.size) (q := wd.heap.size) ((HJ0.out).bel.size) rfl)
              refine hK.out _ _ ((J.cell1 HJ9.out)) (fun hHeld => ?_)
              clear hK K
              refine norm_ (a' := ?_) ?_ ?_
              rotate_left
              · show Act.put _ (some 58) _ = _
                simp only [Act.put, List.setIfInBounds_toArray, List.set_cons_zero, List.set_cons_succ, i64_w, i32_w]
                rfl
              refine two_ (i := 3) (j := 5) (Ni := some 52) (Nj := some 54) #[true, true, true, true, true, false, true, true, false, true, false, false, false, false] #[true, true, true, false, true, true, true, true, false, true, false, false, false, false] rfl rfl rfl rfl (by kernel_rfl) (by decide) (by decide) (fun K hK => ?_) (fun K hK => ?_)
              · skip
                refine goes_ Try.func19 (by kernel_rfl) rfl #[.pointer (some ⟨g, 0, none⟩), .slice A l.length c] (by rfl) rfl rfl (by simp only [List.map_toArray, List.map_cons, List.map_nil]; rfl) ?_
                with_reducible refine (jend (c := c) HJ9.out HR.out hm hll hb (by omega)).mono ?_
                rintro e W9_3 ⟨rfl, hj, hk⟩
                refine ⟨_, rfl, ?_⟩
                have HJ9_3 := Lib.hid hj
                have HR9_9_3 := Lib.hid (hk _ _ _ HR9_9.out)
                clear hj hk
                refine hK.out _ _ ((J.cell1 HJ9_3.out)) (fun hHeld => ?_)
                clear hK K
                refine norm_ (a' := ?_) ?_ ?_
                rotate_left
                · show Act.put _ (some 52) _ = _
                  simp only [Act.put, List.setIfInBounds_toArray, List.set_cons_zero, List.set_cons_succ, i64_w, i32_w]
                  rfl
                refine one_ (i := 5) (N := some 54) #[true, true, true, true, true, true, true, true, false, true, false, false, false, false] rfl rfl (by kernel_rfl) (by decide) (fun K hK => ?_)
                refine value_ (w1 := ?_) (v := ?_) (by rfl) rfl ?_ ?_
                rotate_left 2
                · go_simp
                  constructor
                  · rfl
                  · rfl
                have HJ9_3_5 := Lib.hid (J.below (w := W9_3) HJ9_3.out (below_alloc (Below.refl _ _) (.cells #[] 9)))
                have HR9_9_3_5 := Lib.hid (Kd.R_below (w := W9_3) HR9_9_3.out (below_alloc (Below.refl _ _) (.cells #[] 9)))
                have HR5_9_3_5 := Lib.hid (R_lit0_at W9_3 (base := w0.heap.size) (q := W9_3.heap.size) ((HJ9_3.out).bel.size) rfl)
                have HNE_9_3_5 := Lib.hid (show wd.heap.size ≠ W9_3.heap.size from by have h1 := R_lt HR9_9_3.out; (try simp only [size_alloc] at h1); omega)
                refine hK.out _ _ ((J.cell1 HJ9_3_5.out)) (fun hHeld => ?_)
                clear hK K
                refine norm_ (a' := ?_) ?_ ?_
                rotate_left
                · show Act.put _ (some 54) _ = _
                  simp only [Act.put, List.setIfInBounds_toArray, List.set_cons_zero, List.set_cons_succ, i64_w, i32_w]
                  rfl
                refine one_ (i := 8) (N := some 57) #[true, true, true, true, true, true, true, true, true, true, false, false, false, false] rfl rfl (by kernel_rfl) (by decide) (fun K hK => ?_)
                refine Kd.R_append_rows_step Kd.string w0.heap.size (by rfl) (.tmp 54) (.tmp 56) 31 9 (.string ⟨#[]⟩) 16 rfl Try.underlying31 infoStr rfl (by decide) (by omega) (.slice (some ⟨W9_3.heap.size, 0, none⟩) 0 0) [] l A l.length c Any1 (fun _ => False) rfl rfl HR5_9_3_5.out (Kd.C_below HR.out HJ9_3_5.out.bel) (fun _ _ h => h) (fun _ h => h.elim) (fun _ _ => trivial) (Below.refl _ _) HJ9_3_5.out.bel.size ?aL9_3_5_8 ?_
                (case aL9_3_5_8 => show (0 + l.length) * 16 ≤ _; omega)
                intro v9_3_5_8 W9_3_5_8 hR hb hg hat
                have HR9_9_3_5_8 := Lib.hid (R_apart HR9_9_3_5.out hg HNE_9_3_5.out)
                have HJ9_3_5_8 := Lib.hid (J.grown HJ9_3_5.out HR5_9_3_5.out hg)
                have HR8_9_3_5_8 := Lib.hid hR
                clear hR hb hg hat
                refine hK.out _ _ ((J.cell1 HJ9_3_5_8.out)) (fun hHeld => ?_)
                clear hK K
                refine norm_ (a' := ?_) ?_ ?_
                rotate_left
                · show Act.put _ (some 57) _ = _
                  simp only [Act.put, List.setIfInBounds_toArray, List.set_cons_zero, List.set_cons_succ, i64_w, i32_w]
                  rfl
                exact norm_ (by first | (simp only [putAll, Act.put, List.setIfInBounds_toArray, List.set_cons_zero, List.set_cons_succ]; done) | (simp only [putAll, Act.put, List.setIfInBounds_toArray, List.set_cons_zero, List.set_cons_succ, size_alloc]; done)) (hCont (W9_3.heap.size, v9_3_5_8, wd.heap.size) _ ⟨HJ9_3_5_8.out, HR8_9_3_5_8.out, HR9_9_3_5_8.out⟩)
              · skip
                refine value_ (w1 := ?_) (v := ?_) (by rfl) rfl ?_ ?_
                rotate_left 2
                · go_simp
                  constructor
                  · rfl
                  · rfl
                have HJ9_5 := Lib.hid (J.below (w := (wd.alloc (.cells #[.string (⟨#[10]⟩ : ByteArray)] 9))) HJ9.out (below_alloc (Below.refl _ _) (.cells #[] 9)))
                have HR9_9_5 := Lib.hid (Kd.R_below (w := (wd.alloc (.cells #[.string (⟨#[10]⟩ : ByteArray)] 9))) HR9_9.out (below_alloc (Below.refl _ _) (.cells #[] 9)))
                have HR5_9_5 := Lib.hid (R_lit0_at (wd.alloc (.cells #[.string (⟨#[10]⟩ : ByteArray)] 9)) (base := w0.heap.size) (q := wd.heap.size + 1) ((HJ9.out).bel.size) (by rw [size_alloc]))
                have HNE_9_5 := Lib.hid (show wd.heap.size ≠ wd.heap.size + 1 from by have h1 := R_lt HR9_9.out; (try simp only [size_alloc] at h1); omega)
                refine hK.out _ _ ((J.cell1 HJ9_5.out)) (fun hHeld => ?_)
                clear hK K
                refine norm_ (a' := ?_) ?_ ?_
                rotate_left
                · show Act.put _ (some 54) _ = _
                  simp only [Act.put, List.setIfInBounds_toArray, List.set_cons_zero, List.set_cons_succ, i64_w, i32_w]
                  rfl
                refine one_ (i := 3) (N := some 52) #[true, true, true, true, true, true, true, true, false, true, false, false, false, false] rfl rfl (by kernel_rfl) (by decide) (fun K hK => ?_)
                refine goes_ Try.func19 (by kernel_rfl) rfl #[.pointer (some ⟨g, 0, none⟩), .slice A l.length c] (by rfl) rfl rfl (by simp only [List.map_toArray, List.map_cons, List.map_nil]; rfl) ?_
                with_reducible refine (jend (c := c) HJ9_5.out HR.out hm hll hb (by omega)).mono ?_
                rintro e W9_5_3 ⟨rfl, hj, hk⟩
                refine ⟨_, rfl, ?_⟩
                have HJ9_5_3 := Lib.hid hj
                have HR5_9_5_3 := Lib.hid (hk _ _ _ HR5_9_5.out)
                have HR9_9_5_3 := Lib.hid (hk _ _ _ HR9_9_5.out)
                clear hj hk
                refine hK.out _ _ ((J.cell1 HJ9_5_3.out)) (fun hHeld => ?_)
                clear hK K
                refine norm_ (a' := ?_) ?_ ?_
                rotate_left
                · show Act.put _ (some 52) _ = _
                  simp only [Act.put, List.setIfInBounds_toArray, List.set_cons_zero, List.set_cons_succ, i64_w, i32_w]
                  rfl
                refine one_ (i := 8) (N := some 57) #[true, true, true, true, true, true, true, true, true, true, false, false, false, false] rfl rfl (by kernel_rfl) (by decide) (fun K hK => ?_)
                refine Kd.R_append_rows_step Kd.string w0.heap.size (by rfl) (.tmp 54) (.tmp 56) 31 9 (.string ⟨#[]⟩) 16 rfl Try.underlying31 infoStr rfl (by decide) (by omega) (.slice (some ⟨wd.heap.size + 1, 0, none⟩) 0 0) [] l A l.length c Any1 (fun _ => False) rfl rfl HR5_9_5_3.out (Kd.C_below HR.out HJ9_5_3.out.bel) (fun _ _ h => h) (fun _ h => h.elim) (fun _ _ => trivial) (Below.refl _ _) HJ9_5_3.out.bel.size ?aL9_5_3_8 ?_
                (case aL9_5_3_8 => show (0 + l.length) * 16 ≤ _; omega)
                intro v9_5_3_8 W9_5_3_8 hR hb hg hat
                have HR9_9_5_3_8 := Lib.hid (R_apart HR9_9_5_3.out hg HNE_9_5.out)
                have HJ9_5_3_8 := Lib.hid (J.grown HJ9_5_3.out HR5_9_5_3.out hg)
                have HR8_9_5_3_8 := Lib.hid hR
                clear hR hb hg hat
                refine hK.out _ _ ((J.cell1 HJ9_5_3_8.out)) (fun hHeld => ?_)
                clear hK K
                refine norm_ (a' := ?_) ?_ ?_
                rotate_left
                · show Act.put _ (some 57) _ = _
                  simp only [Act.put, List.setIfInBounds_toArray, List.set_cons_zero, List.set_cons_succ, i64_w, i32_w]
                  rfl
                exact norm_ (by first | (simp only [putAll, Act.put, List.setIfInBounds_toArray, List.set_cons_zero, List.set_cons_succ]; done) | (simp only [putAll, Act.put, List.setIfInBounds_toArray, List.set_cons_zero, List.set_cons_succ, size_alloc]; done)) (hCont (wd.heap.size + 1, v9_5_3_8, wd.heap.size) _ ⟨HJ9_5_3_8.out, HR8_9_5_3_8.out, HR9_9_5_3_8.out⟩)
          rintro ⟨q5, v6, q6⟩ w6 ⟨hj, hR, hN⟩
          have hHeld := J.cell1 hj
          have HJ6 := Lib.hid hj
          have HR6 := Lib.hid hR
          have HN6 := Lib.hid hN
          clear hj hR hN
          refine norm_ (a' := ?_) ?_ ?_
          rotate_left
          · simp only [putAll, Act.put, List.setIfInBounds_toArray, List.set_cons_zero, List.set_cons_succ]
            rfl
          refine one_ (i := 10) (N := some 59) #[true, true, true, true, true, true, true, true, true, true, true, false, false, false] rfl rfl (by kernel_rfl) (by decide) (fun K hK => ?_)
          refine Kd.R_append_rows_step Kd.string w0.heap.size (by rfl) (.tmp 57) (.tmp 58) 31 9 (.string ⟨#[]⟩) 16 rfl Try.underlying31 infoStr rfl (by decide) (by omega) v6 ([] ++ l) [⟨#[10]⟩] (some ⟨q6, 0, none⟩) 1 1 Any1 (fun _ => False) rfl rfl HR6.out (RC HN6.out) (fun _ _ h => h) (fun _ h => h.elim) (fun _ _ => trivial) (Below.refl _ _) HJ6.out.bel.size ?aLL57 ?_
          (case aLL57 => simp only [List.length_append, List.length_cons, List.length_nil, indL, List.length_replicate]; omega)
          intro v7 w7 hR hb hg hat
          have HJ7 := Lib.hid (J.grown HJ6.out HR6.out hg)
          have HR7 := Lib.hid hR
          clear hR hb hg hat
          refine hK.out _ _ ((J.cell1 HJ7.out)) (fun hHeld => ?_)
          clear hK K
          refine norm_ (a' := ?_) ?_ ?_
          rotate_left
          · show Act.put _ (some 59) _ = _
            simp only [Act.put, List.setIfInBounds_toArray, List.set_cons_zero, List.set_cons_succ, i64_w, i32_w]
            rfl
          refine one_ (i := 11) (N := some 60) #[true, true, true, true, true, true, true, true, true, true, true, true, false, false] rfl rfl (by kernel_rfl) (by decide) (fun K hK => ?_)
          refine goes_ Try.func26 (by kernel_rfl) rfl #[.pointer (some ⟨gx, 0, none⟩), v7] (by rfl) rfl rfl (by simp only [List.map_toArray, List.map_cons, List.map_nil]; rfl) ?_
          with_reducible refine (jxput_row HJ7.out HR7.out hm (by rw [hlx]; omega)).mono ?_
          rintro e w8 ⟨rfl, hj, hk⟩
          refine ⟨_, rfl, ?_⟩
          have HJ8 := Lib.hid hj
          have HK8 := Lib.hid hk
          clear hj hk
          refine hK.out _ _ ((J.cell1 HJ8.out)) (fun hHeld => ?_)
          clear hK K
          refine norm_ (a' := ?_) ?_ ?_
          rotate_left
          · show Act.put _ (some 60) _ = _
            simp only [Act.put, List.setIfInBounds_toArray, List.set_cons_zero, List.set_cons_succ, i64_w, i32_w]
            rfl
          refine pure_ (i := 12) (N := some 61) (v := ?_) (a' := ?_) #[true, true, true, true, true, true, true, true, true, true, true, true, true, false] rfl rfl (by kernel_rfl) (fun _ _ _ h => h) (Or.inl ⟨by rfl, ?_⟩) ?_ ?_
          rotate_left
          · intro w'
            go_simp
            with_reducible rfl
          rotate_left
          · simp only [Act.put, List.setIfInBounds_toArray, List.set_cons_zero, List.set_cons_succ, i64_w, i32_w]
            rfl
          refine pure_ (i := 13) (N := some 6) (v := ?_) (a' := ?_) #[true, true, true, true, true, true, true, true, true, true, true, true, true, true] rfl rfl (by kernel_rfl) (fun _ _ _ h => h) (Or.inl ⟨by rfl, ?_⟩) ?_ ?_
          rotate_left
          · intro w'
            go_simp
            with_reducible rfl
          rotate_left
          · simp only [Act.put, List.setIfInBounds_toArray, List.set_cons_zero, List.set_cons_succ, i64_w, i32_w]
            rfl
          refine done_ (by kernel_rfl) ?_
          go_wp2
          go_ret
          rw [res_cat M bs f _ _ hlx] at HJ8
          refine ⟨by simp, _, d, _, HJ8.out.j0, hd0, by omega, hrl.1, by have := hrl.2; omega⟩
        · by_cases h6 : r = 6
          · subst h6
            have hlm : (cat (ind d :: l ++ [⟨#[10]⟩])).length = 2 * d.toNat + (cat l).length + 1 := by
              rw [cat_append, List.length_append]; simp only [cat, List.length_append, data_length, ind_size]; rfl
            have hlx : cat (indL d.toNat ++ l ++ [⟨#[10]⟩]) = cat (ind d :: l ++ [⟨#[10]⟩]) := by
              rw [cat_append, cat_append, cat_append, cat_indL]; simp only [cat]; rw [show ((d.toNat : Nat) : Int) = d from by omega]
            have hrl := res_len M bs f (ind d :: l ++ [⟨#[10]⟩]) hb
            go_wp2
            have HJ0 := Lib.hid HJ.out.drew
            refine start_ (n := 14) (S := fun w' => w'.cell? ⟨bx, 1, none⟩ = some (.slice A l.length c)) (ds := []) #[false, false, false, false, false, false, false, false, false, false, false, false, false, false] (by kernel_rfl) rfl rfl ((J.cell1 HJ0.out)) (fun hHeld => ?_)
            generalize hwd : w1.drew = wd at *
            refine pure_ (i := 0) (N := some 64) (v := ?_) (a' := ?_) #[true, false, false, false, false, false, false, false, false, false, false, false, false, false] rfl rfl (by kernel_rfl) (fun _ _ _ h => h) (Or.inl ⟨by rfl, ?_⟩) ?_ ?_
            rotate_left
            · intro w'
              go_simp
              with_reducible rfl
            rotate_left
            · simp only [Act.put, List.setIfInBounds_toArray, List.set_cons_zero, List.set_cons_succ, i64_w, i32_w]
              rfl
            refine pure_ (i := 1) (N := some 65) (v := ?_) (a' := ?_) #[true, true, false, false, false, false, false, false, false, false, false, false, false, false] rfl rfl (by kernel_rfl) (fun _ _ _ h => h) (Or.inl ⟨by rfl, ?_⟩) ?_ ?_
            rotate_left
            · intro w'
              go_simp
              with_reducible rfl
            rotate_left
            · simp only [Act.put, List.setIfInBounds_toArray, List.set_cons_zero, List.set_cons_succ, i64_w, i32_w]
              rfl
            refine pure_ (i := 4) (N := some 68) (v := ?_) (a' := ?_) #[true, true, false, false, true, false, false, false, false, false, false, false, false, false] rfl rfl (by kernel_rfl) (fun _ _ _ h => h) (Or.inl ⟨by rfl, ?_⟩) ?_ ?_
            rotate_left
            · intro w'
              go_simp
              with_reducible rfl
            rotate_left
            · simp only [Act.put, List.setIfInBounds_toArray, List.set_cons_zero, List.set_cons_succ, i64_w, i32_w]
              rfl
            refine pure_ (i := 5) (N := some 69) (v := ?_) (a' := ?_) #[true, true, false, false, true, true, false, false, false, false, false, false, false, false] rfl rfl (by kernel_rfl) (fun _ _ _ h => h) (Or.inl ⟨by rfl, ?_⟩) ?_ ?_
            rotate_left
            · intro w'
              go_simp
              with_reducible rfl
            rotate_left
            · simp only [Act.put, List.setIfInBounds_toArray, List.set_cons_zero, List.set_cons_succ, i64_w, i32_w]
              rfl
            refine pure_ (i := 6) (N := some 70) (v := ?_) (a' := ?_) #[true, true, false, false, true, true, true, false, false, false, false, false, false, false] rfl rfl (by kernel_rfl) (fun _ _ _ h => h) (Or.inl ⟨by rfl, ?_⟩) ?_ ?_
            rotate_left
            · intro w'
              go_simp
              with_reducible rfl
            rotate_left
            · simp only [Act.put, List.setIfInBounds_toArray, List.set_cons_zero, List.set_cons_succ, i64_w, i32_w]
              rfl
            refine take_ (i := 2) (N := some 66) (v := ?_) (a' := ?_) #[true, true, true, false, true, true, true, false, false, false, false, false, false, false] rfl rfl (by kernel_rfl) (fun _ _ _ h => h) (Or.inl ⟨by rfl, ?_⟩) hHeld ?_ ?_
            rotate_left
            · intro w' s0
              go_simp
              with_reducible rfl
            rotate_left
            · simp only [Act.put, List.setIfInBounds_toArray, List.set_cons_zero, List.set_cons_succ, i64_w, i32_w]
              rfl
            refine take_ (i := 7) (N := some 71) (v := ?_) (a' := ?_) #[true, true, true, false, true, true, true, true, false, false, false, false, false, false] rfl rfl (by kernel_rfl) (fun _ _ _ h => h) (Or.inl ⟨by rfl, ?_⟩) hHeld ?_ ?_
            rotate_left
            · intro w' s0
              go_simp
              with_reducible rfl
            rotate_left
            · simp only [Act.put, List.setIfInBounds_toArray, List.set_cons_zero, List.set_cons_succ, i64_w, i32_w]
              rfl
            refine join_ (σ := Value × Nat) 4 #[true, true, true, true, true, true, true, true, true, true, false, false, false, false] (fun s => [(67, .bool (res M bs f (ind d :: l ++ [⟨#[10]⟩])).1), (72, s.1), (73, .slice (some ⟨s.2, 0, none⟩) 1 1)]) (fun s w' => J w0 g gx bx (.cells #[.int .i64 kind, .slice A l.length c] 33) M (res M bs f (ind d :: l ++ [⟨#[10]⟩])).2.1 d (res M bs f (ind d :: l ++ [⟨#[10]⟩])).2.2 bs d f w' ∧ Kd.string.R 9 w' w0.heap.size Any1 s.1 (indL d.toNat ++ l) ∧ Kd.string.R 9 w' w0.heap.size Any1 (.slice (some ⟨s.2, 0, none⟩) 1 1) [⟨#[10]⟩]) ?_ ?_
            rotate_left
            · intro hCont
              refine two_ (i := 3) (j := 9) (Ni := some 67) (Nj := some 73) #[true, true, true, true, true, true, true, true, false, false, false, false, false, false] #[true, true, true, false, true, true, true, true, false, true, false, false, false, false] rfl rfl rfl rfl (by kernel_rfl) (by decide) (by decide) (fun K hK => ?_) (fun K hK => ?_)
              · skip
                refine goes_ Try.func12 (by kernel_rfl) rfl #[.pointer (some ⟨g, 0, none⟩), .slice A l.length c] (by rfl) rfl rfl (by simp only [List.map_toArray, List.map_cons, List.map_nil]; rfl) ?_
                with_reducible refine (jline (c := c) HJ0.out HR.out hm hd0 (by omega) hll hb (by omega)).mono ?_
                rintro e W3 ⟨rfl, hj, hk⟩
                refine ⟨_, rfl, ?_⟩
                have HJ3 := Lib.hid hj
                clear hj hk
                refine hK.out _ _ ((J.cell1 HJ3.out)) (fun hHeld => ?_)
                clear hK K
                refine norm_ (a' := ?_) ?_ ?_
                rotate_left
                · show Act.put _ (some 67) _ = _
                  simp only [Act.put, List.setIfInBounds_toArray, List.set_cons_zero, List.set_cons_succ, i64_w, i32_w]
                  rfl
                refine two_ (i := 8) (j := 9) (Ni := some 72) (Nj := some 73) #[true, true, true, true, true, true, true, true, true, false, false, false, false, false] #[true, true, true, true, true, true, true, true, false, true, false, false, false, false] rfl rfl rfl rfl (by kernel_rfl) (by decide) (by decide) (fun K hK => ?_) (fun K hK => ?_)
                · skip
                  refine goes_ Try.func27 (by kernel_rfl) rfl #[.pointer (some ⟨gx, 0, none⟩), .slice A l.length c] (by rfl) rfl rfl (by simp only [List.map_toArray, List.map_cons, List.map_nil]; rfl) ?_
                  with_reducible refine (jmargin (c := c) HJ3.out HR.out hd0 (by omega) hll).mono ?_
                  rintro e W3_8 ⟨v3_8, rfl, hR, hj, hk⟩
                  refine ⟨_, rfl, ?_⟩
                  have HR8_3_8 := Lib.hid (Kd.R_lower hR (HJ3.out).bel.size)
                  clear hR
                  have HJ3_8 := Lib.hid hj
                  clear hj hk
                  refine hK.out _ _ ((J.cell1 HJ3_8.out)) (fun hHeld => ?_)
                  clear hK K
                  refine norm_ (a' := ?_) ?_ ?_
                  rotate_left
                  · show Act.put _ (some 72) _ = _
                    simp only [Act.put, List.setIfInBounds_toArray, List.set_cons_zero, List.set_cons_succ, i64_w, i32_w]
                    rfl
                  refine one_ (i := 9) (N := some 73) #[true, true, true, true, true, true, true, true, true, true, false, false, false, false] rfl rfl (by kernel_rfl) (by decide) (fun K hK => ?_)
                  refine value_ (w1 := ?_) (v := ?_) (by rfl) rfl ?_ ?_
                  rotate_left 2
                  · go_simp
                    constructor
                    · rfl
                    · rfl
                  have HJ3_8_9 := Lib.hid (J.below (w := W3_8) HJ3_8.out (below_alloc (Below.refl _ _) (.cells #[.string (⟨#[10]⟩ : ByteArray)] 9)))
                  have HR8_3_8_9 := Lib.hid (Kd.R_below (w := W3_8) HR8_3_8.out (below_alloc (Below.refl _ _) (.cells #[.string (⟨#[10]⟩ : ByteArray)] 9)))
                  have HR9_3_8_9 := Lib.hid (R_one_at W3_8 (⟨#[10]⟩ : ByteArray) (base := w0.heap.size) (q := W3_8.heap.size) ((HJ3_8.out).bel.size) rfl)
                  refine hK.out _ _ ((J.cell1 HJ3_8_9.out)) (fun hHeld => ?_)
                  clear hK K
                  refine norm_ (a' := ?_) ?_ ?_
                  rotate_left
                  · show Act.put _ (some 73) _ = _
                    simp only [Act.put, List.setIfInBounds_toArray, List.set_cons_zero, List.set_cons_succ, i64_w, i32_w]
                    rfl
                  exact norm_ (by first | (simp only [putAll, Act.put, List.setIfInBounds_toArray, List.set_cons_zero, List.set_cons_succ]; done) | (simp only [putAll, Act.put, List.setIfInBounds_toArray, List.set_cons_zero, List.set_cons_succ, size_alloc]; done)) (hCont (v3_8, W3_8.heap.size) _ ⟨HJ3_8_9.out, HR8_3_8_9.out, HR9_3_8_9.out⟩)
                · skip
                  refine value_ (w1 := ?_) (v := ?_) (by rfl) rfl ?_ ?_
                  rotate_left 2
                  · go_simp
                    constructor
                    · rfl
                    · rfl
                  have HJ3_9 := Lib.hid (J.below (w := W3) HJ3.out (below_alloc (Below.refl _ _) (.cells #[.string (⟨#[10]⟩ : ByteArray)] 9)))
                  have HR9_3_9 := Lib.hid (R_one_at W3 (⟨#[10]⟩ : ByteArray) (base := w0.heap.size) (q := W3.heap.size) ((HJ3.out).bel.size) rfl)
                  refine hK.out _ _ ((J.cell1 HJ3_9.out)) (fun hHeld => ?_)
                  clear hK K
                  refine norm_ (a' := ?_) ?_ ?_
                  rotate_left
                  · show Act.put _ (some 73) _ = _
                    simp only [Act.put, List.setIfInBounds_toArray, List.set_cons_zero, List.set_cons_succ, i64_w, i32_w]
                    rfl
                  refine one_ (i := 8) (N := some 72) #[true, true, true, true, true, true, true, true, true, true, false, false, false, false] rfl rfl (by kernel_rfl) (by decide) (fun K hK => ?_)
                  refine goes_ Try.func27 (by kernel_rfl) rfl #[.pointer (some ⟨gx, 0, none⟩), .slice A l.length c] (by rfl) rfl rfl (by simp only [List.map_toArray, List.map_cons, List.map_nil]; rfl) ?_
                  with_reducible refine (jmargin (c := c) HJ3_9.out HR.out hd0 (by omega) hll).mono ?_
                  rintro e W3_9_8 ⟨v3_9_8, rfl, hR, hj, hk⟩
                  refine ⟨_, rfl, ?_⟩
                  have HR8_3_9_8 := Lib.hid (Kd.R_lower hR (HJ3_9.out).bel.size)
                  clear hR
                  have HJ3_9_8 := Lib.hid hj
                  have HR9_3_9_8 := Lib.hid (hk _ _ _ HR9_3_9.out)
                  clear hj hk
                  refine hK.out _ _ ((J.cell1 HJ3_9_8.out)) (fun hHeld => ?_)
                  clear hK K
                  refine norm_ (a' := ?_) ?_ ?_
                  rotate_left
                  · show Act.put _ (some 72) _ = _
                    simp only [Act.put, List.setIfInBounds_toArray, List.set_cons_zero, List.set_cons_succ, i64_w, i32_w]
                    rfl
                  exact norm_ (by first | (simp only [putAll, Act.put, List.setIfInBounds_toArray, List.set_cons_zero, List.set_cons_succ]; done) | (simp only [putAll, Act.put, List.setIfInBounds_toArray, List.set_cons_zero, List.set_cons_succ, size_alloc]; done)) (hCont (v3_9_8, W3.heap.size) _ ⟨HJ3_9_8.out, HR8_3_9_8.out, HR9_3_9_8.out⟩)
              · skip
                refine value_ (w1 := ?_) (v := ?_) (by rfl) rfl ?_ ?_
                rotate_left 2
                · go_simp
                  constructor
                  · rfl
                  · rfl
                have HJ9 := Lib.hid (J.below (w := wd) HJ0.out (below_alloc (Below.refl _ _) (.cells #[.string (⟨#[10]⟩ : ByteArray)] 9)))
                have HR9_9 := Lib.hid (R_one_at wd (⟨#[10]⟩ : ByteArray) (base := w0.heap.size) (q := wd.heap.size) ((HJ0.out).bel.size) rfl)
                refine hK.out _ _ ((J.cell1 HJ9.out)) (fun hHeld => ?_)
                clear hK K
                refine norm_ (a' := ?_) ?_ ?_
                rotate_left
                · show Act.put _ (some 73) _ = _
                  simp only [Act.put, List.setIfInBounds_toArray, List.set_cons_zero, List.set_cons_succ, i64_w, i32_w]
                  rfl
                refine one_ (i := 3) (N := some 67) #[true, true, true, true, true, true, true, true, false, true, false, false, false, false] rfl rfl (by kernel_rfl) (by decide) (fun K hK => ?_)
                refine goes_ Try.func12 (by kernel_rfl) rfl #[.pointer (some ⟨g, 0, none⟩), .slice A l.length c] (by rfl) rfl rfl (by simp only [List.map_toArray, List.map_cons, List.map_nil]; rfl) ?_
                with_reducible refine (jline (c := c) HJ9.out HR.out hm hd0 (by omega) hll hb (by omega)).mono ?_
                rintro e W9_3 ⟨rfl, hj, hk⟩
                refine ⟨_, rfl, ?_⟩
                have HJ9_3 := Lib.hid hj
                have HR9_9_3 := Lib.hid (hk _ _ _ HR9_9.out)
                clear hj hk
                refine hK.out _ _ ((J.cell1 HJ9_3.out)) (fun hHeld => ?_)
                clear hK K
                refine norm_ (a' := ?_) ?_ ?_
                rotate_left
                · show Act.put _ (some 67) _ = _
                  simp only [Act.put, List.setIfInBounds_toArray, List.set_cons_zero, List.set_cons_succ, i64_w, i32_w]
                  rfl
                refine one_ (i := 8) (N := some 72) #[true, true, true, true, true, true, true, true, true, true, false, false, false, false] rfl rfl (by kernel_rfl) (by decide) (fun K hK => ?_)
                refine goes_ Try.func27 (by kernel_rfl) rfl #[.pointer (some ⟨gx, 0, none⟩), .slice A l.length c] (by rfl) rfl rfl (by simp only [List.map_toArray, List.map_cons, List.map_nil]; rfl) ?_
                with_reducible refine (jmargin (c := c) HJ9_3.out HR.out hd0 (by omega) hll).mono ?_
                rintro e W9_3_8 ⟨v9_3_8, rfl, hR, hj, hk⟩
                refine ⟨_, rfl, ?_⟩
                have HR8_9_3_8 := Lib.hid (Kd.R_lower hR (HJ9_3.out).bel.size)
                clear hR
                have HJ9_3_8 := Lib.hid hj
                have HR9_9_3_8 := Lib.hid (hk _ _ _ HR9_9_3.out)
                clear hj hk
                refine hK.out _ _ ((J.cell1 HJ9_3_8.out)) (fun hHeld => ?_)
                clear hK K
                refine norm_ (a' := ?_) ?_ ?_
                rotate_left
                · show Act.put _ (some 72) _ = _
                  simp only [Act.put, List.setIfInBounds_toArray, List.set_cons_zero, List.set_cons_succ, i64_w, i32_w]
                  rfl
                exact norm_ (by first | (simp only [putAll, Act.put, List.setIfInBounds_toArray, List.set_cons_zero, List.set_cons_succ]; done) | (simp only [putAll, Act.put, List.setIfInBounds_toArray, List.set_cons_zero, List.set_cons_succ, size_alloc]; done)) (hCont (v9_3_8, wd.heap.size) _ ⟨HJ9_3_8.out, HR8_9_3_8.out, HR9_9_3_8.out⟩)
            rintro ⟨v6, q6⟩ w6 ⟨hj, hR, hN⟩
            have hHeld := J.cell1 hj
            have HJ6 := Lib.hid hj
            have HR6 := Lib.hid hR
            have HN6 := Lib.hid hN
            clear hj hR hN
            refine norm_ (a' := ?_) ?_ ?_
            rotate_left
            · simp only [putAll, Act.put, List.setIfInBounds_toArray, List.set_cons_zero, List.set_cons_succ]
              rfl
            refine one_ (i := 10) (N := some 74) #[true, true, true, true, true, true, true, true, true, true, true, false, false, false] rfl rfl (by kernel_rfl) (by decide) (fun K hK => ?_)
            refine Kd.R_append_rows_step Kd.string w0.heap.size (by rfl) (.tmp 72) (.tmp 73) 31 9 (.string ⟨#[]⟩) 16 rfl Try.underlying31 infoStr rfl (by decide) (by omega) v6 (indL d.toNat ++ l) [⟨#[10]⟩] (some ⟨q6, 0, none⟩) 1 1 Any1 (fun _ => False) rfl rfl HR6.out (RC HN6.out) (fun _ _ h => h) (fun _ h => h.elim) (fun _ _ => trivial) (Below.refl _ _) HJ6.out.bel.size ?aLL72 ?_
            (case aLL72 => simp only [List.length_append, List.length_cons, List.length_nil, indL, List.length_replicate]; omega)
            intro v7 w7 hR hb hg hat
            have HJ7 := Lib.hid (J.grown HJ6.out HR6.out hg)
            have HR7 := Lib.hid hR
            clear hR hb hg hat
            refine hK.out _ _ ((J.cell1 HJ7.out)) (fun hHeld => ?_)
            clear hK K
            refine norm_ (a' := ?_) ?_ ?_
            rotate_left
            · show Act.put _ (some 74) _ = _
              simp only [Act.put, List.setIfInBounds_toArray, List.set_cons_zero, List.set_cons_succ, i64_w, i32_w]
              rfl
            refine one_ (i := 11) (N := some 75) #[true, true, true, true, true, true, true, true, true, true, true, true, false, false] rfl rfl (by kernel_rfl) (by decide) (fun K hK => ?_)
            refine goes_ Try.func26 (by kernel_rfl) rfl #[.pointer (some ⟨gx, 0, none⟩), v7] (by rfl) rfl rfl (by simp only [List.map_toArray, List.map_cons, List.map_nil]; rfl) ?_
            with_reducible refine (jxput_row HJ7.out HR7.out hm (by rw [hlx]; omega)).mono ?_
            rintro e w8 ⟨rfl, hj, hk⟩
            refine ⟨_, rfl, ?_⟩
            have HJ8 := Lib.hid hj
            have HK8 := Lib.hid hk
            clear hj hk
            refine hK.out _ _ ((J.cell1 HJ8.out)) (fun hHeld => ?_)
            clear hK K
            refine norm_ (a' := ?_) ?_ ?_
            rotate_left
            · show Act.put _ (some 75) _ = _
              simp only [Act.put, List.setIfInBounds_toArray, List.set_cons_zero, List.set_cons_succ, i64_w, i32_w]
              rfl
            refine pure_ (i := 12) (N := some 76) (v := ?_) (a' := ?_) #[true, true, true, true, true, true, true, true, true, true, true, true, true, false] rfl rfl (by kernel_rfl) (fun _ _ _ h => h) (Or.inl ⟨by rfl, ?_⟩) ?_ ?_
            rotate_left
            · intro w'
              go_simp
              with_reducible rfl
            rotate_left
            · simp only [Act.put, List.setIfInBounds_toArray, List.set_cons_zero, List.set_cons_succ, i64_w, i32_w]
              rfl
            refine pure_ (i := 13) (N := some 6) (v := ?_) (a' := ?_) #[true, true, true, true, true, true, true, true, true, true, true, true, true, true] rfl rfl (by kernel_rfl) (fun _ _ _ h => h) (Or.inl ⟨by rfl, ?_⟩) ?_ ?_
            rotate_left
            · intro w'
              go_simp
              with_reducible rfl
            rotate_left
            · simp only [Act.put, List.setIfInBounds_toArray, List.set_cons_zero, List.set_cons_succ, i64_w, i32_w]
              rfl
            refine done_ (by kernel_rfl) ?_
            go_wp2
            go_ret
            have hres : res M bs f (indL d.toNat ++ (l ++ [⟨#[10]⟩])) = res M bs f (ind d :: (l ++ [⟨#[10]⟩])) := res_cat M bs f _ _ (by rw [← List.append_assoc]; exact hlx)
            rw [res_cat M bs f _ _ hlx] at HJ8
            refine ⟨by simp [hres], _, d, _, HJ8.out.j0, hd0, by omega, hrl.1, by have := hrl.2; omega⟩
          · go_wp2
            have hrl := res_len M bs f l hb
            have HJ0 := Lib.hid HJ.out.drew
            refine start_ (n := 10) (S := fun w' => w'.cell? ⟨bx, 1, none⟩ = some (.slice A l.length c)) (ds := []) #[false, false, false, false, false, false, false, false, false, false] (by kernel_rfl) rfl rfl ((J.cell1 HJ0.out)) (fun hHeld => ?_)
            generalize hwd : w1.drew = wd at *
            refine pure_ (i := 0) (N := some 77) (v := ?_) (a' := ?_) #[true, false, false, false, false, false, false, false, false, false] rfl rfl (by kernel_rfl) (fun _ _ _ h => h) (Or.inl ⟨by rfl, ?_⟩) ?_ ?_
            rotate_left
            · intro w'
              go_simp
              with_reducible rfl
            rotate_left
            · simp only [Act.put, List.setIfInBounds_toArray, List.set_cons_zero, List.set_cons_succ, i64_w, i32_w]
              rfl
            refine pure_ (i := 1) (N := some 78) (v := ?_) (a' := ?_) #[true, true, false, false, false, false, false, false, false, false] rfl rfl (by kernel_rfl) (fun _ _ _ h => h) (Or.inl ⟨by rfl, ?_⟩) ?_ ?_
            rotate_left
            · intro w'
              go_simp
              with_reducible rfl
            rotate_left
            · simp only [Act.put, List.setIfInBounds_toArray, List.set_cons_zero, List.set_cons_succ, i64_w, i32_w]
              rfl
            refine pure_ (i := 4) (N := some 81) (v := ?_) (a' := ?_) #[true, true, false, false, true, false, false, false, false, false] rfl rfl (by kernel_rfl) (fun _ _ _ h => h) (Or.inl ⟨by rfl, ?_⟩) ?_ ?_
            rotate_left
            · intro w'
              go_simp
              with_reducible rfl
            rotate_left
            · simp only [Act.put, List.setIfInBounds_toArray, List.set_cons_zero, List.set_cons_succ, i64_w, i32_w]
              rfl
            refine pure_ (i := 5) (N := some 82) (v := ?_) (a' := ?_) #[true, true, false, false, true, true, false, false, false, false] rfl rfl (by kernel_rfl) (fun _ _ _ h => h) (Or.inl ⟨by rfl, ?_⟩) ?_ ?_
            rotate_left
            · intro w'
              go_simp
              with_reducible rfl
            rotate_left
            · simp only [Act.put, List.setIfInBounds_toArray, List.set_cons_zero, List.set_cons_succ, i64_w, i32_w]
              rfl
            refine take_ (i := 2) (N := some 79) (v := ?_) (a' := ?_) #[true, true, true, false, true, true, false, false, false, false] rfl rfl (by kernel_rfl) (fun _ _ _ h => h) (Or.inl ⟨by rfl, ?_⟩) hHeld ?_ ?_
            rotate_left
            · intro w' s0
              go_simp
              with_reducible rfl
            rotate_left
            · simp only [Act.put, List.setIfInBounds_toArray, List.set_cons_zero, List.set_cons_succ, i64_w, i32_w]
              rfl
            refine take_ (i := 6) (N := some 83) (v := ?_) (a' := ?_) #[true, true, true, false, true, true, true, false, false, false] rfl rfl (by kernel_rfl) (fun _ _ _ h => h) (Or.inl ⟨by rfl, ?_⟩) hHeld ?_ ?_
            rotate_left
            · intro w' s0
              go_simp
              with_reducible rfl
            rotate_left
            · simp only [Act.put, List.setIfInBounds_toArray, List.set_cons_zero, List.set_cons_succ, i64_w, i32_w]
              rfl
            refine one_ (i := 3) (N := some 80) #[true, true, true, true, true, true, true, false, false, false] rfl rfl (by kernel_rfl) (by decide) (fun K hK => ?_)
            refine goes_ Try.func15 (by kernel_rfl) rfl #[.pointer (some ⟨g, 0, none⟩), .slice A l.length c] (by rfl) rfl rfl (by simp only [List.map_toArray, List.map_cons, List.map_nil]; rfl) ?_
            with_reducible refine (jput (c := c) HJ0.out HR.out hm hb (by omega)).mono ?_
            rintro e w3 ⟨rfl, hj, hk⟩
            refine ⟨_, rfl, ?_⟩
            have HJ3 := Lib.hid hj
            have HK3 := Lib.hid hk
            clear hj hk
            refine hK.out _ _ ((J.cell1 HJ3.out)) (fun hHeld => ?_)
            clear hK K
            refine norm_ (a' := ?_) ?_ ?_
            rotate_left
            · show Act.put _ (some 80) _ = _
              simp only [Act.put, List.setIfInBounds_toArray, List.set_cons_zero, List.set_cons_succ, i64_w, i32_w]
              rfl
            refine one_ (i := 7) (N := some 84) #[true, true, true, true, true, true, true, true, false, false] rfl rfl (by kernel_rfl) (by decide) (fun K hK => ?_)
            refine goes_ Try.func26 (by kernel_rfl) rfl #[.pointer (some ⟨gx, 0, none⟩), .slice A l.length c] (by rfl) rfl rfl (by simp only [List.map_toArray, List.map_cons, List.map_nil]; rfl) ?_
            with_reducible refine (jxput (c := c) HJ3.out (Kd.C_below HR.out HJ3.out.bel) hm (by omega)).mono ?_
            rintro e w4 ⟨rfl, hj, hk⟩
            refine ⟨_, rfl, ?_⟩
            have HJ4 := Lib.hid hj
            have HK4 := Lib.hid hk
            clear hj hk
            refine hK.out _ _ ((J.cell1 HJ4.out)) (fun hHeld => ?_)
            clear hK K
            refine norm_ (a' := ?_) ?_ ?_
            rotate_left
            · show Act.put _ (some 84) _ = _
              simp only [Act.put, List.setIfInBounds_toArray, List.set_cons_zero, List.set_cons_succ, i64_w, i32_w]
              rfl
            refine pure_ (i := 8) (N := some 85) (v := ?_) (a' := ?_) #[true, true, true, true, true, true, true, true, true, false] rfl rfl (by kernel_rfl) (fun _ _ _ h => h) (Or.inl ⟨by rfl, ?_⟩) ?_ ?_
            rotate_left
            · intro w'
              go_simp
              with_reducible rfl
            rotate_left
            · simp only [Act.put, List.setIfInBounds_toArray, List.set_cons_zero, List.set_cons_succ, i64_w, i32_w]
              rfl
            refine pure_ (i := 9) (N := some 6) (v := ?_) (a' := ?_) #[true, true, true, true, true, true, true, true, true, true] rfl rfl (by kernel_rfl) (fun _ _ _ h => h) (Or.inl ⟨by rfl, ?_⟩) ?_ ?_
            rotate_left
            · intro w'
              go_simp
              with_reducible rfl
            rotate_left
            · simp only [Act.put, List.setIfInBounds_toArray, List.set_cons_zero, List.set_cons_succ, i64_w, i32_w]
              rfl
            refine done_ (by kernel_rfl) ?_
            go_wp2
            go_ret
            refine ⟨by simp, _, d, _, HJ4.out.j0, hd0, by omega, hrl.1, by have := hrl.2; omega⟩
end Go.Proofs.Ytchdcklalgadhaa.Sk

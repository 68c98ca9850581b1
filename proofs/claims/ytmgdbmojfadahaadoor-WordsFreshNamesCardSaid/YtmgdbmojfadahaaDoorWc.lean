/- words.Clash: a map of texts to nothing. -/
import Derived.Test.YtmgdbmojfadahaaDoorWf
import Derived.Maps.OwnSet
import Derived.Maps.Keyed
import Derived.StringKeys
set_option linter.unusedVariables false
set_option linter.unusedSimpArgs false
namespace Go.Proofs.YtmgdbmojfadahaaDoor.Wd
open Go.RowKit Go.Proofs.YtmgdbmojfadahaaDoorW.PrintWords Go.Proofs.YtmgdbmojfadahaaDoorW.PrintLast Go.Proofs.YtmgdbmojfadahaaDoorW.PrintMore Go.Proofs.YtmgdbmojfadahaaDoor.R
open Go.Maps Go.ChangeMaps Go.WideMaps
/-- How an element of type struct{} reads. -/
def unitR (v : Value) : Option (DataW Unit × List MemPlace) :=
  match v with
  | .agg ⟨[]⟩ => some (.agg [], [])
  | _ => none
theorem keyed : Keyed Tryd.prog 9 := string_keyed Tryd.underlying9
/-- A map at block b whose keys are those that L tells. -/
def MapAt (w : World) (b n : Nat) (L : ByteArray → Bool) : Prop := ∃ D : DataW Unit, w.ownsMap Tryd.prog 9 unitR b n D ∧ ∀ s : ByteArray, s.size ≤ maxLen → has D (.string s.data.toList) = L s
theorem lit_ne {s t : ByteArray} (h : s ≠ t) : (Lit.string s.data.toList) ≠ Lit.string t.data.toList := by
  intro e
  injection e with e
  exact h (by apply ByteArray.ext; exact Array.toList_inj.1 e)
theorem zero44 (w : World) : (zeroValue 44).run Tryd.prog w = .ok (.agg #[]) w := Tryd.zeroValue44 w
section
variable {w : World} {b n : Nat} {L : ByteArray → Bool}
theorem make_run (w : World) : (Instr.makeMap 43 none).run Tryd.prog w = .ok (.map (some w.heap.size)) (w.alloc (.map #[] 0)) := by
  simp [Instr.makeMap, run_underlying Tryd.underlying43]
  try rfl
theorem map_made (w : World) : MapAt (w.alloc (.map #[] 0)) w.heap.size 0 (fun _ => false) := ⟨_, World.ownsMap_made w _ _ _, fun s _ => rfl⟩
theorem map_put (h : MapAt w b n L) (hn : n < maxLen) (s : ByteArray) (hs : s.size ≤ maxLen) :
    ∃ w', (Instr.mapUpdate 43 (.map (some b)) (.string s) (.agg #[])).run Tryd.prog w = .ok () w' ∧ MapAt w' b (n + 1) (fun x => decide (x = s) || L x) ∧ w.mapTurned w' b := by
  obtain ⟨D, hD, hL⟩ := h
  obtain ⟨w', hrun, hD', ht⟩ := hD.store keyed Tryd.underlying43 hn (keyOf_string_mk Tryd.underlying9 hs) (show unitR (.agg #[]) = some (.agg [], []) from rfl)
  refine ⟨w', hrun, ⟨_, hD', fun x hx => ?_⟩, ht⟩
  by_cases e : x = s
  · subst e
    rw [has_put_same hD.isMap (by simp [WideAt.IsKeyLit])]; simp
  · rw [has_put_other (lit_ne e), hL x hx]; simp [e]
theorem map_look (h : MapAt w b n L) (s : ByteArray) (hs : s.size ≤ maxLen) :
    (Instr.lookup 43 (.map (some b)) (.string s) true).run Tryd.prog w = .ok (.tuple #[.agg #[], .bool (L s)]) w := by
  obtain ⟨D, hD, hL⟩ := h
  obtain ⟨v, ps, hrun, hv⟩ := hD.look_ok keyed Tryd.underlying43 (zero44 w) (show unitR (.agg #[]) = some (.agg [], []) from rfl) (keyOf_string_mk Tryd.underlying9 hs)
  rw [hrun, hL s hs]
  have : v = .agg #[] := by
    unfold unitR at hv
    split at hv
    · rfl
    · cases hv
  rw [this]
theorem map_drop (h : MapAt w b n L) (s : ByteArray) (hs : s.size ≤ maxLen) (ty : TypeId) :
    ∃ w', (Builtin.delete_ #[43, 9] ty #[.map (some b), .string s]).run Tryd.prog w = .ok (.tuple #[]) w' ∧ MapAt w' b n (fun x => !decide (x = s) && L x) ∧ w.mapTurned w' b := by
  obtain ⟨D, hD, hL⟩ := h
  obtain ⟨w', hrun, hD', ht⟩ := hD.drop keyed Tryd.underlying43 (keyOf_string_mk Tryd.underlying9 hs) ty
  refine ⟨w', hrun, ⟨_, hD', fun x hx => ?_⟩, ht⟩
  by_cases e : x = s
  · subst e
    rw [has_del_same]; simp
  · rw [has_del_other (lit_ne e), hL x hx]; simp [e]
end

theorem turned_grown {w w' : World} {b : Nat} (h : w.mapTurned w' b) : w.grownBy w' (some b) := by
  obtain ⟨es, clock, es', clock', hb, rfl⟩ := h
  refine ⟨rfl, rfl, rfl, by simp [setBlock], fun k hk hne => ?_⟩
  show (w.heap.setIfInBounds b _)[k]? = _
  rw [Array.getElem?_setIfInBounds]
  rw [if_neg (fun e => hne (by rw [e]))]
theorem R_turned {w w' : World} {b n : Nat} {L : ByteArray → Bool} {base : Nat} {v : Value} {xs : List ByteArray} (hm : MapAt w b n L) (h : Kd.string.R 9 w base (fun _ => True) v xs) (ht : w.mapTurned w' b) : Kd.string.R 9 w' base (fun _ => True) v xs := by
  have hg := turned_grown ht
  obtain ⟨D, ⟨es, clock, hb, _⟩, _⟩ := hm
  refine Kd.R_mono (ok' := fun _ => True) (Kd.R_move (Kd.R_bound h) ?_) (fun _ _ => trivial)
  rintro k ⟨_, _, hlt, q, hq, cells, hc⟩
  refine hg.block k hlt ?_
  intro e
  have := Option.some.inj e
  subst this
  rw [hc] at hb
  cases hb
theorem MapAt.below {w w' : World} {b n : Nat} {L : ByteArray → Bool} (h : MapAt w b n L) (hb : Below w.heap.size w w') : MapAt w' b n L := by
  obtain ⟨D, hD, hL⟩ := h
  exact ⟨D, hD.kept (row := none) ⟨hb.os, hb.tape, hb.output, hb.size, fun k hk _ => hb.block k hk⟩ (by simp), hL⟩
theorem MapAt.grown {w w' : World} {b n : Nat} {L : ByteArray → Bool} {row : Option Nat} (h : MapAt w b n L) (hg : w.grownBy w' row) (hne : some b ≠ row) : MapAt w' b n L := by
  obtain ⟨D, hD, hL⟩ := h
  exact ⟨D, hD.kept hg hne, hL⟩
theorem MapAt.congr {w : World} {b n : Nat} {L L' : ByteArray → Bool} (h : MapAt w b n L) (hl : ∀ x, L x = L' x) : MapAt w b n L' := by
  obtain ⟨D, hD, hL⟩ := h
  exact ⟨D, hD, fun s hs => (hL s hs).trans (hl s)⟩
def C1Rel (w : World) (b : Nat) (r : Value) (l : List ByteArray) (i : Value) (wr : World) : Prop :=
  ∃ k : Nat, k ≤ l.length ∧ i = .int .i64 k ∧ MapAt wr b k (fun x => mem (l.take k) x) ∧ Kd.string.R 9 wr w.heap.size (fun _ => True) r l ∧ Below w.heap.size w wr
def step (ws out : List ByteArray) (x : ByteArray) : List ByteArray := if (mem ws x && !mem out x) = true then out ++ [x] else out
/-- The names that clash, each once, in their order. -/
def clash (ws names : List ByteArray) : List ByteArray := names.foldl (step ws) []
theorem clash_take (ws names : List ByteArray) (k : Nat) (hk : k < names.length) : clash ws (names.take (k + 1)) = step ws (clash ws (names.take k)) names[k] := by
  unfold clash
  rw [List.take_succ_eq_append_getElem hk, List.foldl_append]; rfl
theorem clash_len (ws names : List ByteArray) : (clash ws names).length ≤ names.length := by
  have : ∀ (l out : List ByteArray), (l.foldl (step ws) out).length ≤ out.length + l.length := by
    intro l
    induction l with
    | nil => intro out; simp
    | cons x r ih =>
      intro out
      have := ih (step ws out x)
      have h2 : (step ws out x).length ≤ out.length + 1 := by unfold step; split <;> simp
      simp only [List.foldl_cons, List.length_cons]; omega
  simpa [clash] using this names []
theorem infoStr : (Tryd.prog.info? 9).map (fun i => (i.zero, i.size, i.bytes)) = some (some (.string ⟨#[]⟩), 1, 16) := by kernel_rfl
theorem size_alloc (W : World) (o : Obj) : (W.alloc o).heap.size = W.heap.size + 1 := by
  show (W.heap.push o).size = _
  rw [Array.size_push]
theorem le_alloc (W : World) (o : Obj) {n : Nat} (h : n ≤ W.heap.size) : n ≤ (W.alloc o).heap.size := by
  show n ≤ (W.heap.push o).size
  rw [Array.size_push]; omega
theorem ne_map {w : World} {b n : Nat} {L : ByteArray → Bool} {base : Nat} {v : Value} {xs : List ByteArray} (hm : MapAt w b n L) (h : Kd.string.R 9 w base (fun _ => True) v xs) : some b ≠ v.ownBlock := by
  obtain ⟨D, ⟨es, clock, hb, _⟩, _⟩ := hm
  intro e
  obtain ⟨h0, _⟩ := Kd.R_bound h
  obtain ⟨_, _, _, q, _, cells, hc⟩ := h0 b e.symm
  rw [hc] at hb
  cases hb
theorem clash_left (ws out : List ByteArray) (x y : ByteArray) : (!decide (y = x) && (mem ws y && !mem out y)) = (mem ws y && !mem (out ++ [x]) y) := by
  have h : mem (out ++ [x]) y = (mem out y || decide (y = x)) := by
    unfold mem
    rw [List.any_append]
    congr 1
    by_cases e : y = x
    · subst e; simp
    · have e' : ¬ x = y := fun h => e h.symm
      simp [e, e']
  rw [h]
  cases mem ws y <;> cases mem out y <;> cases decide (y = x) <;> rfl
theorem turned_below {w W W' : World} (hb : Below w.heap.size w W) (ht : W.mapTurned W' w.heap.size) : Below w.heap.size w W' := by
  have hg := turned_grown ht
  exact ⟨hg.os.trans hb.os, hg.tape.trans hb.tape, hg.output.trans hb.output, Nat.le_trans hb.size hg.size, fun j hj => (hg.block j (Nat.lt_of_lt_of_le hj hb.size) (fun e => by have := Option.some.inj e; omega)).trans (hb.block j hj)⟩
def C2Rel (w : World) (b : Nat) (ws names : List ByteArray) (out i : Value) (wr : World) : Prop :=
  ∃ j n : Nat, j ≤ names.length ∧ i = .int .i64 j ∧ MapAt wr b n (fun x => mem ws x && !mem (clash ws (names.take j)) x) ∧ Kd.string.R 9 wr w.heap.size (fun _ => True) out (clash ws (names.take j)) ∧ Below w.heap.size w wr
theorem mem_take (l : List ByteArray) (k : Nat) (hk : k < l.length) (x : ByteArray) : mem (l.take (k + 1)) x = (decide (x = l[k]) || mem (l.take k) x) := by
  rw [List.take_succ_eq_append_getElem hk]
  unfold mem
  rw [List.any_append, Bool.or_comm]
  have : ∀ y : ByteArray, decide (y = x) = decide (x = y) := fun y => by
    by_cases e : y = x
    · subst e; rfl
    · rw [decide_eq_false e, decide_eq_false (fun e' => e e'.symm)]
  simp [this]
theorem lst_sizes (d : Int) : ∀ x ∈ lst d, x.size ≤ 1000 := by
  have h0 : ((lst 0).all fun x => decide (x.size ≤ 1000)) = true := by kernel_rfl
  have h1 : ((lst 1).all fun x => decide (x.size ≤ 1000)) = true := by kernel_rfl
  have key : ∀ l : List ByteArray, (l.all fun x => decide (x.size ≤ 1000)) = true → ∀ x ∈ l, x.size ≤ 1000 := fun l h x hx => of_decide_eq_true (List.all_eq_true.1 h x hx)
  by_cases e0 : d = 0
  · subst e0; exact key _ h0
  · by_cases e1 : d = 1
    · subst e1; exact key _ h1
    · have hl : lst d = [] := by unfold lst pantographref04_All.f; rw [if_neg e0, if_neg e1]; rfl
      rw [hl]; simp
set_option maxHeartbeats 8000000 in
set_option maxRecDepth 1000000 in
theorem clash_any (d : Int) (A : Option Addr) (c : Nat) (names : List ByteArray) (w : World) (ht : Tab w) (hr : Kd.C Kd.string w A names.length names) (ho : ∀ x ∈ names, x.size ≤ maxLen) (hl : names.length ≤ 1000) :
    Calls Tryd.prog 18 #[.int .i64 d, .slice A names.length c] w fun e w' => ∃ r, e = .returned r ∧ Kd.string.R 9 w' w.heap.size (fun _ => True) r (clash (lst d) names) ∧ Below w.heap.size w w' := by
  have HR := Lib.hid hr
  have HT := Lib.hid (tab_below ht (below_alloc (Below.refl _ _) (.map #[] 0)))
  have HM := Lib.hid (map_made w)
  have HB := Lib.hid (below_alloc (Below.refl w.heap.size w) (.map #[] 0))
  have hln := lst_len d
  have hmk := make_run w
  clear hr ht
  go_enter Tryd.func18, Tryd.ntmps18
  go_wp2_with (first | (go_at_call 9; go_must (refine (all_any d _ HT.out).mono ?_)))
  rintro e w1 ⟨r, rfl, hR, hb⟩
  have HM1 := Lib.hid (HM.out.below hb)
  have HB1 := Lib.hid (below_weaken HB.out HB.out.size hb)
  have HR1 := Lib.hid (Kd.R_lower hR HB.out.size)
  clear hR hb HM HB HT
  obtain ⟨A2, c2, rfl, hlc2, _⟩ := Kd.R_reads HR1.out
  go_wp2
  go_loopw [17] (fun i wr => C1Rel w w.heap.size (.slice A2 (lst d).length c2) (lst d) i wr) (fun i _ => (lst d).length - (intOf i).toNat)
  case atStart => exact ⟨0, Nat.zero_le _, rfl, HM1.out.congr (fun x => rfl), HR1.out, HB1.out⟩
  case round =>
    obtain ⟨k, hk, rfl, hm, hR, hb⟩ := hrel
    have HMk := Lib.hid hm
    have HRk := Lib.hid hR
    have HBk := Lib.hid hb
    clear hm hR hb HM1 HR1 HB1 hmk
    by_cases hlt : k < (lst d).length
    · obtain ⟨A3, c3, he3, _, hC⟩ := Kd.R_reads HRk.out
      injection he3 with he1 he2 he3
      subst he1
      obtain ⟨ad, rfl, hcell⟩ := at_s hC k hlt
      have hsz := lst_sizes d (lst d)[k] (List.getElem_mem _)
      obtain ⟨w5, hup, hm5, ht5⟩ := map_put HMk.out (by simp [maxLen]; omega) (lst d)[k] (by simp [maxLen]; omega)
      have HM5 := Lib.hid hm5
      have HR5 := Lib.hid (R_turned HMk.out HRk.out ht5)
      have HB5 : Hid (Below w.heap.size w w5) := Lib.hid (by
        have hg := turned_grown ht5
        exact ⟨hg.os.trans HBk.out.os, hg.tape.trans HBk.out.tape, hg.output.trans HBk.out.output, Nat.le_trans HBk.out.size hg.size, fun j hj => (hg.block j (Nat.lt_of_lt_of_le hj HBk.out.size) (fun e => by have := Option.some.inj e; omega)).trans (HBk.out.block j hj)⟩)
      clear hm5 ht5 hC
      go_wp2
      go_round
      · exact ⟨k + 1, by omega, by simp, HM5.out.congr (fun x => (mem_take (lst d) k hlt x).symm), HR5.out, HB5.out⟩
      · simp only [intOf]; omega
    · obtain rfl : k = (lst d).length := by omega
      have HM2 := Lib.hid (HMk.out.congr (L' := fun x => mem (lst d) x && !mem [] x) (fun x => by rw [List.take_length]; simp [mem]))
      clear HMk HRk
      go_wp2
      go_loopw [8, 27] (fun out i wr => C2Rel w w.heap.size (lst d) names out i wr) (fun _ i _ => names.length - (intOf i).toNat)
      case atStart => exact ⟨0, _, Nat.zero_le _, rfl, HM2.out, Kd.R_nil _ _ _ _ _, HBk.out⟩
      case round =>
        obtain ⟨j, n, hj, rfl, hm, hR, hb⟩ := hrel
        have HMj := Lib.hid hm
        have HRj := Lib.hid hR
        have HBj := Lib.hid hb
        clear hm hR hb HM2 HBk
        by_cases hlt : j < names.length
        · obtain ⟨ad, rfl, hcell⟩ := at_s (Kd.C_below HR.out HBj.out) j hlt
          have hx := ho names[j] (List.getElem_mem _)
          have hlk := map_look HMj.out names[j] hx
          have hct := clash_take (lst d) names j hlt
          have HRa := Lib.hid (Kd.R_alloc HRj.out (.cells #[] 44))
          have HMa := Lib.hid (HMj.out.below (below_alloc (Below.refl wr.heap.size wr) (.cells #[] 44)))
          have HBa := Lib.hid (below_alloc HBj.out (.cells #[] 44))
          have HNa := Lib.hid (ne_map HMa.out HRa.out)
          have hln2 := clash_len (lst d) (names.take j)
          have hln3 : (names.take j).length ≤ 1000 := by rw [List.length_take]; omega
          cases hbv : (mem (lst d) names[j] && !mem (clash (lst d) (names.take j)) names[j]) with
          | true =>
            rw [hbv] at hlk
            have hst : clash (lst d) (names.take (j + 1)) = clash (lst d) (names.take j) ++ [names[j]] := by rw [hct, step, if_pos hbv]
            go_wp2_with (first
              | ((with_reducible refine gate_builtin (b := .append) (xs := #[.tmp 38, .tmp 40]) rfl ?_); at_builtin; go_must ((refine Kd.R_append Kd.string w.heap.size rfl (.tmp 38) (.tmp 40) 22 9 (.string ⟨#[]⟩) 16 rfl Tryd.underlying22 infoStr rfl (by decide) (by omega) u8 (clash (lst d) (names.take j)) names[j] [.string names[j]] (fun _ => True) (fun _ => False) rfl ?hx ?aP (fun _ hk => hk.elim) (fun _ _ => trivial) HRa.out (Below.refl _ _) (le_alloc _ _ HBj.out.size) ?aL ?_; (case hx => show Value.slice (some ⟨wr.heap.size + 1, 0, none⟩) 1 1 = Value.slice (some ⟨(wr.alloc _).heap.size, 0, none⟩) 1 1; rw [size_alloc]); (case aP => exact rfl); (case aL => omega))); go_must (intro v1 w9 ho9 hb hg hat; rw [← hst] at ho9; have HO9 := Lib.hid ho9; have HB9 := Lib.hid (HBa.out.trans hb); have HM9 := Lib.hid (HMa.out.grown hg HNa.out); obtain ⟨w10, hdl, hmd, htd⟩ := map_drop HM9.out names[j] hx 0; have HMD := Lib.hid hmd; have HTD := Lib.hid htd; clear ho9 hb hg hat hmd htd)))
            go_round
            · refine ⟨j + 1, n, by omega, by simp, ?_, R_turned HM9.out HO9.out HTD.out, turned_below HB9.out HTD.out⟩
              rw [hst]
              exact HMD.out.congr (fun y => clash_left (lst d) (clash (lst d) (names.take j)) names[j] y)
            · simp only [intOf]; omega
          | false =>
            rw [hbv] at hlk
            have hst : clash (lst d) (names.take (j + 1)) = clash (lst d) (names.take j) := by rw [hct, step, if_neg (by rw [hbv]; simp)]
            go_wp2
            go_round
            · refine ⟨j + 1, n, by omega, by simp, ?_, ?_, HBa.out⟩
              · rw [hst]; exact HMa.out
              · rw [hst]; exact HRa.out
            · simp only [intOf]; omega
        · obtain rfl : j = names.length := by omega
          rw [List.take_length] at HRj
          go_wp2
          go_ret
          exact ⟨_, rfl, HRj.out, HBj.out⟩
end Go.Proofs.YtmgdbmojfadahaaDoor.Wd

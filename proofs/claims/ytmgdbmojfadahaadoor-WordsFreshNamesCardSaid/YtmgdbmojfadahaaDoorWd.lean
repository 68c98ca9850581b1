/- words.All, words.Is. -/
import Derived.Test.YtmgdbmojfadahaaDoorR
import Derived.Test.YtmgdbmojfadahaaDoorShelf
import Derived.Test.YtmgdbmojfadahaaDoorWs
import Derived.Deep.DeepMust
import Derived.Deep.QuietTactic
import Derived.BigQuiet
set_option linter.unusedVariables false
set_option linter.unusedSimpArgs false
namespace Go.Proofs.YtmgdbmojfadahaaDoor.Wd
open Go.RowKit Go.Proofs.YtmgdbmojfadahaaDoorW.PrintWords Go.Proofs.YtmgdbmojfadahaaDoorW.PrintLast Go.Proofs.YtmgdbmojfadahaaDoorW.PrintMore Go.Proofs.YtmgdbmojfadahaaDoor.R
/-- The table of blanks lies as the library lays it. -/
def Tab (w : World) : Prop := Lib.TabIs Tryd.prog w "strings.asciiSpace" .u8 Lib.asciiSpaceTab
theorem tab_below {w w' : World} (h : Tab w) (hb : Below w.heap.size w w') : Tab w' := by
  have hgn : Tryd.prog.globalNamed "strings.asciiSpace" = some 0 := by kernel_rfl
  unfold Tab Lib.TabIs World.var? at h ⊢
  rw [hgn] at h ⊢
  simp only [Option.bind_some] at h ⊢
  have hlt : 0 < w.heap.size := by
    rcases Nat.lt_or_ge 0 w.heap.size with h' | h'
    · exact h'
    · simp [Array.getElem?_eq_none h'] at h
  rw [hb.block 0 hlt]
  exact h
def pasS : ByteArray := ⟨#[97, 110, 100, 32, 97, 114, 114, 97, 121, 32, 98, 101, 103, 105, 110, 32, 98, 111, 111, 108, 101, 97, 110, 32, 99, 104, 97, 114, 32, 100, 105, 118, 32, 100, 111, 32, 100, 111, 119, 110, 116, 111, 32, 101, 108, 115, 101, 32, 101, 110, 100, 32, 102, 97, 108, 115, 101, 32, 102, 111, 114, 32, 102, 111, 114, 119, 97, 114, 100, 32, 102, 117, 110, 99, 116, 105, 111, 110, 32, 105, 102, 32, 105, 110, 116, 101, 103, 101, 114, 32, 109, 111, 100, 32, 110, 111, 116, 32, 111, 102, 32, 111, 114, 32, 112, 114, 111, 99, 101, 100, 117, 114, 101, 32, 112, 114, 111, 103, 114, 97, 109, 32, 114, 101, 97, 100, 32, 114, 101, 99, 111, 114, 100, 32, 114, 101, 112, 101, 97, 116, 32, 114, 101, 116, 117, 114, 110, 32, 116, 104, 101, 110, 32, 116, 111, 32, 116, 114, 117, 101, 32, 116, 121, 112, 101, 32, 117, 110, 116, 105, 108, 32, 118, 97, 114, 32, 119, 104, 105, 108, 101, 32, 119, 114, 105, 116, 101]⟩
def ceeS : ByteArray := ⟨#[98, 111, 111, 108, 32, 99, 104, 97, 114, 32, 100, 111, 32, 100, 111, 119, 110, 116, 111, 32, 101, 108, 115, 101, 32, 102, 97, 108, 115, 101, 32, 102, 111, 114, 32, 103, 101, 116, 32, 105, 102, 32, 105, 110, 116, 32, 109, 97, 105, 110, 32, 112, 114, 111, 103, 114, 97, 109, 32, 112, 117, 116, 32, 114, 101, 116, 117, 114, 110, 32, 115, 116, 114, 117, 99, 116, 32, 116, 111, 32, 116, 114, 117, 101, 32, 117, 110, 116, 105, 108, 32, 117, 112, 32, 118, 111, 105, 100, 32, 119, 104, 105, 108, 101]⟩
def lst (d : Int) : List ByteArray := (pantographref04_All.f d).getD []
theorem lst_all (d : Int) : pantographref04_All.f d = some (lst d) := by
  unfold lst pantographref04_All.f
  split
  · rfl
  · split
    · rfl
    · rfl
theorem lst_pas : (Lib.fields pasS.data.toList).map (fun l => (⟨l.toArray⟩ : ByteArray)) = lst 0 := by kernel_rfl
theorem lst_cee : (Lib.fields ceeS.data.toList).map (fun l => (⟨l.toArray⟩ : ByteArray)) = lst 1 := by kernel_rfl
theorem asciiP : ∀ (j : Nat) b, pasS.data.toList[j]? = some b → b.toNat < 128 := by
  have : (pasS.data.toList.all fun b => decide (b.toNat < 128)) = true := by kernel_rfl
  exact fun j b h => of_decide_eq_true (List.all_eq_true.1 this b (List.mem_of_getElem? h))
theorem asciiC : ∀ (j : Nat) b, ceeS.data.toList[j]? = some b → b.toNat < 128 := by
  have : (ceeS.data.toList.all fun b => decide (b.toNat < 128)) = true := by kernel_rfl
  exact fun j b h => of_decide_eq_true (List.all_eq_true.1 this b (List.mem_of_getElem? h))
/-- What All answers: a new row of the dialect's words. -/
def AllTo (d : Int) (w : World) (e : Ending) (w' : World) : Prop := ∃ r, e = .returned r ∧ Kd.string.R 9 w' w.heap.size (fun _ => True) r (lst d) ∧ Below w.heap.size w w'
theorem R_fields (w : World) (xs : List ByteArray) (hl : xs.length ≤ 1000) : Kd.string.R 9 (w.alloc (.cells (xs.map Value.string).toArray 9)) w.heap.size (fun _ => True) (.slice (some ⟨w.heap.size, 0, none⟩) xs.length xs.length) xs := by
  have hown := World.ownsRow_lit (base := w.heap.size) (e := 9) (size := 1) w (xs.map Value.string).toArray xs.length (Nat.le_refl _) (by simp [maxLen]; omega) (by simp)
  refine ⟨fun _ _ => trivial, xs.map Value.string, hown, ?_⟩
  refine ⟨by simp [Kd.string, Kd.scalar], fun j p hj => ?_⟩
  show ((xs.map Value.string).drop (j * 1)).take 1 = [.string p]
  obtain ⟨hjl, hp⟩ := List.getElem?_eq_some_iff.1 hj
  rw [Nat.mul_one, List.drop_eq_getElem_cons (by simpa using hjl)]
  simp [hp]
theorem fields_to (s : ByteArray) (d : Int) (w : World) (hs : s.size < 4294967281) (ha : ∀ (j : Nat) b, s.data.toList[j]? = some b → b.toNat < 128) (ht : Tab w) (hl : (Lib.fields s.data.toList).map (fun l => (⟨l.toArray⟩ : ByteArray)) = lst d) (hn : (lst d).length ≤ 1000) :
    Calls Tryd.prog 22 #[.string s] w (AllTo d w) := by
  refine (Tryd.strings_Fields s w hs ha ht).mono ?_
  rintro e w' ⟨he, hw⟩
  have h1 : (Lib.fields s.data.toList).map (fun l => Value.string ⟨l.toArray⟩) = (lst d).map Value.string := by rw [← hl, List.map_map]; rfl
  have h2 : (Lib.fields s.data.toList).length = (lst d).length := by rw [← hl, List.length_map]
  rw [h1] at hw
  rw [h2] at he
  subst hw
  exact ⟨_, he, R_fields w (lst d) hn, below_alloc (Below.refl _ _) _⟩
set_option maxHeartbeats 4000000 in
set_option maxRecDepth 100000 in
theorem all_any (d : Int) (w : World) (ht : Tab w) : Calls Tryd.prog 9 #[.int .i64 d] w (AllTo d w) := by
  have HT := Lib.hid ht
  clear ht
  by_cases h0 : d = 0
  · subst h0
    go_enter Tryd.func9, Tryd.ntmps9
    go_wp2_with (first | (go_at_call 22; go_must (refine (fields_to pasS 0 w (by decide) asciiP HT.out lst_pas (by decide)).mono ?_)))
    rintro e w1 ⟨r, rfl, hR, hb⟩
    have HR := Lib.hid hR
    have HB := Lib.hid hb
    clear hR hb
    go_wp2
    go_ret
    exact ⟨_, rfl, HR.out, HB.out⟩
  · by_cases h1 : d = 1
    · subst h1
      go_enter Tryd.func9, Tryd.ntmps9
      go_wp2_with (first | (go_at_call 22; go_must (refine (fields_to ceeS 1 w (by decide) asciiC HT.out lst_cee (by decide)).mono ?_)))
      rintro e w1 ⟨r, rfl, hR, hb⟩
      have HR := Lib.hid hR
      have HB := Lib.hid hb
      clear hR hb
      go_wp2
      go_ret
      exact ⟨_, rfl, HR.out, HB.out⟩
    · have hl : lst d = [] := by unfold lst pantographref04_All.f; rw [if_neg h0, if_neg h1]; rfl
      go_enter Tryd.func9, Tryd.ntmps9
      go_wp2
      go_ret
      rw [AllTo, hl]
      exact ⟨_, rfl, Kd.R_nil _ _ _ _ _, Below.refl _ _⟩

/-! ### Is -/
def mem (l : List ByteArray) (x : ByteArray) : Bool := l.any fun y => decide (y = x)
theorem mem_iff (l : List ByteArray) (x : ByteArray) : mem l x = true ↔ x ∈ l := by
  unfold mem
  rw [List.any_eq_true]
  constructor
  · rintro ⟨y, hy, he⟩
    rw [← of_decide_eq_true he]; exact hy
  · intro h
    exact ⟨x, h, decide_eq_true rfl⟩
theorem bytesLess_lt : ∀ (x y : List UInt8), Op.bytesLess x y = decide (x < y)
  | [], [] => by simp [Op.bytesLess]
  | _ :: _, [] => by simp [Op.bytesLess]
  | [], _ :: _ => by simp [Op.bytesLess]
  | a :: x, b :: y => by
    rw [Op.bytesLess, bytesLess_lt x y, Bool.eq_iff_iff]
    simp [List.cons_lt_cons_iff]
abbrev less (a b : ByteArray) : Bool := Op.bytesLess a.toList b.toList
theorem less_irrefl (a : ByteArray) : less a a = false := by
  show Op.bytesLess a.toList a.toList = false
  rw [bytesLess_lt]
  exact decide_eq_false (List.lt_irrefl _)
theorem less_trans {a b c : ByteArray} (h1 : less a b = true) (h2 : less b c = true) : less a c = true := by
  have g1 : Op.bytesLess a.toList b.toList = true := h1
  have g2 : Op.bytesLess b.toList c.toList = true := h2
  show Op.bytesLess a.toList c.toList = true
  rw [bytesLess_lt] at g1 g2 ⊢
  exact decide_eq_true (List.lt_trans (of_decide_eq_true g1) (of_decide_eq_true g2))
def Sx (l : List ByteArray) (x : ByteArray) (t : Nat) : ByteArray := if h : t < l.length then l[t] else x
/-- The halving finds just what is there. -/
theorem bs_found (l : List ByteArray) (x : ByteArray) (hs : l.Pairwise (fun a b => less a b = true)) (inst : Decidable (Lib.bsGo (fun t => Op.bytesLess (Sx l x t).toList x.toList) l.length 0 l.length < l.length ∧ Sx l x (Lib.bsGo (fun t => Op.bytesLess (Sx l x t).toList x.toList) l.length 0 l.length) = x)) :
    decide (Lib.bsGo (fun t => Op.bytesLess (Sx l x t).toList x.toList) l.length 0 l.length < l.length ∧ Sx l x (Lib.bsGo (fun t => Op.bytesLess (Sx l x t).toList x.toList) l.length 0 l.length) = x) = mem l x := by
  have hk : Lib.bsGo (fun t => Op.bytesLess (Sx l x t).toList x.toList) l.length 0 l.length = l.findIdx (fun y => !less y x) := by
    refine Lib.bsGo_spec _ _ ?_ ?_ _ _ _ (by omega) (Nat.zero_le _) List.findIdx_le_length
    · intro t ht
      have hl : t < l.length := Nat.lt_of_lt_of_le ht List.findIdx_le_length
      have := List.not_of_lt_findIdx ht
      simp only [Sx, dif_pos hl]
      simpa [less] using this
    · intro t ht
      by_cases hl : t < l.length
      · simp only [Sx, dif_pos hl]
        have hkl : l.findIdx (fun y => !less y x) < l.length := by omega
        have h1 := List.findIdx_getElem (xs := l) (p := fun y => !less y x) (w := hkl)
        simp only [Bool.not_eq_true'] at h1
        cases hc : less l[t] x with
        | false => exact hc
        | true =>
          exfalso
          rcases Nat.lt_or_ge (l.findIdx (fun y => !less y x)) t with h2 | h2
          · have h3 := List.pairwise_iff_getElem.1 hs _ _ hkl hl h2
            rw [less_trans h3 hc] at h1
            cases h1
          · have h4 : l.findIdx (fun y => !less y x) = t := by omega
            simp only [h4] at h1
            rw [h1] at hc; cases hc
      · simp only [Sx, dif_neg hl]
        exact less_irrefl x
  rw [Bool.eq_iff_iff, decide_eq_true_iff, hk, mem_iff]
  constructor
  · rintro ⟨h1, h2⟩
    simp only [Sx, dif_pos h1] at h2
    rw [← h2]
    exact List.getElem_mem _
  · intro hx
    obtain ⟨i, hi, rfl⟩ := List.getElem_of_mem hx
    have hle : l.findIdx (fun y => !less y l[i]) ≤ i := by
      rcases Nat.lt_or_ge i (l.findIdx (fun y => !less y l[i])) with h | h
      · have := List.not_of_lt_findIdx h
        rw [less_irrefl] at this
        exact absurd this (by simp)
      · exact h
    have hkl : l.findIdx (fun y => !less y l[i]) < l.length := by omega
    refine ⟨hkl, ?_⟩
    simp only [Sx, dif_pos hkl]
    rcases Nat.lt_or_ge (l.findIdx (fun y => !less y l[i])) i with h | h
    · have h3 := List.pairwise_iff_getElem.1 hs _ _ hkl hi h
      have h1 := List.findIdx_getElem (xs := l) (p := fun y => !less y l[i]) (w := hkl)
      simp only [Bool.not_eq_true'] at h1
      rw [h3] at h1; cases h1
    · have h4 : l.findIdx (fun y => !less y l[i]) = i := by omega
      simp only [h4]
theorem sorted_lst (d : Int) : (lst d).Pairwise (fun a b => less a b = true) := by
  by_cases h0 : d = 0
  · subst h0
    exact of_decide_eq_true (by kernel_rfl)
  · by_cases h1 : d = 1
    · subst h1
      exact of_decide_eq_true (by kernel_rfl)
    · have hl : lst d = [] := by unfold lst pantographref04_All.f; rw [if_neg h0, if_neg h1]; rfl
      rw [hl]
      exact List.Pairwise.nil
theorem lst_len (d : Int) : (lst d).length ≤ 1000 := by
  unfold lst pantographref04_All.f
  split
  · decide
  · split
    · decide
    · decide
theorem search_row (l : List ByteArray) (x : ByteArray) (w : World) {r : Value} {base : Nat} (hR : Kd.string.R 9 w base (fun _ => True) r l) (hs : l.Pairwise (fun a b => less a b = true)) (hl : l.length ≤ 1000) :
    Calls Tryd.prog 23 #[r, .string x] w fun e w' => ∃ i : Nat, e = .returned (.tuple #[.int .i64 i, .bool (mem l x)]) ∧ ∃ q, w' = w.drewN q := by
  obtain ⟨A, c, he, hlc, hC⟩ := Kd.R_reads hR
  obtain ⟨inner, hown⟩ := Kd.R_own hR
  rcases hown.2 with ⟨hv, h0⟩ | ⟨g, cap, cur, hv, _⟩
  · obtain rfl := List.eq_nil_of_length_eq_zero h0
    rw [hv]
    refine (Any2.slices_BinarySearch_string_empty lays26 none 0 x w).mono ?_
    rintro e w' ⟨he, hw⟩
    exact ⟨0, he, 0, hw⟩
  · rw [hv]
    have hA : A = some ⟨g, 0, none⟩ := by rw [hv] at he; injection he with h1 _ _; exact h1.symm
    subst hA
    have hcell : ∀ j, j < l.length → w.cell? ⟨g, 0 + j, none⟩ = some (.string (Sx l x j)) := by
      intro j hj
      obtain ⟨ad, h1, h2⟩ := Kd.at_string hC (j : Int) (by omega) (by omega)
      injection h1 with h1
      subst h1
      rw [show ((j : Int)).toNat = j from by omega] at h2
      rw [show (⟨g, 0 + j, none⟩ : Addr) = (⟨g, 0, none⟩ : Addr).add j from by simp [Addr.add], h2, show rdOf ByteArray.empty l (j : Int) = l.getD (j : Int).toNat ByteArray.empty from rfl]
      simp [Sx, hj]
    refine (Any2.slices_BinarySearch_string lays26 g 0 l.length cap (Sx l x) x w (by omega) hcell).mono ?_
    rintro e w' ⟨he, q, hw⟩
    rw [bs_found l x hs] at he
    exact ⟨_, he, q, hw⟩
set_option maxHeartbeats 4000000 in
set_option maxRecDepth 100000 in
theorem is_any (d : Int) (s : ByteArray) (w : World) (ht : Tab w) : Calls Tryd.prog 12 #[.int .i64 d, .string s] w fun e w' => e = .returned (.bool (mem (lst d) s)) ∧ Below w.heap.size w w' := by
  have HT := Lib.hid ht
  clear ht
  go_enter Tryd.func12, Tryd.ntmps12
  go_wp2_with (first | (go_at_call 9; go_must (refine (all_any d w HT.out).mono ?_)))
  rintro e w1 ⟨r, rfl, hR, hb⟩
  have HR := Lib.hid hR
  have HB := Lib.hid hb
  clear hR hb
  go_wp2_with (first | (go_at_call 23; go_must (refine (search_row (lst d) s _ HR.out (sorted_lst d) (lst_len d)).mono ?_)))
  rintro e w2 ⟨i, rfl, q, rfl⟩
  go_wp2
  go_ret
  exact ⟨rfl, pw_below_drewN HB.out q⟩
end Go.Proofs.YtmgdbmojfadahaaDoor.Wd

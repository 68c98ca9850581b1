/- The sink's lines: margin, Begin, End, Line. -/
import Derived.Test.YtchdcklalgadhaaSkc
import Derived.Test.YtchdcklalgadhaaShelf
set_option linter.unusedVariables false
namespace Go.Proofs.Ytchdcklalgadhaa.Sk
open Go.RowKit Go.Proofs.YtchdcklalgadhaaW.PrintWords Go.Proofs.YtchdcklalgadhaaW.PrintLast Go.Proofs.YtchdcklalgadhaaW.PrintMore

theorem infoStr : (Try.prog.info? 9).map (fun i => (i.zero, i.size, i.bytes)) = some (some (.string ⟨#[]⟩), 1, 16) := by kernel_rfl
theorem sizeStr : (Try.prog.info? 9).map (·.size) = some 1 := by kernel_rfl
abbrev Any1 : Nat → Prop := fun _ => True
/-- A row of texts is none of the sink's blocks. -/
theorem R_fr {B g : Nat} {u : Value} {bs : List UInt8} {most deep : Int} {full : Bool} {w W : World} {base : Nat} {v : Value} {xs : List ByteArray}
    (hs : Sk B g u bs most deep full w) (h : Kd.string.R 9 w base Any1 v xs) (hf : Fr g u.ownBlock w W) : Kd.string.R 9 W base Any1 v xs := by
  refine Kd.R_mono (ok' := Any1) (Kd.R_move (Kd.R_bound h) ?_) (fun _ _ => trivial)
  rintro k ⟨_, _, hlt, q, hq, cells, hc⟩
  have hq9 : q = 9 := by simpa [Kd.string, Kd.scalar] using hq
  subst hq9
  refine hf.block k hlt ?_ ?_
  · rintro rfl
    obtain ⟨_, ⟨p, _, hk⟩, _⟩ := hs
    rw [hc] at hk
    injection hk with hk
    injection hk with _ hk
    exact absurd hk (by decide)
  · intro e
    obtain ⟨_, _, ho⟩ := hs
    rcases ho.2 with ⟨rfl, _⟩ | ⟨q, cap, cur, fz, rfl, _, hh, _⟩
    · simp [Value.ownBlock] at e
    · have : k = q := by simpa [Value.ownBlock] using e
      subst this
      rw [hc] at hh
      injection hh with hh
      injection hh with _ hh
      exact absurd hh (by decide)

/-- The indentation. -/
def ind (d : Int) : ByteArray := ⟨(Lib.repeatL [32, 32] d.toNat).toArray⟩
theorem ind_size (d : Int) : (ind d).size = 2 * d.toNat := by
  have : ∀ n, (Lib.repeatL ([32, 32] : List UInt8) n).length = 2 * n := by
    intro n
    induction n with
    | zero => rfl
    | succ n ih => simp [Lib.repeatL, ih] <;> omega
  show (Lib.repeatL [32, 32] d.toNat).toArray.size = _
  simp [this]

def Row1 (w : World) (xs : List ByteArray) (e : Ending) (w' : World) : Prop := ∃ r, e = .returned r ∧ Kd.string.R 9 w' w.heap.size Any1 r xs ∧ Below w.heap.size w w'

theorem le_alloc (W : World) (o : Obj) {n : Nat} (h : n ≤ W.heap.size) : n ≤ (W.alloc o).heap.size := by
  show n ≤ (W.heap.push o).size
  rw [Array.size_push]; omega
theorem R_one (W : World) (x : ByteArray) {base : Nat} (h : base ≤ W.heap.size) : Kd.string.R 9 (W.alloc (.cells #[.string x] 9)) base Any1 (.slice (some ⟨W.heap.size, 0, none⟩) 1 1) [x] := by
  refine ⟨fun _ _ => trivial, [.string x], ?_, ?_⟩
  · have h2 := World.ownsRow_lit (base := base) (e := 9) (size := 1) W #[.string x] 1 h (by simp [maxLen]) (by simp)
    exact h2
  · refine ⟨rfl, fun j p hj => ?_⟩
    cases j with
    | zero =>
      have hp : x = p := by simpa using hj
      subst hp
      rfl
    | succ j => simp at hj

set_option maxHeartbeats 4000000 in
set_option maxRecDepth 1000000 in
theorem margin_any (B g : Nat) (v : Value) (bs : List UInt8) (most deep : Int) (full : Bool) (A : Option Addr) (c : Nat) (l : List ByteArray) (w : World) (h : Sk B g v bs most deep full w)
    (hr : Kd.C Kd.string w A l.length l) (hd0 : 0 ≤ deep) (hd : deep ≤ 1000000) (hl : l.length ≤ 1000000) :
    Calls Try.prog 21 #[.pointer (some ⟨g, 0, none⟩), .slice A l.length c] w (Row1 w (ind deep :: l)) := by
  obtain ⟨c1, c2, c3, c4⟩ := h.cell0
  obtain ⟨d, rfl⟩ := Int.eq_ofNat_of_zero_le hd0
  go_enter Try.func21, Try.ntmps21
  go_wp2_with (go_at_call 28; refine (Try.strings_Repeat ⟨#[32, 32]⟩ d w ?g1 ?g2).mono ?_)
  case g1 => omega
  case g2 => show 2 * d ≤ _; omega
  rintro e w1 rfl hb1
  rw [show (⟨(Lib.repeatL (⟨#[32, 32]⟩ : ByteArray).data.toList d).toArray⟩ : ByteArray) = ind d from rfl]
  have HR := Lib.hid (Kd.C_below hr hb1)
  have HB := Lib.hid hb1
  clear hb1 hr h c1 c2 c3 c4
  have hs1 := HB.out.size
  go_wp2_with ((with_reducible refine gate_builtin (b := .append) (xs := #[.tmp 12, .tmp 13]) rfl ?_); at_builtin; (refine Kd.R_append_rows Kd.string w.heap.size rfl (.tmp 12) (.tmp 13) 31 9 (.string ⟨#[]⟩) 16 rfl Try.underlying31 infoStr rfl (by decide) (by omega) (.slice (some ⟨w1.heap.size, 0, none⟩) 1 1) [ind d] l A l.length c Any1 (fun _ => False) rfl rfl ?aO ?aR (fun _ _ h => h) (fun _ h => h.elim) (fun _ _ => trivial) (Below.refl _ _) ?aS ?aL ?_; (case aO => exact R_one w1 _ hs1); (case aR => exact Kd.C_below HR.out (below_alloc (Below.refl _ _) _)); (case aS => exact le_alloc _ _ hs1); (case aL => show (1 + l.length) * 16 ≤ _; omega)); intro v1 w9 ho hb hg hat; have HO := Lib.hid ho; have HB2 := Lib.hid ((below_alloc HB.out _).trans hb); clear ho hb hg hat)
  go_ret
  exact ⟨_, rfl, HO.out, HB2.out⟩

theorem PutTo.pre {B g : Nat} {v : Value} {bs : List UInt8} {most deep : Int} {full : Bool} {l : List ByteArray} {w w1 : World} {e : Ending} {w' : World} (hf : Fr g v.ownBlock w w1) (h : PutTo B g v bs most deep full l w1 e w') : PutTo B g v bs most deep full l w e w' := by
  unfold PutTo at h ⊢
  split at h
  · rw [if_pos (by assumption)]; exact ⟨h.1, h.2.pre hf⟩
  · rw [if_neg (by assumption)]; exact ⟨h.1, h.2.pre hf⟩
theorem PutTo.ret {B g : Nat} {v : Value} {bs : List UInt8} {most deep : Int} {full : Bool} {l : List ByteArray} {w : World} {e : Ending} {w' : World} (h : PutTo B g v bs most deep full l w e w') : ∃ b, e = .returned (.bool b) := by
  unfold PutTo at h
  split at h
  · exact ⟨_, h.1⟩
  · exact ⟨_, h.1⟩
theorem put_any (B g : Nat) (v : Value) (bs : List UInt8) (most deep : Int) (full : Bool) (A : Option Addr) (c : Nat) (l : List ByteArray) (w : World) (h : Sk B g v bs most deep full w) (hBw : B ≤ w.heap.size)
    (hr0 : ∀ W, Fr g v.ownBlock w W → Kd.C Kd.string W A l.length l) (hm0 : 0 ≤ most) (hm1 : most ≤ 9223372036854775807) (hb : bs.length + (cat l).length ≤ 140737488355328) :
    Calls Try.prog 15 #[.pointer (some ⟨g, 0, none⟩), .slice A l.length c] w (PutTo B g v bs most deep full l w) := by
  cases full with
  | true => exact put_full B g v bs most deep A l.length c l w h
  | false => exact put_room B g v bs most deep A c l w h hBw hr0 hm0 hm1 hb
/-- Put of a row of the call's own. -/
theorem put_row (B g : Nat) (v : Value) (bs : List UInt8) (most deep : Int) (full : Bool) (r : Value) (l : List ByteArray) (base : Nat) (w : World) (h : Sk B g v bs most deep full w) (hBw : B ≤ w.heap.size)
    (hr : Kd.string.R 9 w base Any1 r l) (hm0 : 0 ≤ most) (hm1 : most ≤ 9223372036854775807) (hb : bs.length + (cat l).length ≤ 140737488355328) :
    Calls Try.prog 15 #[.pointer (some ⟨g, 0, none⟩), r] w (PutTo B g v bs most deep full l w) := by
  obtain ⟨A, c, rfl, _, _⟩ := Kd.R_reads hr
  refine put_any B g v bs most deep full A c l w h hBw (fun W hf => ?_) hm0 hm1 hb
  obtain ⟨A2, c2, he, _, hc⟩ := Kd.R_reads (R_fr h hr hf)
  injection he with h1 h2 h3
  subst h1
  exact hc

set_option maxHeartbeats 4000000 in
set_option maxRecDepth 1000000 in
theorem begin_any (B g : Nat) (v : Value) (bs : List UInt8) (most deep : Int) (full : Bool) (A : Option Addr) (c : Nat) (l : List ByteArray) (w : World) (h : Sk B g v bs most deep full w) (hBw : B ≤ w.heap.size)
    (hr : Kd.C Kd.string w A l.length l) (hd0 : 0 ≤ deep) (hd : deep ≤ 1000000) (hl : l.length ≤ 1000000) (hm0 : 0 ≤ most) (hm1 : most ≤ 9223372036854775807) (hb : bs.length + (cat (ind deep :: l)).length ≤ 140737488355328) :
    Calls Try.prog 18 #[.pointer (some ⟨g, 0, none⟩), .slice A l.length c] w (PutTo B g v bs most deep full (ind deep :: l) w) := by
  have HS := Lib.hid h
  have HR := Lib.hid hr
  clear h hr
  go_enter Try.func18, Try.ntmps18
  go_wp2_with (go_at_call 21; refine (margin_any B g v bs most deep full A c l w HS.out HR.out hd0 hd hl).mono ?_)
  rintro e w1 ⟨r, rfl, ho, hb1⟩
  have HB := Lib.hid hb1
  have HO := Lib.hid ho
  have hs1 := hb1.size
  clear ho hb1
  go_wp2_with (go_at_call 15; refine (put_row B g v bs most deep full r (ind deep :: l) _ w1 (HS.out.below HB.out) (Nat.le_trans hBw hs1) HO.out hm0 hm1 hb).mono ?_)
  intro e w2 hp
  have HP := Lib.hid (hp.pre (Fr.of_below _ _ HB.out))
  clear hp
  obtain ⟨b, rfl⟩ := HP.out.ret
  go_wp2
  go_ret
  exact HP.out

set_option maxHeartbeats 4000000 in
set_option maxRecDepth 1000000 in
theorem line_any (B g : Nat) (v : Value) (bs : List UInt8) (most deep : Int) (full : Bool) (A : Option Addr) (c : Nat) (l : List ByteArray) (w : World) (h : Sk B g v bs most deep full w) (hBw : B ≤ w.heap.size)
    (hr : Kd.C Kd.string w A l.length l) (hd0 : 0 ≤ deep) (hd : deep ≤ 1000000) (hl : l.length ≤ 1000000) (hm0 : 0 ≤ most) (hm1 : most ≤ 9223372036854775807) (hb : bs.length + (cat (ind deep :: l ++ [⟨#[10]⟩])).length ≤ 140737488355328) :
    Calls Try.prog 12 #[.pointer (some ⟨g, 0, none⟩), .slice A l.length c] w (PutTo B g v bs most deep full (ind deep :: l ++ [⟨#[10]⟩]) w) := by
  have HS := Lib.hid h
  have HR := Lib.hid hr
  clear h hr
  go_enter Try.func12, Try.ntmps12
  go_wp2_with (go_at_call 21; refine (margin_any B g v bs most deep full A c l w HS.out HR.out hd0 hd hl).mono ?_)
  rintro e w1 ⟨r, rfl, ho, hb1⟩
  have HB := Lib.hid hb1
  have HO := Lib.hid ho
  have hs1 := hb1.size
  clear ho hb1
  go_wp2_with ((with_reducible refine gate_builtin (b := .append) (xs := #[.tmp 8, .tmp 9]) rfl ?_); at_builtin; (refine Kd.R_append Kd.string w.heap.size rfl (.tmp 8) (.tmp 9) 31 9 (.string ⟨#[]⟩) 16 rfl Try.underlying31 infoStr rfl (by decide) (by omega) r (ind deep :: l) (⟨#[10]⟩ : ByteArray) [.string (⟨#[10]⟩ : ByteArray)] Any1 (fun _ => False) rfl rfl ?aP (fun _ hk => hk.elim) (fun _ _ => trivial) HO.out (Below.refl _ _) hs1 ?aL ?_; (case aP => exact rfl); (case aL => show (l.length + 1 + 1) * 16 ≤ _; omega)); intro v1 w9 ho hb hg hat; have HO2 := Lib.hid ho; have HB2 := Lib.hid (HB.out.trans hb); have hs9 := HB2.out.size; clear ho hb hg hat HO)
  go_wp2_with (go_at_call 15; refine (put_row B g v bs most deep full v1 (ind deep :: l ++ [⟨#[10]⟩]) _ w9 (HS.out.below HB2.out) (Nat.le_trans hBw hs9) HO2.out hm0 hm1 hb).mono ?_)
  intro e w2 hp
  have HP := Lib.hid (hp.pre (Fr.of_below _ _ HB2.out))
  clear hp
  obtain ⟨b, rfl⟩ := HP.out.ret
  go_wp2
  go_ret
  exact HP.out

theorem made_string (n : Nat) : madeCells (Value.string ⟨#[]⟩).cells n = Array.replicate n (.string ⟨#[]⟩) := by
  apply Array.ext
  · simp [size_madeCells]
  · intro j h1 h2
    simp [madeCells, Value.cells, Nat.mod_one]
theorem R_make_cap (W : World) (n c : Nat) {base : Nat} (h : base ≤ W.heap.size) (hnc : n ≤ c) (hm : c ≤ maxLen) :
    Kd.string.R 9 (W.alloc (.cells (madeCells (Value.string ⟨#[]⟩).cells (c * 1)) 9)) base Any1 (.slice (some ⟨W.heap.size, 0, none⟩) n c) (List.replicate n ⟨#[]⟩) := by
  refine ⟨fun _ _ => trivial, List.replicate n (.string ⟨#[]⟩), ?_, ?_⟩
  · refine ⟨by simp [Kd.string, Kd.scalar], .inr ⟨W.heap.size, c, _, by simp, h, heap_alloc_new W _, by simpa using hnc, hm, by simp [size_madeCells, Kd.string, Kd.scalar], ?_⟩⟩
    rw [made_string]
    simp [Kd.string, Kd.scalar, List.take_replicate, hnc]
  · refine ⟨by simp [Kd.string, Kd.scalar], fun j p hj => ?_⟩
    obtain ⟨hjl, hp⟩ := List.getElem?_eq_some_iff.1 hj
    have hp' : (⟨#[]⟩ : ByteArray) = p := by simpa using hp
    subst hp'
    have hjn : j < n := by simpa using hjl
    show ((List.replicate n (Value.string ⟨#[]⟩)).drop (j * 1)).take 1 = [.string ⟨#[]⟩]
    rw [Nat.mul_one, List.drop_replicate, List.take_replicate, Nat.min_eq_left (by omega)]
    rfl

theorem make_cap (w : World) (n : Nat) (hl : n ≤ 1000000) : (Instr.makeSlice 31 (.int .i64 (n : Int)) (.int .i64 ((n : Int) + 1))).run Try.prog w = .ok (.slice (some ⟨w.heap.size, 0, none⟩) n (n + 1)) (w.alloc (.cells (madeCells (Value.string ⟨#[]⟩).cells ((n + 1) * 1)) 9)) := by
  obtain ⟨i0, hi, hzz⟩ := Option.map_eq_some_iff.1 infoStr
  simp only [Prod.mk.injEq] at hzz
  obtain ⟨hz0, hz1, hz2⟩ := hzz
  have := run_make (P := Try.prog) w 31 9 i0 _ Try.underlying31 hi hz0 .i64 .i64 (n : Int) ((n : Int) + 1) (by omega) (by omega) (by rw [hz2]; omega) (by omega)
  rw [hz1] at this
  rw [show ((n : Int)).toNat = n from by omega, show ((n : Int) + 1).toNat = n + 1 from by omega] at this
  exact this
set_option maxHeartbeats 4000000 in
set_option maxRecDepth 1000000 in
theorem end_any (B g : Nat) (v : Value) (bs : List UInt8) (most deep : Int) (full : Bool) (A : Option Addr) (c : Nat) (l : List ByteArray) (w : World) (h : Sk B g v bs most deep full w) (hBw : B ≤ w.heap.size)
    (hr : Kd.C Kd.string w A l.length l) (hl : l.length ≤ 1000000) (hm0 : 0 ≤ most) (hm1 : most ≤ 9223372036854775807) (hb : bs.length + (cat (l ++ [⟨#[10]⟩])).length ≤ 140737488355328) :
    Calls Try.prog 19 #[.pointer (some ⟨g, 0, none⟩), .slice A l.length c] w (PutTo B g v bs most deep full (l ++ [⟨#[10]⟩]) w) := by
  have HS := Lib.hid h
  have HR := Lib.hid hr
  have HK := Lib.hid (R_make_cap w l.length (l.length + 1) (base := w.heap.size) (Nat.le_refl _) (by omega) (by simp [maxLen]; omega))
  have HB := Lib.hid (below_alloc (Below.refl w.heap.size w) (.cells (madeCells (Value.string ⟨#[]⟩).cells ((l.length + 1) * 1)) 9))
  have hmk := make_cap w l.length hl
  generalize hW : w.alloc (.cells (madeCells (Value.string ⟨#[]⟩).cells ((l.length + 1) * 1)) 9) = w1 at *
  clear hW h hr
  have hs1 := HB.out.size
  go_enter Try.func19, Try.ntmps19
  go_wp2_with (first | ((with_reducible refine gate_builtin (b := .copy) (xs := #[.tmp 12, .tmp 13]) rfl ?_); (refine Kd.R_copy (⟨#[]⟩ : ByteArray) w.heap.size rfl (.tmp 12) (.tmp 13) 31 31 9 rfl Try.underlying31 sizeStr _ _ l A l.length c Any1 rfl rfl HK.out (Kd.C_below HR.out HB.out) (Below.refl _ _) hs1 ?_); intro w2 ho hb2 hg; (rw [show List.take (min l.length (List.replicate l.length (⟨#[]⟩ : ByteArray)).length) l ++ List.drop (min l.length (List.replicate l.length (⟨#[]⟩ : ByteArray)).length) (List.replicate l.length (⟨#[]⟩ : ByteArray)) = l from by simp] at ho); have HO : Hid (Kd.string.R 9 w2 w.heap.size Any1 (.slice (some ⟨w.heap.size, 0, none⟩) l.length (l.length + 1)) l) := Lib.hid ho; have HB3 := Lib.hid (HB.out.trans hb2); have hs2 := HB3.out.size; clear ho hb2 hg HK HB) | ((with_reducible refine gate_builtin (b := .append) (xs := #[.tmp 16, .tmp 17]) rfl ?_); at_builtin; (refine Kd.R_append Kd.string w.heap.size rfl (.tmp 16) (.tmp 17) 31 9 (.string ⟨#[]⟩) 16 rfl Try.underlying31 infoStr rfl (by decide) (by omega) (.slice (some ⟨w.heap.size, 0, none⟩) l.length (l.length + 1)) l (⟨#[10]⟩ : ByteArray) [.string (⟨#[10]⟩ : ByteArray)] Any1 (fun _ => False) rfl rfl ?aP (fun _ hk => hk.elim) (fun _ _ => trivial) HO.out (Below.refl _ _) hs2 ?aL ?_; (case aP => exact rfl); (case aL => show (l.length + 1) * 16 ≤ _; omega)); intro v1 w9 ho hb hg hat; have HO2 := Lib.hid ho; have HB2 := Lib.hid (HB3.out.trans hb); have hs9 := HB2.out.size; clear ho hb hg hat HO))
  go_wp2_with (go_at_call 15; refine (put_row B g v bs most deep full v1 (l ++ [⟨#[10]⟩]) _ w9 (HS.out.below HB2.out) (Nat.le_trans hBw hs9) HO2.out hm0 hm1 hb).mono ?_)
  intro e w4 hp
  have HP := Lib.hid (hp.pre (Fr.of_below _ _ HB2.out))
  clear hp
  obtain ⟨b, rfl⟩ := HP.out.ret
  go_wp2
  go_ret
  exact HP.out
end Go.Proofs.Ytchdcklalgadhaa.Sk

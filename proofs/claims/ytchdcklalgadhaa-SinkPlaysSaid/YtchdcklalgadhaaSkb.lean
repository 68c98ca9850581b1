/- strings.Builder.String at a sink: the bytes are frozen, the sink is one still. -/
import Derived.Test.YtchdcklalgadhaaSk
set_option linter.unusedVariables false
namespace Go.Proofs.Ytchdcklalgadhaa.Sk
open Go.RowKit Go.Proofs.YtchdcklalgadhaaW.PrintWords Go.Proofs.YtchdcklalgadhaaW.PrintLast Go.Proofs.YtchdcklalgadhaaW.PrintMore

theorem Sk.freeze {B g gr cap : Nat} {bs : List UInt8} {most deep : Int} {full : Bool} {w : World} (h : Sk B g (.slice (some ⟨gr, 0, none⟩) bs.length cap) bs most deep full w) :
    Sk B g (.slice (some ⟨gr, 0, none⟩) bs.length cap) bs most deep full (w.freeze ⟨gr, 0, none⟩ bs.length) ∧ Fr g (some gr) w (w.freeze ⟨gr, 0, none⟩ bs.length) := by
  have hne := h.ne
  obtain ⟨hB, ⟨p, hp, hb⟩, hown⟩ := h
  have hgb : gr ≠ g := fun e => hne (by simp [Value.ownBlock, e])
  unfold World.freeze
  split
  · exact ⟨⟨hB, ⟨p, hp, hb⟩, hown⟩, Fr.refl _ _ _⟩
  · rename_i hn0
    refine ⟨⟨hB, ⟨p, hp, ?_⟩, ⟨hown.1, ?_⟩⟩, ⟨rfl, rfl, rfl, by simp, fun k hk _ hr => ?_⟩⟩
    · simp only [Array.getElem?_modify]
      rw [if_neg hgb]
      exact hb
    · rcases hown.2 with ⟨hv, _⟩ | ⟨g', cap', cur, fz, hv, hbg, hg, hfz, rest⟩
      · cases hv
      · injection hv with ha _ hcap
        injection ha with ha
        injection ha with hgg _ _
        subst hgg
        subst hcap
        obtain ⟨lo, hi⟩ := fz
        refine .inr ⟨gr, _, cur, (if lo == hi then (0, 0 + bs.length) else (min lo 0, max hi (0 + bs.length))), rfl, hbg, ?_, ?_, rest⟩
        · simp [Array.getElem?_modify, hg]
        · simp only at hfz
          split <;> simp <;> omega
    · simp only [Array.getElem?_modify]
      rw [if_neg (fun e => hr (by rw [← e]))]

/-- What String answers, and what it leaves. -/
def StrTo (B g : Nat) (v : Value) (bs : List UInt8) (most deep : Int) (full : Bool) (w : World) (e : Ending) (w' : World) : Prop :=
  e = .returned (.string ⟨bs.toArray⟩) ∧ Sk B g v bs most deep full w' ∧ Fr g v.ownBlock w w'

set_option maxHeartbeats 2000000 in
set_option maxRecDepth 100000 in
theorem string_some (B g gr cap : Nat) (bs : List UInt8) (most deep : Int) (full : Bool) (w : World) (h : Sk B g (.slice (some ⟨gr, 0, none⟩) bs.length cap) bs most deep full w) (h0 : bs ≠ []) :
    Calls Try.prog 22 #[.pointer (some ⟨g, 0, none⟩)] w (StrTo B g (.slice (some ⟨gr, 0, none⟩) bs.length cap) bs most deep full w) := by
  have hl0 : bs.length ≠ 0 := by simpa using h0
  have hkeep := Lib.hid (Sk.freeze h.drew)
  obtain ⟨hB, ⟨p, hp, hb⟩, hown⟩ := h
  obtain ⟨cur, fz, hbg, hg, hfz, hnc, hcm, hcs, htake⟩ : ∃ cur fz, B ≤ gr ∧ w.heap[gr]? = some (.cells cur 5 fz) ∧ fz.2 ≤ bs.length * 1 ∧ bs.length ≤ cap ∧ cap ≤ maxLen ∧ cur.size = cap * 1 ∧ cur.toList.take (bs.length * 1) = Lib.byteCells bs := by
    rcases hown.2 with ⟨hz, _⟩ | ⟨g', cap', cur, fz, hv, r⟩
    · cases hz
    · injection hv with ha _ hcap
      injection ha with ha
      injection ha with hgg _ _
      subst hgg
      subst hcap
      exact ⟨cur, fz, r⟩
  have c1 : w.drew.cell? ⟨g, 1, none⟩ = some (.slice (some ⟨gr, 0, none⟩) bs.length cap) := (blk_cell (w := w.drew) hb 1).trans rfl
  have c0 : w.cell? ⟨g, 1, none⟩ = some (.slice (some ⟨gr, 0, none⟩) bs.length cap) := (blk_cell hb 1).trans rfl
  have hSD : (Builtin.unsafeSliceData_ #[43] 56 #[.slice (some ⟨gr, 0, none⟩) bs.length cap]).run Try.prog w.drew = .ok (.pointer (some ⟨gr, 0, none⟩)) w.drew :=
    Lib.run_unsafeSliceData_row _ _ _ _ _ _ (by omega)
  have hUS : (Builtin.unsafeString_ #[56, 3] 9 #[.pointer (some ⟨gr, 0, none⟩), .int .i64 bs.length]).run Try.prog w.drew = .ok (.string ⟨bs.toArray⟩) (w.drew.freeze ⟨gr, 0, none⟩ bs.length) := by
    refine Lib.run_unsafeString_row w.drew 56 3 9 5 Try.underlying56 (by kernel_rfl) gr cur.size (by have hg' : w.drew.heap[gr]? = some (.cells cur 5 fz) := hg; simp [World.shape?, hg']) bs h0 (by omega) (by unfold maxLen at hcm; omega) ?_
    intro j x hx
    have := hown.cells (g := gr) rfl j (.int .u8 x.toNat) (by simp [Lib.byteCells, hx])
    exact this
  clear hown hbg hg hfz hnc hcm hcs htake hp
  have mixed : Try.prog.follows Departure.mixedOrders = true := by kernel_rfl
  go_enter Try.func22, Try.ntmps22
  go_wp2
  go_region_o
  all_goals (go_wp2; go_ret; exact ⟨rfl, hkeep.out.1, Fr.trans ((Fr.refl _ _ w).drew) hkeep.out.2 (.inl rfl)⟩)

set_option maxHeartbeats 2000000 in
set_option maxRecDepth 100000 in
theorem string_nil (B g : Nat) (most deep : Int) (full : Bool) (w : World) (h : Sk B g (.slice none 0 0) [] most deep full w) :
    Calls Try.prog 22 #[.pointer (some ⟨g, 0, none⟩)] w (StrTo B g (.slice none 0 0) [] most deep full w) := by
  have hkeep := Lib.hid h
  obtain ⟨hB, ⟨p, hp, hb⟩, hown⟩ := h
  have hUS : ∀ (W : World) (q : Option Addr), (Builtin.unsafeString_ #[56, 3] 9 #[.pointer q, .int .i64 0]).run Try.prog W = .ok (.string .empty) W := fun W q => Lib.run_unsafeString_none W _ _ _ q
  have c1 : w.drew.cell? ⟨g, 1, none⟩ = some (.slice none 0 0) := (blk_cell (w := w.drew) hb 1).trans rfl
  have c0 : w.cell? ⟨g, 1, none⟩ = some (.slice none 0 0) := (blk_cell hb 1).trans rfl
  have hSD : (Builtin.unsafeSliceData_ #[43] 56 #[.slice none 0 0]).run Try.prog w.drew = .ok (.pointer none) w.drew := rfl
  clear hown hp
  have mixed : Try.prog.follows Departure.mixedOrders = true := by kernel_rfl
  go_enter Try.func22, Try.ntmps22
  go_wp2
  go_region_o
  all_goals (go_wp2; go_ret; exact ⟨rfl, hkeep.out.drew, (Fr.refl _ _ w).drew⟩)

set_option maxHeartbeats 2000000 in
set_option maxRecDepth 100000 in
theorem string_room (B g gr cap : Nat) (hc0 : cap ≠ 0) (most deep : Int) (full : Bool) (w : World) (h : Sk B g (.slice (some ⟨gr, 0, none⟩) 0 cap) [] most deep full w) :
    Calls Try.prog 22 #[.pointer (some ⟨g, 0, none⟩)] w (StrTo B g (.slice (some ⟨gr, 0, none⟩) 0 cap) [] most deep full w) := by
  have hkeep := Lib.hid h
  obtain ⟨hB, ⟨p, hp, hb⟩, hown⟩ := h
  have hUS : ∀ (W : World) (q : Option Addr), (Builtin.unsafeString_ #[56, 3] 9 #[.pointer q, .int .i64 0]).run Try.prog W = .ok (.string .empty) W := fun W q => Lib.run_unsafeString_none W _ _ _ q
  have c1 : w.drew.cell? ⟨g, 1, none⟩ = some (.slice (some ⟨gr, 0, none⟩) 0 cap) := (blk_cell (w := w.drew) hb 1).trans rfl
  have c0 : w.cell? ⟨g, 1, none⟩ = some (.slice (some ⟨gr, 0, none⟩) 0 cap) := (blk_cell hb 1).trans rfl
  have hSD : (Builtin.unsafeSliceData_ #[43] 56 #[.slice (some ⟨gr, 0, none⟩) 0 cap]).run Try.prog w.drew = .ok (.pointer (some ⟨gr, 0, none⟩)) w.drew := Lib.run_unsafeSliceData_row _ _ _ _ _ _ hc0
  clear hown hp hc0
  have mixed : Try.prog.follows Departure.mixedOrders = true := by kernel_rfl
  go_enter Try.func22, Try.ntmps22
  go_wp2
  go_region_o
  all_goals (go_wp2; go_ret; exact ⟨rfl, hkeep.out.drew, (Fr.refl _ _ w).drew⟩)

set_option maxHeartbeats 2000000 in
set_option maxRecDepth 100000 in
theorem string_noroom (B g gr : Nat) (most deep : Int) (full : Bool) (w : World) (h : Sk B g (.slice (some ⟨gr, 0, none⟩) 0 0) [] most deep full w) :
    Calls Try.prog 22 #[.pointer (some ⟨g, 0, none⟩)] w (StrTo B g (.slice (some ⟨gr, 0, none⟩) 0 0) [] most deep full w) := by
  have hkeep := Lib.hid h
  have hlt := h.lt
  obtain ⟨hB, ⟨p, hp, hb⟩, hown⟩ := h
  obtain ⟨cur, fz, hg⟩ : ∃ cur fz, w.heap[gr]? = some (.cells cur 5 fz) := by
    rcases hown.2 with ⟨hz, _⟩ | ⟨g', cap', cur, fz, hv, _, hg, _⟩
    · cases hz
    · injection hv with ha _ hcap
      injection ha with ha
      injection ha with hgg _ _
      subst hgg
      exact ⟨cur, fz, hg⟩
  have hUS : ∀ (W : World) (q : Option Addr), (Builtin.unsafeString_ #[56, 3] 9 #[.pointer q, .int .i64 0]).run Try.prog W = .ok (.string .empty) W := fun W q => Lib.run_unsafeString_none W _ _ _ q
  have c1 : w.drew.cell? ⟨g, 1, none⟩ = some (.slice (some ⟨gr, 0, none⟩) 0 0) := (blk_cell (w := w.drew) hb 1).trans rfl
  have c0 : w.cell? ⟨g, 1, none⟩ = some (.slice (some ⟨gr, 0, none⟩) 0 0) := (blk_cell hb 1).trans rfl
  have hSD : (Builtin.unsafeSliceData_ #[43] 56 #[.slice (some ⟨gr, 0, none⟩) 0 0]).run Try.prog w.drew = .ok (.pointer (some ⟨w.drew.heap.size, 0, none⟩)) (w.drew.alloc (.view ⟨gr, 0, none⟩ 5)) :=
    Lib.run_unsafeSliceData_zero w.drew _ _ 5 Try.underlying56 ⟨gr, 0, none⟩ 0 (5, cur.size) (by have hg' : w.drew.heap[gr]? = some (.cells cur 5 fz) := hg; simp [World.shape?, hg'])
  have c2 : (w.drew.alloc (.view ⟨gr, 0, none⟩ 5)).cell? ⟨g, 1, none⟩ = some (.slice (some ⟨gr, 0, none⟩) 0 0) := (blk_cell ((Lib.alloc_old w.drew _ g hlt).trans hb) 1).trans rfl
  have c3 : (w.alloc (.view ⟨gr, 0, none⟩ 5)).drew.cell? ⟨g, 1, none⟩ = some (.slice (some ⟨gr, 0, none⟩) 0 0) := c2
  clear hown hp hg
  have mixed : Try.prog.follows Departure.mixedOrders = true := by kernel_rfl
  go_enter Try.func22, Try.ntmps22
  go_wp2
  go_region_o
  all_goals (go_wp2; go_ret; exact ⟨rfl, hkeep.out.drew.alloc _, Fr.of_below _ _ (below_alloc (below_drew (Below.refl _ _)) _)⟩)

theorem bstring (B g : Nat) (v : Value) (bs : List UInt8) (most deep : Int) (full : Bool) (w : World) (h : Sk B g v bs most deep full w) :
    Calls Try.prog 22 #[.pointer (some ⟨g, 0, none⟩)] w (StrTo B g v bs most deep full w) := by
  have h' := h
  obtain ⟨hB, _, hown⟩ := h
  rcases hown.2 with ⟨rfl, hn⟩ | ⟨gr, cap, cur, fz, rfl, _⟩
  · obtain rfl := List.eq_nil_of_length_eq_zero hn
    exact string_nil B g most deep full w h'
  · cases bs with
    | nil =>
      by_cases hc0 : cap = 0
      · subst hc0; exact string_noroom B g gr most deep full w h'
      · exact string_room B g gr cap hc0 most deep full w h'
    | cons x r => exact string_some B g gr cap (x :: r) most deep full w h' (by simp)
end Go.Proofs.Ytchdcklalgadhaa.Sk

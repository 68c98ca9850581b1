/- The sink that is none; the document's example. -/
import Derived.Test.YtchdcklalgadhaaSkd
set_option linter.unusedVariables false
namespace Go.Proofs.Ytchdcklalgadhaa.Sk
open Go.RowKit Go.Proofs.YtchdcklalgadhaaW.PrintWords Go.Proofs.YtchdcklalgadhaaW.PrintLast Go.Proofs.YtchdcklalgadhaaW.PrintMore

/-- A literal's row is read. -/
theorem C_lit (W : World) (xs : List ByteArray) (inner : Array Value) (hi : inner = (xs.map Value.string).toArray) (hm : xs.length ≤ 1000000) : Kd.string.C (W.alloc (.cells inner 9)) (some ⟨W.heap.size, 0, none⟩) xs.length xs := by
  subst hi
  have hown := World.ownsRow_lit (base := W.heap.size) (e := 9) (size := 1) W (xs.map Value.string).toArray xs.length (Nat.le_refl _) (by simp [maxLen]; omega) (by simp)
  have hR : Kd.string.R 9 (W.alloc (.cells (xs.map Value.string).toArray 9)) W.heap.size Any1 (.slice (some ⟨W.heap.size, 0, none⟩) xs.length xs.length) xs := by
    refine ⟨fun _ _ => trivial, xs.map Value.string, hown, ?_⟩
    refine ⟨by simp [Kd.string, Kd.scalar], fun j p hj => ?_⟩
    show ((xs.map Value.string).drop (j * 1)).take 1 = [.string p]
    obtain ⟨hjl, hp⟩ := List.getElem?_eq_some_iff.1 hj
    rw [Nat.mul_one, List.drop_eq_getElem_cons (by simpa using hjl)]
    simp [hp]
  obtain ⟨A, c, he, _, hc⟩ := Kd.R_reads hR
  injection he with h1 h2 h3
  subst h1
  exact hc

section
variable (w : World)
def RetW (v : Value) (w : World) (e : Ending) (w' : World) : Prop := e = .returned v ∧ w = w'
set_option maxHeartbeats 1000000 in
theorem in_nil : Calls Try.prog 10 #[.pointer none] w (RetW (.tuple #[]) w) := by
  go_enter Try.func10, Try.ntmps10
  go_wp2
  go_end0
  exact ⟨rfl, rfl⟩
set_option maxHeartbeats 1000000 in
theorem out_nil : Calls Try.prog 11 #[.pointer none] w (RetW (.tuple #[]) w) := by
  go_enter Try.func11, Try.ntmps11
  go_wp2
  go_end0
  exact ⟨rfl, rfl⟩
set_option maxHeartbeats 1000000 in
theorem put_nil (v : Value) : Calls Try.prog 15 #[.pointer none, v] w (RetW (.bool false) w) := by
  go_enter Try.func15, Try.ntmps15
  go_wp2
  go_ret
  exact ⟨rfl, rfl⟩
set_option maxHeartbeats 1000000 in
theorem len_nil : Calls Try.prog 16 #[.pointer none] w (RetW (.int .i64 0) w) := by
  go_enter Try.func16, Try.ntmps16
  go_wp2
  go_ret
  exact ⟨rfl, rfl⟩
set_option maxHeartbeats 1000000 in
theorem full_nil : Calls Try.prog 17 #[.pointer none] w (RetW (.bool true) w) := by
  go_enter Try.func17, Try.ntmps17
  go_wp2
  go_ret
  exact ⟨rfl, rfl⟩
set_option maxHeartbeats 1000000 in
theorem str_nil : Calls Try.prog 13 #[.pointer none] w (RetW (.string ⟨#[]⟩) w) := by
  go_enter Try.func13, Try.ntmps13
  go_wp2
  go_ret
  exact ⟨rfl, rfl⟩
set_option maxHeartbeats 1000000 in
theorem margin_nil (v : Value) : Calls Try.prog 21 #[.pointer none, v] w (RetW (.slice none 0 0) w) := by
  go_enter Try.func21, Try.ntmps21
  go_wp2
  go_ret
  exact ⟨rfl, rfl⟩
end
def RetB (v : Value) (w : World) (e : Ending) (w' : World) : Prop := e = .returned v ∧ Below w.heap.size w w'
set_option maxHeartbeats 1000000 in
theorem begin_nil (v : Value) (w : World) : Calls Try.prog 18 #[.pointer none, v] w (RetB (.bool false) w) := by
  go_enter Try.func18, Try.ntmps18
  go_wp2_with (first | (go_at_call 21; refine (margin_nil _ _).mono ?_; rintro e w1 ⟨rfl, rfl⟩) | (go_at_call 15; refine (put_nil _ _).mono ?_; rintro e w1 ⟨rfl, rfl⟩))
  go_ret
  exact ⟨rfl, Below.refl _ _⟩
set_option maxHeartbeats 2000000 in
set_option maxRecDepth 1000000 in
theorem line_nil (v : Value) (w : World) : Calls Try.prog 12 #[.pointer none, v] w (RetB (.bool false) w) := by
  go_enter Try.func12, Try.ntmps12
  go_wp2_with (first | (go_at_call 21; refine (margin_nil _ _).mono ?_; rintro e w1 ⟨rfl, rfl⟩) | ((with_reducible refine gate_builtin (b := .append) (xs := #[.tmp 8, .tmp 9]) rfl ?_); at_builtin; (refine Kd.R_append Kd.string w.heap.size rfl (.tmp 8) (.tmp 9) 31 9 (.string ⟨#[]⟩) 16 rfl Try.underlying31 infoStr rfl (by decide) (by omega) (.slice none 0 0) [] (⟨#[10]⟩ : ByteArray) [.string (⟨#[10]⟩ : ByteArray)] Any1 (fun _ => False) rfl rfl ?aP (fun _ hk => hk.elim) (fun _ _ => trivial) (Kd.R_nil _ _ _ _ _) (Below.refl _ _) (Nat.le_refl _) ?aL ?_; (case aP => exact rfl); (case aL => show (0 + 1) * 16 ≤ _; omega)); intro v1 w9 ho hb hg hat; have HB2 := Lib.hid hb; clear ho hb hg hat) | (go_at_call 15; refine (put_nil _ _).mono ?_; rintro e w1 ⟨rfl, rfl⟩))
  go_ret
  exact ⟨rfl, HB2.out⟩
set_option maxHeartbeats 4000000 in
set_option maxRecDepth 1000000 in
theorem end_nil (A : Option Addr) (c : Nat) (l : List ByteArray) (w : World) (hr : Kd.C Kd.string w A l.length l) (hl : l.length ≤ 1000000) :
    Calls Try.prog 19 #[.pointer none, .slice A l.length c] w (RetB (.bool false) w) := by
  have HR := Lib.hid hr
  have HK := Lib.hid (R_make_cap w l.length (l.length + 1) (base := w.heap.size) (Nat.le_refl _) (by omega) (by simp [maxLen]; omega))
  have HB := Lib.hid (below_alloc (Below.refl w.heap.size w) (.cells (madeCells (Value.string ⟨#[]⟩).cells ((l.length + 1) * 1)) 9))
  have hmk := make_cap w l.length hl
  generalize hW : w.alloc (.cells (madeCells (Value.string ⟨#[]⟩).cells ((l.length + 1) * 1)) 9) = w1 at *
  clear hW hr
  have hs1 := HB.out.size
  go_enter Try.func19, Try.ntmps19
  go_wp2_with (first | ((with_reducible refine gate_builtin (b := .copy) (xs := #[.tmp 12, .tmp 13]) rfl ?_); (refine Kd.R_copy (⟨#[]⟩ : ByteArray) w.heap.size rfl (.tmp 12) (.tmp 13) 31 31 9 rfl Try.underlying31 sizeStr _ _ l A l.length c Any1 rfl rfl HK.out (Kd.C_below HR.out HB.out) (Below.refl _ _) hs1 ?_); intro w2 ho hb2 hg; (rw [show List.take (min l.length (List.replicate l.length (⟨#[]⟩ : ByteArray)).length) l ++ List.drop (min l.length (List.replicate l.length (⟨#[]⟩ : ByteArray)).length) (List.replicate l.length (⟨#[]⟩ : ByteArray)) = l from by simp] at ho); have HO : Hid (Kd.string.R 9 w2 w.heap.size Any1 (.slice (some ⟨w.heap.size, 0, none⟩) l.length (l.length + 1)) l) := Lib.hid ho; have HB3 := Lib.hid (HB.out.trans hb2); have hs2 := HB3.out.size; clear ho hb2 hg HK HB) | ((with_reducible refine gate_builtin (b := .append) (xs := #[.tmp 16, .tmp 17]) rfl ?_); at_builtin; (refine Kd.R_append Kd.string w.heap.size rfl (.tmp 16) (.tmp 17) 31 9 (.string ⟨#[]⟩) 16 rfl Try.underlying31 infoStr rfl (by decide) (by omega) (.slice (some ⟨w.heap.size, 0, none⟩) l.length (l.length + 1)) l (⟨#[10]⟩ : ByteArray) [.string (⟨#[10]⟩ : ByteArray)] Any1 (fun _ => False) rfl rfl ?aP (fun _ hk => hk.elim) (fun _ _ => trivial) HO.out (Below.refl _ _) hs2 ?aL ?_; (case aP => exact rfl); (case aL => show (l.length + 1) * 16 ≤ _; omega)); intro v1 w9 ho hb hg hat; have HB2 := Lib.hid (HB3.out.trans hb); clear ho hb hg hat HO) | (go_at_call 15; refine (put_nil _ _).mono ?_; rintro e w1 ⟨rfl, rfl⟩))
  go_ret
  exact ⟨rfl, HB2.out⟩
end Go.Proofs.Ytchdcklalgadhaa.Sk

/- The document's example. -/
import Derived.Test.YtidicpngmildkaaDoorG3
set_option linter.unusedVariables false
set_option linter.unusedSimpArgs false
namespace Go.Proofs.YtidicpngmildkaaDoor.Aw
open Go.Proofs.YtidicpngmildkaaDoor.Tx Go.RowKit Go.Proofs.YtidicpngmildkaaDoorW.PrintWords Go.Proofs.YtidicpngmildkaaDoorW.PrintLast Go.Proofs.YtidicpngmildkaaDoorW.PrintMore Go.Proofs.YtidicpngmildkaaDoor.R
open Go.Proofs.YtidicpngmildkaaDoor.Wd (mem lst is_any)
def exS : ByteArray := ⟨#[102, 36, 103, 40, 39, 92, 120, 48, 97, 39, 41, 47, 42, 99, 42, 47, 59]⟩
def exL : List Tok := [TkOf 1 ⟨#[102, 36, 103]⟩ 0 false exS 0, TkOf 5 ⟨#[40]⟩ 0 true exS 3, TkOf 4 ⟨#[]⟩ 10 true exS 4, TkOf 5 ⟨#[41]⟩ 0 true exS 10, TkOf 6 ⟨#[99]⟩ 0 true exS 11, TkOf 5 ⟨#[59]⟩ 0 true exS 16, TkOf 0 ⟨#[]⟩ 0 true exS 17]
set_option maxRecDepth 1000000 in
theorem ex_lex : lexA exS = .ok exL := by kernel_rfl
def RetB (v : Value) (w : World) (e : Ending) (w' : World) : Prop := e = .returned v ∧ Below w.heap.size w w'
set_option maxHeartbeats 8000000 in
set_option maxRecDepth 1000000 in
theorem awake (w : World) (ht : Wd.Tab w) : Calls Tryd.prog 7 #[] w (RetB (.bool true) w) := by
  have HT := Lib.hid ht
  clear ht
  go_enter Tryd.func7, Tryd.ntmps7
  go_wp2_with (first | (go_at_call 8; go_must (refine (all_lex exS w HT.out (by decide)).mono ?_)))
  rintro e w1 h1
  rw [ex_lex] at h1
  obtain ⟨v, rfl, hR, hB⟩ := h1
  have HB := Lib.hid (below_alloc hB (.cells #[.int .i64 0, .int .i64 0, .int .i64 0, .int .i64 0] 29))
  obtain ⟨A, cc, rfl, hcc, hC0⟩ := Kd.R_reads hR
  have hC := Kd.C_below hC0 (below_alloc (Below.refl w1.heap.size w1) (.cells #[.int .i64 0, .int .i64 0, .int .i64 0, .int .i64 0] 29))
  obtain ⟨ad, rfl, _, x0, _⟩ := at_T35 hC 0 (by decide) (by decide)
  obtain ⟨ad2, e2, _, _, x2, _⟩ := at_T35 hC 2 (by decide) (by decide)
  cases e2
  obtain ⟨ad2, e2, _, x4, _⟩ := at_T35 hC 4 (by decide) (by decide)
  cases e2
  obtain ⟨ad2, e2, _, x5, _⟩ := at_T35 hC 5 (by decide) (by decide)
  cases e2
  replace x0 : (w1.alloc (.cells #[.int .i64 0, .int .i64 0, .int .i64 0, .int .i64 0] 29)).cell? ⟨(ad.add 0).block, (ad.add 0).off + 1, none⟩ = some (.string ⟨#[102, 36, 103]⟩) := x0
  rw [show ad.add 0 = ad from by simp [Addr.add]] at x0
  replace x2 : (w1.alloc (.cells #[.int .i64 0, .int .i64 0, .int .i64 0, .int .i64 0] 29)).cell? ⟨(ad.add 14).block, (ad.add 14).off + 2, none⟩ = some (.int .i64 10) := x2
  replace x4 : (w1.alloc (.cells #[.int .i64 0, .int .i64 0, .int .i64 0, .int .i64 0] 29)).cell? ⟨(ad.add 28).block, (ad.add 28).off + 1, none⟩ = some (.string ⟨#[99]⟩) := x4
  replace x5 : (w1.alloc (.cells #[.int .i64 0, .int .i64 0, .int .i64 0, .int .i64 0] 29)).cell? ⟨(ad.add 35).block, (ad.add 35).off + 1, none⟩ = some (.string ⟨#[59]⟩) := x5
  clear hC hC0 hR hB
  have y2 := (show (ad.add 14).block = ad.block ∧ (ad.add 14).off = ad.off + 14 from by simp [Addr.add])
  have y4 := (show (ad.add 28).block = ad.block ∧ (ad.add 28).off = ad.off + 28 from by simp [Addr.add])
  have y5 := (show (ad.add 35).block = ad.block ∧ (ad.add 35).off = ad.off + 35 from by simp [Addr.add])
  rw [y2.1, y2.2] at x2
  rw [y4.1, y4.2] at x4
  rw [y5.1, y5.2] at x5
  clear y2 y4 y5
  rw [show exL.length = 7 from rfl]
  go_wp2
  go_ret
  exact ⟨rfl, HB.out⟩
def pantographlaw06_awake.f : Option Bool := some true
theorem pantographlaw06_awake.calls (r : Bool) (w : World) (hT : Fl.TabW w) (h : pantographlaw06_awake.f = some r) : Calls Tryd.prog 7 #[] w fun e w' => e = .returned (.bool r) ∧ Below w.heap.size w w' := by
  obtain rfl := Option.some.inj h
  exact awake w hT
end Go.Proofs.YtidicpngmildkaaDoor.Aw

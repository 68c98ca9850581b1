/- SinkNil: the walk. -/
import Derived.Test.YtchdcklalgadhaaSkf
import Derived.Test.YtchdcklalgadhaaR0
set_option linter.unusedVariables false
namespace Go.Proofs.Ytchdcklalgadhaa.Sk
open Go.RowKit Go.Proofs.YtchdcklalgadhaaW.PrintWords Go.Proofs.YtchdcklalgadhaaW.PrintLast Go.Proofs.YtchdcklalgadhaaW.PrintMore
theorem RetB.trans {v : Value} {w0 w : World} {e : Ending} {w' : World} (hb : Below w0.heap.size w0 w) (h : RetB v w e w') : RetB v w0 e w' := ⟨h.1, below_weaken hb hb.size h.2⟩
set_option maxHeartbeats 4000000 in
set_option maxRecDepth 1000000 in
theorem sinkNil (A : Option Addr) (c : Nat) (l : List ByteArray) (w : World) (hr : Kd.C Kd.string w A l.length l) (hc : l.length ≤ c) (ho : ∀ x ∈ l, x.size ≤ maxLen) :
    Calls Try.prog 7 #[.slice A l.length c] w (RetB (.bool true) w) := by
  have HR := Lib.hid hr
  clear hr
  by_cases hl : l.length ≤ 20
  · have HB := Lib.hid (Below.refl w.heap.size w)
    go_enter Try.func7, Try.ntmps7
    go_wp2_with (first
      | (go_at_call 10; go_must (refine (in_nil _).mono ?_); rintro e w1 ⟨rfl, rfl⟩)
      | (go_at_call 11; go_must (refine (out_nil _).mono ?_); rintro e w1 ⟨rfl, rfl⟩)
      | (go_at_call 15; go_must (refine (put_nil _ _).mono ?_); rintro e w1 ⟨rfl, rfl⟩)
      | (go_at_call 18; go_must (refine (begin_nil _ _).mono ?_); rintro e w2 ⟨rfl, hb⟩; have HB1 := Lib.hid (below_weaken HB.out HB.out.size hb); clear hb)
      | (go_at_call 19; go_must (refine (end_nil A c l _ (Kd.C_below HR.out HB1.out) (by omega)).mono ?_); rintro e w3 ⟨rfl, hb⟩; have HB2 := Lib.hid (below_weaken HB1.out HB1.out.size hb); clear hb)
      | (go_at_call 12; go_must (refine (line_nil _ _).mono ?_); rintro e w4 ⟨rfl, hb⟩; have HB3 := Lib.hid (below_weaken HB2.out HB2.out.size hb); clear hb)
      | (go_at_call 16; go_must (refine (len_nil _).mono ?_); rintro e w1 ⟨rfl, rfl⟩)
      | (go_at_call 17; go_must (refine (full_nil _).mono ?_); rintro e w1 ⟨rfl, rfl⟩)
      | (go_at_call 13; go_must (refine (str_nil _).mono ?_); rintro e w1 ⟨rfl, rfl⟩)
      | (go_at_call 8; go_must (refine (awake _).mono ?_); rintro e w5 ⟨rfl, hb⟩; have HB4 := Lib.hid (below_weaken HB3.out HB3.out.size hb); clear hb))
    go_ret
    exact ⟨rfl, HB4.out⟩
  · go_enter Try.func7, Try.ntmps7
    go_wp2_with (first | (go_at_call 8; go_must (refine (awake _).mono ?_); rintro e w5 ⟨rfl, hb⟩; have HB4 := Lib.hid hb; clear hb))
    go_ret
    exact ⟨rfl, HB4.out⟩
end Go.Proofs.Ytchdcklalgadhaa.Sk

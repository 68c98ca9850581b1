/- TextNil: the walk. -/
import Derived.Test.YtmmbpbamkiheaaaDoorTp
import Derived.OpenShut
set_option linter.unusedVariables false
set_option linter.unusedSimpArgs false
namespace Go.Proofs.YtmmbpbamkiheaaaDoor.Tx
open Go.RowKit Go.Proofs.YtmmbpbamkiheaaaDoorW.PrintWords Go.Proofs.YtmmbpbamkiheaaaDoorW.PrintLast Go.Proofs.YtmmbpbamkiheaaaDoorW.PrintMore Go.Proofs.YtmmbpbamkiheaaaDoor.R
set_option maxHeartbeats 8000000 in
set_option maxRecDepth 1000000 in
theorem while_nil (set : ByteArray) (w : World) :
    Calls Tryd.prog 26 #[.pointer none, .string set] w fun e w' => e = .returned (.string ⟨#[]⟩) ∧ ∃ n, w' = w.drewN n := by
  go_enter Tryd.func26, Tryd.ntmps26
  go_wp2
  go_loopw [5] (fun i wr => i = .int .i64 0 ∧ wr = w) (fun i _ => 0)
  case atStart => exact ⟨rfl, rfl⟩
  case round =>
    obtain ⟨rfl, rfl⟩ := hrel
    go_wp2_with (first | (go_at_call 23; go_must (refine (peek_nil 0 wr).mono ?_); rintro e w1 ⟨rfl, n, rfl⟩))
    go_ret
    exact ⟨rfl, _, rfl⟩
set_option maxHeartbeats 8000000 in
set_option maxRecDepth 1000000 in
theorem textNil (n : Int) (set : ByteArray) (w : World) (ht : Tab w) (hw : (Lit.int .i64 n).wf = true) (hs : set.size ≤ 140737488351232) : Calls Tryd.prog 9 #[.int .i64 n, .string set] w (RetB (.bool true) w) := by
  have HT := Lib.hid ht
  clear ht hw hs
  go_enter Tryd.func9, Tryd.ntmps9
  go_wp2_with (first | (go_at_call 23; go_must (refine (peek_nil n _).mono ?_)))
  rintro e w1 ⟨rfl, m, rfl⟩
  go_wp2_with (first | (go_at_call 24; go_must (refine (next_nil _).mono ?_)))
  rintro e w1 ⟨rfl, m2, rfl⟩
  go_wp2_with (first | (go_at_call 21; go_must (refine (skip_nil n _).mono ?_)))
  rintro e w1 ⟨rfl, m3, rfl⟩
  go_wp2_with (first | (go_at_call 22; go_must (refine (pos_nil _).mono ?_)))
  rintro e w4 ⟨rfl, hb⟩
  have HB4 : Hid (Below w.heap.size w w4) := Lib.hid (below_weaken (pw_below_drewN (Below.refl w.heap.size w) _) (Nat.le_refl _) hb)
  clear hb
  go_wp2_with (first | (go_at_call 26; go_must (refine (while_nil set _).mono ?_)))
  rintro e w1 ⟨rfl, m5, rfl⟩
  have HB5 := Lib.hid (pw_below_drewN HB4.out m5)
  clear HB4
  go_wp2_with (first | (go_at_call 11; go_must (refine (awake _ (tab_below HT.out HB5.out)).mono ?_); rintro e w9 ⟨rfl, hb⟩; have HB9 := Lib.hid (below_weaken HB5.out HB5.out.size hb); clear hb))
  go_ret
  exact ⟨rfl, HB9.out⟩
end Go.Proofs.YtmmbpbamkiheaaaDoor.Tx

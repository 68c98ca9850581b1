/- LexCeeChars: each char has a text of its own, that is read as it; plain. -/
import Derived.Test.YtidicpngmildkaaDoorUa
import Derived.Test.YtidicpngmildkaaDoorU2
set_option linter.unusedVariables false
set_option linter.unusedSimpArgs false
namespace Go.Proofs.YtidicpngmildkaaDoor.Pl
open Go.RowKit Go.Proofs.YtidicpngmildkaaDoorW.PrintWords Go.Proofs.YtidicpngmildkaaDoorW.PrintLast Go.Proofs.YtidicpngmildkaaDoorW.PrintMore Go.Proofs.YtidicpngmildkaaDoor.R Go.Proofs.YtidicpngmildkaaDoor.Tx Go.Proofs.YtidicpngmildkaaDoor.Fl Go.Proofs.YtidicpngmildkaaDoor.U Go.Proofs.YtidicpngmildkaaDoor.Aw Go.Proofs.YtidicpngmildkaaDoor.Aw
theorem blank32 : blank 32 = true := by decide +kernel
theorem chars_true (c : Nat) (hc : c < 256) (b : ByteArray) : pantographlaw06_LexCeeChars.f 2 (c : Int) b = some true := by
  have hw : wrap64 (c : Int) = (c : Int) := by unfold wrap64; omega
  have hlen := charT_len c
  have htk := tok_char c hc
  have hl1 : lexL 10 (charT c) = .ok [(4, ⟨#[]⟩, (c : Int)), endT] := by
    have := lexL_tok _ _ htk [] (.inl rfl) (by simp; omega) 9
    rw [List.append_nil] at this
    rw [this]
    rfl
  obtain ⟨l, e1, e2, _, _⟩ := res_ok (mk (charT c)) (by rw [mk_size]; omega) 10 (by rw [mk_size]; omega) _ (by rw [mk_data]; exact hl1)
  match l, e2 with
  | [t0, t1], e2 =>
    have e3 : bareT t0 = (4, ⟨#[]⟩, (c : Int)) := by
      have := congrArg (fun x => x.head?) e2
      exact Option.some.inj this
    unfold bareT at e3
    obtain ⟨k0, e4⟩ := Prod.mk.inj e3
    obtain ⟨_, k2⟩ := Prod.mk.inj e4
    unfold pantographlaw06_LexCeeChars.f
    rw [hw]
    have hct : pantographref05_CharText.f 2 1 (c : Int) = some (mk (charT c)) := by
      unfold pantographref05_CharText.f
      rw [if_pos ⟨rfl, by omega, by omega⟩, Int.toNat_natCast]
    rw [hct, Option.bind_some, e1, Option.bind_some]
    dsimp only
    rw [if_pos rfl, if_pos (show (([t0, t1].length : Nat) : Int) = 2 from rfl), if_pos (show 0 < (([t0, t1].length : Nat) : Int) by simp), rd0, if_pos k0, k2]
    rw [show ((c : Int) != (c : Int)) = false by simp]
    simp only [pantographlaw06_LexCeeChars.j0]
    rw [if_neg (by simp), awake_true]
    by_cases hb : (b.size : Int) > 3000
    · rw [if_pos hb]; rfl
    · rw [if_neg hb, mk_size, if_pos (by omega), if_pos (by rw [show (⟨#[32]⟩ : ByteArray).size = 1 from rfl]; omega), hw]
      have hsz : (mk (charT c) ++ (⟨#[32]⟩ : ByteArray) ++ b).size = (charT c).length + 1 + b.size := by
        rw [ByteArray.size_append, ByteArray.size_append, mk_size]; rfl
      have hd : (mk (charT c) ++ (⟨#[32]⟩ : ByteArray) ++ b).data.toList = charT c ++ 32 :: b.data.toList := by
        rw [app_data, app_data, mk_data, List.append_assoc]; rfl
      have hl2 := lexL_tok _ _ htk (32 :: b.data.toList) (.inr ⟨32, b.data.toList, rfl, blank32⟩) (by rw [List.length_append, List.length_cons, data_length]; omega) 9999
      cases hr : lexL 9999 (32 :: b.data.toList) with
      | bad c1 r1 =>
        rw [hr] at hl2
        obtain ⟨e5, e6, _⟩ := res_bad _ (by rw [hsz]; omega) 10000 (by rw [hsz]; omega) c1 r1 (by rw [hd]; exact hl2)
        rw [e5, Option.bind_some]
        dsimp only
        rw [if_neg e6]; rfl
      | ok l2 =>
        rw [hr] at hl2
        obtain ⟨l3, e5, e6, _, _⟩ := res_ok _ (by rw [hsz]; omega) 10000 (by rw [hsz]; omega) _ (by rw [hd]; exact hl2)
        obtain ⟨l0, e7⟩ := lexL_end _ _ _ hr
        rw [e5, Option.bind_some]
        match l3, e6 with
        | u0 :: u1 :: l4, e6 =>
          have e8 : bareT u0 = (4, ⟨#[]⟩, (c : Int)) := by
            have := congrArg (fun x => x.head?) e6
            exact Option.some.inj this
          unfold bareT at e8
          obtain ⟨_, e9⟩ := Prod.mk.inj e8
          obtain ⟨_, k3⟩ := Prod.mk.inj e9
          dsimp only
          rw [if_pos rfl, if_pos (by simp only [List.length_cons]; omega), if_pos (by simp only [List.length_cons]; omega), rd0, if_pos k3]
          rfl
        | [u0], e6 =>
          have := congrArg List.length e6
          rw [e7] at this
          simp at this
        | [], e6 => exact absurd (congrArg List.length e6) (by simp)
  | [], e2 => exact absurd (congrArg List.length e2) (by simp)
  | [t0], e2 => exact absurd (congrArg List.length e2) (by simp)
  | _ :: _ :: _ :: _, e2 => exact absurd (congrArg List.length e2) (by simp)
end Go.Proofs.YtidicpngmildkaaDoor.Pl

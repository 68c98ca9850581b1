/- An act's cells. -/
import Derived.Test.YtmmbpbamkiheaaaDoorTp
set_option linter.unusedVariables false
set_option linter.unusedSimpArgs false
namespace Go.Proofs.YtmmbpbamkiheaaaDoor.R
open Go.RowKit Go.Proofs.YtmmbpbamkiheaaaDoorW.PrintWords Go.Proofs.YtmmbpbamkiheaaaDoorW.PrintLast Go.Proofs.YtmmbpbamkiheaaaDoorW.PrintMore
structure S47 where
  f0 : Int
  f1 : Int
  f2 : ByteArray
def k47 : Kd S47 := Kd.iso (Kd.pair (Kd.int .i64) (Kd.pair (Kd.int .i64) Kd.string)) (fun x : S47 => (x.f0, x.f1, x.f2))
end Go.Proofs.YtmmbpbamkiheaaaDoor.R
namespace Go.Proofs.YtmmbpbamkiheaaaDoor.Tx
open Go.RowKit Go.Proofs.YtmmbpbamkiheaaaDoorW.PrintWords Go.Proofs.YtmmbpbamkiheaaaDoorW.PrintLast Go.Proofs.YtmmbpbamkiheaaaDoorW.PrintMore Go.Proofs.YtmmbpbamkiheaaaDoor.R
abbrev ActS := S47
abbrev kAct : Kd ActS := k47
theorem kAct_open {w : World} {x : ActS} {cs : List Value} (h : kAct.K w x cs) : cs = [.int .i64 x.f0, .int .i64 x.f1, .string x.f2] := by
  obtain ⟨_, _, rfl, rfl, ⟨_, _, rfl, rfl, rfl⟩⟩ := h
  rfl
theorem at_act {W : World} {A : Option Addr} {l : List ActS} (h : Kd.C kAct W A l.length l) (k : Nat) (hk : k < l.length) :
    ∃ ad, A = some ad ∧ W.cell? (ad.add (k * 3)) = some (.int .i64 l[k].f0) ∧ W.cell? ⟨(ad.add (k * 3)).block, (ad.add (k * 3)).off + 1, none⟩ = some (.int .i64 l[k].f1) ∧ W.cell? ⟨(ad.add (k * 3)).block, (ad.add (k * 3)).off + 2, none⟩ = some (.string l[k].f2) := by
  obtain ⟨ad, c, e, _, hK, hc0⟩ := Kd.C_get h (⟨0, 0, ⟨#[]⟩⟩ : ActS) (k : Int) (by omega) (by omega)
  have hc : ∀ j u, c[j]? = some u → W.cell? (ad.add (k * 3 + j)) = some u := by
    intro j u hj
    have := hc0 j u hj
    rw [Int.toNat_natCast] at this
    exact this
  rw [show l.getD ((k : Int)).toNat (⟨0, 0, ⟨#[]⟩⟩ : ActS) = l[k] from by simp [hk]] at hK
  have hcs := kAct_open hK
  subst hcs
  refine ⟨ad, e, ?_, ?_, ?_⟩
  · have := hc 0 _ rfl
    exact this
  · rw [← add_field _ _ 1 (by omega)]
    exact hc 1 _ rfl
  · rw [← add_field _ _ 2 (by omega)]
    exact hc 2 _ rfl
theorem pick4 (x : Int) : ∃ r : Nat, r ≤ 3 ∧ pantographref01_Pick.f x 4 = some (r : Int) := by
  unfold pantographref01_Pick.f
  rw [if_neg (by omega), if_neg (by omega)]
  by_cases h : Int.tmod x 4 < 0
  · rw [if_pos h]
    have h1 := Int.lt_tmod_of_pos x (show (0 : Int) < 4 by omega)
    refine ⟨(Int.tmod x 4 + 4).toNat, by omega, ?_⟩
    rw [show wrap64 (Int.tmod x 4 + 4) = Int.tmod x 4 + 4 from by unfold wrap64; omega]
    congr 1
    omega
  · rw [if_neg h]
    have h1 := Int.tmod_lt_of_pos x (show (0 : Int) < 4 by omega)
    refine ⟨(Int.tmod x 4).toNat, by omega, ?_⟩
    congr 1
    omega
theorem refhas_loop2 (set : ByteArray) (c : Int) (hs : set.size ≤ 9223372036854775807) : ∀ (m k : Nat), k ≤ set.size → set.size - k < m → pantographref01_Has.l0 m set c (k : Int) = some ((set.data.toList.drop k).any fun b => decide ((b.toNat : Int) = c)) := by
  intro m
  induction m with
  | zero => intro k _ h; omega
  | succ m ih =>
    intro k hk hm
    unfold pantographref01_Has.l0
    have hln := data_length set
    by_cases hlt : k < set.size
    · have hl : k < set.data.toList.length := by omega
      rw [if_pos (by omega), if_pos (by omega), bt_get set k hl, wr_n k (by omega), List.drop_eq_getElem_cons hl, List.any_cons]
      by_cases he : (set.data.toList[k].toNat : Int) = c
      · rw [if_pos he, decide_eq_true he]; rfl
      · rw [if_neg he, decide_eq_false he, ih (k + 1) (by omega) (by omega)]; rfl
    · rw [if_neg (by omega), List.drop_of_length_le (by omega)]; rfl
theorem refhas_any2 (set : ByteArray) (c : Int) (hs : set.size ≤ 9223372036854775807) (w : World) : Calls Tryd.prog 25 #[.string set, .int .u8 c] w fun e w' => e = .returned (.bool (inS set c)) ∧ Drawn0 w w' := by
  have := refhas_loop2 set c hs (set.size + 1) 0 (Nat.zero_le _) (by omega)
  exact pantographref01_Has.calls (set.size + 1) set c _ w this
/-- An act in a block of its own. -/
def Ax (g : Nat) (a b : Int) (s : ByteArray) (W : World) : Prop := W.heap[g]? = some (.cells #[.int .i64 a, .int .i64 b, .string s] 47 (0, 0))
theorem Ax.below {g : Nat} {a b : Int} {s : ByteArray} {w w' : World} (h : Ax g a b s w) (hb : Below w.heap.size w w') : Ax g a b s w' := by
  unfold Ax at h ⊢
  rw [hb.block g (Array.getElem?_eq_some_iff.1 h).1]
  exact h
theorem Ax.at1 {g f : Nat} {a b : Int} {s : ByteArray} {w w' : World} (h : Ax g a b s w) (ha : At1 f w w') (hn : g ≠ f) : Ax g a b s w' := by
  unfold Ax at h ⊢
  rw [ha.block g (Array.getElem?_eq_some_iff.1 h).1 (fun e => hn (Option.some.inj e))]
  exact h
theorem Ax.cells {g : Nat} {a b : Int} {s : ByteArray} {W : World} (h : Ax g a b s W) : W.cell? ⟨g, 0, none⟩ = some (.int .i64 a) ∧ W.cell? ⟨g, 1, none⟩ = some (.int .i64 b) ∧ W.cell? ⟨g, 2, none⟩ = some (.string s) := by
  unfold Ax at h
  refine ⟨?_, ?_, ?_⟩ <;> simp [World.cell?, h]
end Go.Proofs.YtmmbpbamkiheaaaDoor.Tx

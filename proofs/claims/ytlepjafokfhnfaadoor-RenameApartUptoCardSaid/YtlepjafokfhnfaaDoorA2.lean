/- A part of the proof of RenameApartUpto (no two names become one, no word of the dialect is left among them, and only words become others): a reckoner of the code over data, shown right, and what it gives; conditions stand with each theorem. -/
import Derived.Test.YtlepjafokfhnfaaDoorA1
import Derived.Shelf.Strings.Builder1
import Derived.Shelf.Strings.Builder2
import Derived.Shelf.Strings.OnBuilder
import Derived.Shelf.Strings.BuilderF
import Derived.Shelf.Strings.BuilderK
import Derived.Shelf.Utf8.RuneCount
import Derived.Shelf.Strings.Builder2Cap
import Derived.Shelf.Strconv.Itoa0
import Derived.Shelf.Strconv.Itoa1
import Derived.Shelf.LaysM
import Derived.Shelf.Strconv.Itoa2
import Derived.Shelf.Strconv.Itoa3
import Derived.Shelf.Strings.Search1
import Derived.Shelf.Strings.Search2
import Derived.Shelf.Strings.Search3
import Derived.Shelf.Strings.Count
import Derived.Shelf.Strings.Shaped
import Derived.Shelf.Strings.Split
import Derived.Shelf.Strings.Fields
import Derived.Shelf.Strings.SplitShaped
import Derived.Shelf.Unicode.Latin
import Derived.Shelf.Unicode.Decode
import Derived.Shelf.Strings.RuneCount
import Derived.Shelf.Strings.Explode
import Derived.Shelf.Unicode.DecodeSlow
import Derived.Shelf.Unicode.DecodeAny
import Derived.Shelf.Unicode.Is16White
import Derived.Shelf.Unicode.IsSpaceAny
import Derived.Shelf.Unicode.Is16WhiteD
import Derived.Shelf.Unicode.IsSpaceAnyD
import Derived.Shelf.Strings.FieldsAny
import Derived.Shelf.Strings.FieldsFuncAny
import Derived.Shelf.Unicode.Is16Any
import Derived.Shelf.Unicode.Is32Any
import Derived.Shelf.Unicode.ExclAny
import Derived.Ground.Names2Prog
import Derived.Shelf.Slices.Clone
import Derived.Ground.SlgnProg
import Derived.Shelf.SlicesE.Clone
import Derived.Test.YtlepjafokfhnfaaDoorProg
import Derived.Maps.OwnSet
import Derived.Maps.Keyed
import Derived.StringKeys
import Derived.Lib.SplitLaws
import Derived.IntWalk
import Derived.ChangeArms
import Derived.ChangeSame
import Derived.DataReads
import Derived.DataElems
import Derived.ProofKit
section
/-
  DERIVED: THE SHELF's CONTRACTS AT THIS DUMP, IN PLAIN WORDS (tools/lay-plain.mjs out of 'TrydShelf.lean', which tools/lay-shelf.mjs wrote): THE SAME DECLARATIONS UNDER THE SAME NAMES: 'import', 'namespace', 'open', 'def', 'theorem' AND NOTHING ELSE: no command of the shelf's: FOR A HAND-IN. Each laying: the table of numbers ('.._ren') and one theorem, a field a fact of the dump's own or the kernel's comparison; each contract: ONE APPLICATION.
-/
namespace Go.Proofs
open Go.Shelf
def Tryd.lays156_ren : Go.Shelf.Ren := ⟨fun | 156 => 53 | 165 => 68 | 166 => 69 | 169 => 70 | 240 => 80 | 241 => 81 | 276 => 93 | 277 => 94 | n => n, fun | 31 => 22 | 9 => 9 | 3 => 3 | 4 => 4 | 0 => 0 | 20 => 20 | 72 => 121 | 76 => 125 | 70 => 118 | 37 => 119 | 75 => 124 | 127 => 142 | 164 => 164 | 5 => 5 | 80 => 127 | n => n, fun | n => n⟩
theorem Tryd.lays156 : Go.Proofs.Lays.n156 Tryd.prog Tryd.lays156_ren := {
  mixed := by kernel_rfl
  f156 := Tryd.func53.trans (congrArg some (by kernel_rfl))
  f165 := Tryd.func68.trans (congrArg some (by kernel_rfl))
  f166 := Tryd.func69.trans (congrArg some (by kernel_rfl))
  f169 := Tryd.func70.trans (congrArg some (by kernel_rfl))
  f240 := Tryd.func80.trans (congrArg some (by kernel_rfl))
  f241 := Tryd.func81.trans (congrArg some (by kernel_rfl))
  f276 := Tryd.func93.trans (congrArg some (by kernel_rfl))
  f277 := Tryd.func94.trans (congrArg some (by kernel_rfl))
  t0 := Tryd.underlying0
  a0 := Tryd.isAgg0
  z0 := Tryd.sizeOf0
  v0 := Tryd.zeroValue0
  t3 := Tryd.underlying3
  a3 := Tryd.isAgg3
  z3 := Tryd.sizeOf3
  v3 := Tryd.zeroValue3
  t4 := Tryd.underlying4
  a4 := Tryd.isAgg4
  z4 := Tryd.sizeOf4
  v4 := Tryd.zeroValue4
  t9 := Tryd.underlying9
  a9 := Tryd.isAgg9
  z9 := Tryd.sizeOf9
  v9 := Tryd.zeroValue9
  t20 := Tryd.underlying20
  a20 := Tryd.isAgg20
  z20 := Tryd.sizeOf20
  v20 := Tryd.zeroValue20
  t31 := Tryd.underlying22
  a31 := Tryd.isAgg22
  z31 := Tryd.sizeOf22
  v31 := Tryd.zeroValue22
  t37 := Tryd.underlying119
  a37 := Tryd.isAgg119
  z37 := Tryd.sizeOf119
  v37 := Tryd.zeroValue119
  t70 := Tryd.underlying118
  a70 := Tryd.isAgg118
  z70 := Tryd.sizeOf118
  v70 := Tryd.zeroValue118
  t72 := Tryd.underlying121
  a72 := Tryd.isAgg121
  z72 := Tryd.sizeOf121
  v72 := Tryd.zeroValue121
  t75 := Tryd.underlying124
  a75 := Tryd.isAgg124
  z75 := Tryd.sizeOf124
  v75 := Tryd.zeroValue124
  t76 := Tryd.underlying125
  a76 := Tryd.isAgg125
  z76 := Tryd.sizeOf125
  v76 := Tryd.zeroValue125
  t127 := Tryd.underlying142
  a127 := Tryd.isAgg142
  z127 := Tryd.sizeOf142
  v127 := Tryd.zeroValue142
  t164 := Tryd.underlying164
  a164 := Tryd.isAgg164
  z164 := Tryd.sizeOf164
  v164 := Tryd.zeroValue164 }
theorem Tryd.Builder_Extra_156 : Builder.Extra Tryd.prog Tryd.lays156_ren := {
  sizeBuilder := by kernel_rfl
  liesBuilder := by kernel_rfl
  t5 := Tryd.underlying5
  a5 := Tryd.isAgg5
  z5 := Tryd.sizeOf5
  v5 := Tryd.zeroValue5
  infoByte := by kernel_rfl
  cellsByte := by kernel_rfl
  sizeByte := by kernel_rfl
  neB5 := by decide }
open Go.RowKit in
theorem Tryd.strings_Join (bk o c : Nat) (xs : List ByteArray) (sep : ByteArray) (w : World) (hcells : ∀ (j : Nat) x, xs[j]? = some x → w.cell? ⟨bk, o + j, none⟩ = some (.string x)) (hbk : bk < w.heap.size) (hN : xs.length ≤ 140737488355328) (hcap : xs.length ≤ c) (hlen : (Lib.join (xs.map (·.data.toList)) sep.data.toList).length ≤ 140737488355328) :
    Calls Tryd.prog 53 #[.slice (some ⟨bk, o, none⟩) xs.length c, .string sep] w fun e w' => e = .returned (.string ⟨(Lib.join (xs.map (·.data.toList)) sep.data.toList).toArray⟩) ∧ Below w.heap.size w w' := Any.strings_Join Tryd.lays156 Tryd.Builder_Extra_156 bk o c xs sep w hcells hbk hN hcap hlen
def Tryd.laysM246_ren : Go.Shelf.Ren := ⟨fun | 246 => 66 | 283 => 73 | 284 => 74 | 285 => 75 | 286 => 76 | 129 => 85 | 317 => 84 | 318 => 86 | 319 => 87 | 320 => 88 | 337 => 95 | 338 => 96 | n => n, fun | 2 => 2 | 3 => 3 | 9 => 9 | 4 => 4 | 171 => 134 | 0 => 0 | 53 => 135 | 37 => 119 | 5 => 5 | 173 => 138 | 212 => 156 | 51 => 131 | 20 => 20 | 213 => 157 | 46 => 113 | 232 => 170 | 233 => 171 | n => n, fun | 17 => 2 | 18 => 4 | 19 => 5 | n => n⟩
def Tryd.laysM243_ren : Go.Shelf.Ren := ⟨fun | 243 => 51 | 246 => 66 | 283 => 73 | 284 => 74 | 285 => 75 | 286 => 76 | 129 => 85 | 317 => 84 | 318 => 86 | 319 => 87 | 320 => 88 | 337 => 95 | 338 => 96 | n => n, fun | 3 => 3 | 9 => 9 | 2 => 2 | 4 => 4 | 171 => 134 | 0 => 0 | 53 => 135 | 37 => 119 | 5 => 5 | 173 => 138 | 212 => 156 | 51 => 131 | 20 => 20 | 213 => 157 | 46 => 113 | 232 => 170 | 233 => 171 | n => n, fun | 17 => 2 | 18 => 4 | 19 => 5 | n => n⟩
def Tryd.laysM171_ren : Go.Shelf.Ren := ⟨fun | 171 => 38 | 243 => 51 | 246 => 66 | 283 => 73 | 284 => 74 | 285 => 75 | 286 => 76 | 129 => 85 | 317 => 84 | 318 => 86 | 319 => 87 | 320 => 88 | 337 => 95 | 338 => 96 | n => n, fun | 3 => 3 | 9 => 9 | 2 => 2 | 4 => 4 | 171 => 134 | 0 => 0 | 53 => 135 | 37 => 119 | 5 => 5 | 173 => 138 | 212 => 156 | 51 => 131 | 20 => 20 | 213 => 157 | 46 => 113 | 232 => 170 | 233 => 171 | n => n, fun | 17 => 2 | 18 => 4 | 19 => 5 | n => n⟩
theorem Tryd.laysM171 : Go.Proofs.LaysM.n171 Tryd.prog Tryd.laysM171_ren := {
  mixed := by kernel_rfl
  f129 := Tryd.func85.trans (congrArg some (by kernel_rfl))
  f171 := Tryd.func38.trans (congrArg some (by kernel_rfl))
  f243 := Tryd.func51.trans (congrArg some (by kernel_rfl))
  f246 := Tryd.func66.trans (congrArg some (by kernel_rfl))
  f283 := Tryd.func73.trans (congrArg some (by kernel_rfl))
  f284 := Tryd.func74.trans (congrArg some (by kernel_rfl))
  f285 := Tryd.func75.trans (congrArg some (by kernel_rfl))
  f286 := Tryd.func76.trans (congrArg some (by kernel_rfl))
  f317 := Tryd.func84.trans (congrArg some (by kernel_rfl))
  f318 := Tryd.func86.trans (congrArg some (by kernel_rfl))
  f319 := Tryd.func87.trans (congrArg some (by kernel_rfl))
  f320 := Tryd.func88.trans (congrArg some (by kernel_rfl))
  f337 := Tryd.func95.trans (congrArg some (by kernel_rfl))
  f338 := Tryd.func96.trans (congrArg some (by kernel_rfl))
  t0 := Tryd.underlying0
  a0 := Tryd.isAgg0
  z0 := Tryd.sizeOf0
  v0 := Tryd.zeroValue0
  t2 := Tryd.underlying2
  a2 := Tryd.isAgg2
  z2 := Tryd.sizeOf2
  v2 := Tryd.zeroValue2
  t3 := Tryd.underlying3
  a3 := Tryd.isAgg3
  z3 := Tryd.sizeOf3
  v3 := Tryd.zeroValue3
  t4 := Tryd.underlying4
  a4 := Tryd.isAgg4
  z4 := Tryd.sizeOf4
  v4 := Tryd.zeroValue4
  t5 := Tryd.underlying5
  a5 := Tryd.isAgg5
  z5 := Tryd.sizeOf5
  v5 := Tryd.zeroValue5
  t9 := Tryd.underlying9
  a9 := Tryd.isAgg9
  z9 := Tryd.sizeOf9
  v9 := Tryd.zeroValue9
  t20 := Tryd.underlying20
  a20 := Tryd.isAgg20
  z20 := Tryd.sizeOf20
  v20 := Tryd.zeroValue20
  t37 := Tryd.underlying119
  a37 := Tryd.isAgg119
  z37 := Tryd.sizeOf119
  v37 := Tryd.zeroValue119
  t46 := Tryd.underlying113
  a46 := Tryd.isAgg113
  z46 := Tryd.sizeOf113
  v46 := Tryd.zeroValue113
  t51 := Tryd.underlying131
  a51 := Tryd.isAgg131
  z51 := Tryd.sizeOf131
  v51 := Tryd.zeroValue131
  t53 := Tryd.underlying135
  a53 := Tryd.isAgg135
  z53 := Tryd.sizeOf135
  v53 := Tryd.zeroValue135
  t171 := Tryd.underlying134
  a171 := Tryd.isAgg134
  z171 := Tryd.sizeOf134
  v171 := Tryd.zeroValue134
  t173 := Tryd.underlying138
  a173 := Tryd.isAgg138
  z173 := Tryd.sizeOf138
  v173 := Tryd.zeroValue138
  t212 := Tryd.underlying156
  a212 := Tryd.isAgg156
  z212 := Tryd.sizeOf156
  v212 := Tryd.zeroValue156
  t213 := Tryd.underlying157
  a213 := Tryd.isAgg157
  z213 := Tryd.sizeOf157
  t232 := Tryd.underlying170
  a232 := Tryd.isAgg170
  z232 := Tryd.sizeOf170
  v232 := Tryd.zeroValue170
  t233 := Tryd.underlying171
  a233 := Tryd.isAgg171
  z233 := Tryd.sizeOf171
  v233 := Tryd.zeroValue171
  g17 := by kernel_rfl
  g18 := by kernel_rfl
  g19 := by kernel_rfl
  i0 := by kernel_rfl
  i2 := by kernel_rfl
  i3 := by kernel_rfl
  i4 := by kernel_rfl
  i5 := by kernel_rfl
  i9 := by kernel_rfl
  i20 := by kernel_rfl
  i37 := by kernel_rfl
  i46 := by kernel_rfl
  i51 := by kernel_rfl
  i53 := by kernel_rfl
  i171 := by kernel_rfl
  i173 := by kernel_rfl
  i212 := by kernel_rfl
  i232 := by kernel_rfl
  i233 := by kernel_rfl
  m17 := by kernel_rfl
  m18 := by kernel_rfl
  m19 := by kernel_rfl }
open Go.RowKit Go.Sort Go.Lib in
theorem Tryd.strconv_Itoa (n : Int) (h0 : -9223372036854775808 ≤ n) (h1 : n ≤ 9223372036854775807) (w : World) (htab : Lib.TabIs Tryd.prog w "internal/strconv.uint64pow10" .u64 Lib.pow10Tab) :
    Calls Tryd.prog 38 #[.int .i64 n] w fun e w' => e = .returned (.string ⟨(Lib.itoa n).toArray⟩) ∧ ∃ k os, w' = grow (w.drewN k) os := Any.strconv_Itoa Tryd.laysM171 n h0 h1 w htab
def Tryd.lays221_ren : Go.Shelf.Ren := ⟨fun | 221 => 67 | 268 => 77 | 138 => 78 | 143 => 79 | 195 => 89 | 197 => 90 | 218 => 91 | 219 => 92 | 260 => 97 | 217 => 98 | 225 => 99 | 224 => 100 | 267 => 101 | 266 => 102 | 314 => 103 | n => n, fun | 9 => 9 | 3 => 3 | 31 => 22 | 4 => 4 | 0 => 0 | 105 => 161 | 21 => 21 | 5 => 5 | 46 => 113 | 119 => 110 | 139 => 174 | 138 => 173 | 146 => 175 | 51 => 131 | n => n, fun | 1 => 3 | 3 => 6 | 4 => 7 | n => n⟩
def Tryd.lays146_ren : Go.Shelf.Ren := ⟨fun | 146 => 52 | 221 => 67 | 268 => 77 | 138 => 78 | 143 => 79 | 195 => 89 | 197 => 90 | 218 => 91 | 219 => 92 | 260 => 97 | 217 => 98 | 225 => 99 | 224 => 100 | 267 => 101 | 266 => 102 | 314 => 103 | n => n, fun | 9 => 9 | 31 => 22 | 3 => 3 | 4 => 4 | 0 => 0 | 105 => 161 | 21 => 21 | 5 => 5 | 46 => 113 | 119 => 110 | 139 => 174 | 138 => 173 | 146 => 175 | 51 => 131 | n => n, fun | 1 => 3 | 3 => 6 | 4 => 7 | n => n⟩
theorem Tryd.lays146 : Go.Proofs.Lays.n146 Tryd.prog Tryd.lays146_ren := {
  mixed := by kernel_rfl
  f138 := Tryd.func78.trans (congrArg some (by kernel_rfl))
  f143 := Tryd.func79.trans (congrArg some (by kernel_rfl))
  f146 := Tryd.func52.trans (congrArg some (by kernel_rfl))
  f195 := Tryd.func89.trans (congrArg some (by kernel_rfl))
  f197 := Tryd.func90.trans (congrArg some (by kernel_rfl))
  f217 := Tryd.func98.trans (congrArg some (by kernel_rfl))
  f218 := Tryd.func91.trans (congrArg some (by kernel_rfl))
  f219 := Tryd.func92.trans (congrArg some (by kernel_rfl))
  f221 := Tryd.func67.trans (congrArg some (by kernel_rfl))
  f224 := Tryd.func100.trans (congrArg some (by kernel_rfl))
  f225 := Tryd.func99.trans (congrArg some (by kernel_rfl))
  f260 := Tryd.func97.trans (congrArg some (by kernel_rfl))
  f266 := Tryd.func102.trans (congrArg some (by kernel_rfl))
  f267 := Tryd.func101.trans (congrArg some (by kernel_rfl))
  f268 := Tryd.func77.trans (congrArg some (by kernel_rfl))
  f314 := Tryd.func103.trans (congrArg some (by kernel_rfl))
  t0 := Tryd.underlying0
  a0 := Tryd.isAgg0
  z0 := Tryd.sizeOf0
  v0 := Tryd.zeroValue0
  t3 := Tryd.underlying3
  a3 := Tryd.isAgg3
  z3 := Tryd.sizeOf3
  v3 := Tryd.zeroValue3
  t4 := Tryd.underlying4
  a4 := Tryd.isAgg4
  z4 := Tryd.sizeOf4
  v4 := Tryd.zeroValue4
  t5 := Tryd.underlying5
  a5 := Tryd.isAgg5
  z5 := Tryd.sizeOf5
  v5 := Tryd.zeroValue5
  t9 := Tryd.underlying9
  a9 := Tryd.isAgg9
  z9 := Tryd.sizeOf9
  v9 := Tryd.zeroValue9
  t21 := Tryd.underlying21
  a21 := Tryd.isAgg21
  z21 := Tryd.sizeOf21
  v21 := Tryd.zeroValue21
  t31 := Tryd.underlying22
  a31 := Tryd.isAgg22
  z31 := Tryd.sizeOf22
  v31 := Tryd.zeroValue22
  t46 := Tryd.underlying113
  a46 := Tryd.isAgg113
  z46 := Tryd.sizeOf113
  v46 := Tryd.zeroValue113
  t51 := Tryd.underlying131
  a51 := Tryd.isAgg131
  z51 := Tryd.sizeOf131
  v51 := Tryd.zeroValue131
  t105 := Tryd.underlying161
  a105 := Tryd.isAgg161
  z105 := Tryd.sizeOf161
  v105 := Tryd.zeroValue161
  t119 := Tryd.underlying110
  a119 := Tryd.isAgg110
  z119 := Tryd.sizeOf110
  t138 := Tryd.underlying173
  a138 := Tryd.isAgg173
  z138 := Tryd.sizeOf173
  v138 := Tryd.zeroValue173
  t139 := Tryd.underlying174
  a139 := Tryd.isAgg174
  z139 := Tryd.sizeOf174
  v139 := Tryd.zeroValue174
  t146 := Tryd.underlying175
  a146 := Tryd.isAgg175
  z146 := Tryd.sizeOf175
  v146 := Tryd.zeroValue175
  g1 := by kernel_rfl
  g3 := by kernel_rfl
  g4 := by kernel_rfl }
open Go.RowKit Go.Lib in
theorem Tryd.strings_Split (s sep : ByteArray) (m : Int) (w : World) (hs : s.size < 4294967281) (hm : w.cell? ⟨3, 0, none⟩ = some (.int .i64 m)) (h1 : 1 ≤ sep.size) :
    Calls Tryd.prog 52 #[.string s, .string sep] w fun e w' =>
      e = .returned (.slice (some ⟨w.heap.size, 0, none⟩) (Lib.countB s sep + 1) (Lib.countB s sep + 1)) ∧ w' = w.alloc (.cells ((Lib.splitB sep 0 (Lib.countB s sep) s).map Value.string).toArray 9) := Any.strings_Split Tryd.lays146 (by kernel_rfl) s sep m w hs hm h1
def Tryd.lays157_ren : Go.Shelf.Ren := ⟨fun | 157 => 48 | 229 => 62 | 199 => 63 | 261 => 71 | 311 => 82 | 312 => 83 | n => n, fun | 9 => 9 | 31 => 22 | 3 => 3 | 5 => 5 | 4 => 4 | 119 => 110 | 0 => 0 | 40 => 112 | 152 => 128 | 21 => 21 | 154 => 130 | 51 => 131 | 141 => 133 | 196 => 146 | 193 => 143 | 198 => 149 | 49 => 147 | 194 => 144 | 201 => 152 | 226 => 167 | 46 => 113 | 227 => 168 | n => n, fun | 0 => 0 | 6 => 1 | n => n⟩
theorem Tryd.lays157 : Go.Proofs.Lays.n157 Tryd.prog Tryd.lays157_ren := {
  mixed := by kernel_rfl
  f157 := Tryd.func48.trans (congrArg some (by kernel_rfl))
  f199 := Tryd.func63.trans (congrArg some (by kernel_rfl))
  f229 := Tryd.func62.trans (congrArg some (by kernel_rfl))
  f261 := Tryd.func71.trans (congrArg some (by kernel_rfl))
  f311 := Tryd.func82.trans (congrArg some (by kernel_rfl))
  f312 := Tryd.func83.trans (congrArg some (by kernel_rfl))
  t0 := Tryd.underlying0
  a0 := Tryd.isAgg0
  z0 := Tryd.sizeOf0
  v0 := Tryd.zeroValue0
  t3 := Tryd.underlying3
  a3 := Tryd.isAgg3
  z3 := Tryd.sizeOf3
  v3 := Tryd.zeroValue3
  t4 := Tryd.underlying4
  a4 := Tryd.isAgg4
  z4 := Tryd.sizeOf4
  v4 := Tryd.zeroValue4
  t5 := Tryd.underlying5
  a5 := Tryd.isAgg5
  z5 := Tryd.sizeOf5
  v5 := Tryd.zeroValue5
  t9 := Tryd.underlying9
  a9 := Tryd.isAgg9
  z9 := Tryd.sizeOf9
  v9 := Tryd.zeroValue9
  t21 := Tryd.underlying21
  a21 := Tryd.isAgg21
  z21 := Tryd.sizeOf21
  v21 := Tryd.zeroValue21
  t31 := Tryd.underlying22
  a31 := Tryd.isAgg22
  z31 := Tryd.sizeOf22
  v31 := Tryd.zeroValue22
  t40 := Tryd.underlying112
  a40 := Tryd.isAgg112
  z40 := Tryd.sizeOf112
  v40 := Tryd.zeroValue112
  t46 := Tryd.underlying113
  a46 := Tryd.isAgg113
  z46 := Tryd.sizeOf113
  v46 := Tryd.zeroValue113
  t49 := Tryd.underlying147
  a49 := Tryd.isAgg147
  z49 := Tryd.sizeOf147
  v49 := Tryd.zeroValue147
  t51 := Tryd.underlying131
  a51 := Tryd.isAgg131
  z51 := Tryd.sizeOf131
  v51 := Tryd.zeroValue131
  t119 := Tryd.underlying110
  a119 := Tryd.isAgg110
  z119 := Tryd.sizeOf110
  t141 := Tryd.underlying133
  a141 := Tryd.isAgg133
  z141 := Tryd.sizeOf133
  v141 := Tryd.zeroValue133
  t152 := Tryd.underlying128
  a152 := Tryd.isAgg128
  z152 := Tryd.sizeOf128
  v152 := Tryd.zeroValue128
  t154 := Tryd.underlying130
  a154 := Tryd.isAgg130
  z154 := Tryd.sizeOf130
  v154 := Tryd.zeroValue130
  t193 := Tryd.underlying143
  a193 := Tryd.isAgg143
  z193 := Tryd.sizeOf143
  v193 := Tryd.zeroValue143
  t194 := Tryd.underlying144
  a194 := Tryd.isAgg144
  z194 := Tryd.sizeOf144
  v194 := Tryd.zeroValue144
  t196 := Tryd.underlying146
  a196 := Tryd.isAgg146
  z196 := Tryd.sizeOf146
  v196 := Tryd.zeroValue146
  t198 := Tryd.underlying149
  a198 := Tryd.isAgg149
  z198 := Tryd.sizeOf149
  v198 := Tryd.zeroValue149
  t201 := Tryd.underlying152
  a201 := Tryd.isAgg152
  z201 := Tryd.sizeOf152
  v201 := Tryd.zeroValue152
  t226 := Tryd.underlying167
  a226 := Tryd.isAgg167
  z226 := Tryd.sizeOf167
  v226 := Tryd.zeroValue167
  t227 := Tryd.underlying168
  a227 := Tryd.isAgg168
  z227 := Tryd.sizeOf168
  v227 := Tryd.zeroValue168
  g0 := by kernel_rfl
  g6 := by kernel_rfl }
open Go.RowKit Go.Lib in
theorem Tryd.strings_Fields (s : ByteArray) (w : World) (hs : s.size < 4294967281) (hascii : ∀ (j : Nat) b, s.data.toList[j]? = some b → b.toNat < 128) (htab : Lib.TabIs Tryd.prog w "strings.asciiSpace" .u8 Lib.asciiSpaceTab) :
    Calls Tryd.prog 48 #[.string s] w fun e w' =>
      e = .returned (.slice (some ⟨w.heap.size, 0, none⟩) (Lib.fields s.data.toList).length (Lib.fields s.data.toList).length) ∧ w' = w.alloc (.cells ((Lib.fields s.data.toList).map fun l => Value.string ⟨l.toArray⟩).toArray 9) := Any.strings_Fields Tryd.lays157 (by kernel_rfl) (by kernel_rfl) s w hs hascii htab
def Tryd.laysM146_ren : Go.Shelf.Ren := ⟨fun | 146 => 52 | 221 => 67 | 268 => 77 | 138 => 78 | 143 => 79 | 195 => 89 | 197 => 90 | 218 => 91 | 219 => 92 | 260 => 97 | 217 => 98 | 225 => 99 | 224 => 100 | 267 => 101 | 266 => 102 | 314 => 103 | n => n, fun | 9 => 9 | 31 => 22 | 3 => 3 | 4 => 4 | 0 => 0 | 105 => 161 | 21 => 21 | 5 => 5 | 46 => 113 | 119 => 110 | 139 => 174 | 138 => 173 | 146 => 175 | 51 => 131 | n => n, fun | 1 => 3 | 3 => 6 | 4 => 7 | n => n⟩
theorem Tryd.laysM146 : Go.Proofs.LaysM.n146 Tryd.prog Tryd.laysM146_ren := {
  mixed := by kernel_rfl
  f138 := Tryd.func78.trans (congrArg some (by kernel_rfl))
  f143 := Tryd.func79.trans (congrArg some (by kernel_rfl))
  f146 := Tryd.func52.trans (congrArg some (by kernel_rfl))
  f195 := Tryd.func89.trans (congrArg some (by kernel_rfl))
  f197 := Tryd.func90.trans (congrArg some (by kernel_rfl))
  f217 := Tryd.func98.trans (congrArg some (by kernel_rfl))
  f218 := Tryd.func91.trans (congrArg some (by kernel_rfl))
  f219 := Tryd.func92.trans (congrArg some (by kernel_rfl))
  f221 := Tryd.func67.trans (congrArg some (by kernel_rfl))
  f224 := Tryd.func100.trans (congrArg some (by kernel_rfl))
  f225 := Tryd.func99.trans (congrArg some (by kernel_rfl))
  f260 := Tryd.func97.trans (congrArg some (by kernel_rfl))
  f266 := Tryd.func102.trans (congrArg some (by kernel_rfl))
  f267 := Tryd.func101.trans (congrArg some (by kernel_rfl))
  f268 := Tryd.func77.trans (congrArg some (by kernel_rfl))
  f314 := Tryd.func103.trans (congrArg some (by kernel_rfl))
  t0 := Tryd.underlying0
  a0 := Tryd.isAgg0
  z0 := Tryd.sizeOf0
  v0 := Tryd.zeroValue0
  t3 := Tryd.underlying3
  a3 := Tryd.isAgg3
  z3 := Tryd.sizeOf3
  v3 := Tryd.zeroValue3
  t4 := Tryd.underlying4
  a4 := Tryd.isAgg4
  z4 := Tryd.sizeOf4
  v4 := Tryd.zeroValue4
  t5 := Tryd.underlying5
  a5 := Tryd.isAgg5
  z5 := Tryd.sizeOf5
  v5 := Tryd.zeroValue5
  t9 := Tryd.underlying9
  a9 := Tryd.isAgg9
  z9 := Tryd.sizeOf9
  v9 := Tryd.zeroValue9
  t21 := Tryd.underlying21
  a21 := Tryd.isAgg21
  z21 := Tryd.sizeOf21
  v21 := Tryd.zeroValue21
  t31 := Tryd.underlying22
  a31 := Tryd.isAgg22
  z31 := Tryd.sizeOf22
  v31 := Tryd.zeroValue22
  t46 := Tryd.underlying113
  a46 := Tryd.isAgg113
  z46 := Tryd.sizeOf113
  v46 := Tryd.zeroValue113
  t51 := Tryd.underlying131
  a51 := Tryd.isAgg131
  z51 := Tryd.sizeOf131
  v51 := Tryd.zeroValue131
  t105 := Tryd.underlying161
  a105 := Tryd.isAgg161
  z105 := Tryd.sizeOf161
  v105 := Tryd.zeroValue161
  t119 := Tryd.underlying110
  a119 := Tryd.isAgg110
  z119 := Tryd.sizeOf110
  t138 := Tryd.underlying173
  a138 := Tryd.isAgg173
  z138 := Tryd.sizeOf173
  v138 := Tryd.zeroValue173
  t139 := Tryd.underlying174
  a139 := Tryd.isAgg174
  z139 := Tryd.sizeOf174
  v139 := Tryd.zeroValue174
  t146 := Tryd.underlying175
  a146 := Tryd.isAgg175
  z146 := Tryd.sizeOf175
  v146 := Tryd.zeroValue175
  g1 := by kernel_rfl
  g3 := by kernel_rfl
  g4 := by kernel_rfl
  i0 := by kernel_rfl
  i3 := by kernel_rfl
  i4 := by kernel_rfl
  i5 := by kernel_rfl
  i9 := by kernel_rfl
  i21 := by kernel_rfl
  i31 := by kernel_rfl
  i46 := by kernel_rfl
  i51 := by kernel_rfl
  i105 := by kernel_rfl
  i138 := by kernel_rfl
  i139 := by kernel_rfl
  i146 := by kernel_rfl
  m1 := by kernel_rfl
  s1_3 := fun w h => Go.Proofs.cell_of_shapedOpen_int (zero := #[.int .i64 0]) (t := 3) h (of_decide_eq_true (by kernel_rfl)) (by kernel_rfl) rfl (by kernel_rfl) (by kernel_rfl) Tryd.underlying3
  m3 := by kernel_rfl
  m4 := by kernel_rfl }
def Tryd.laysNm216_ren : Go.Shelf.Ren := ⟨fun | 16 => 27 | n => n, fun | 24 => 22 | 9 => 9 | 4 => 4 | n => n, fun | n => n⟩
theorem Tryd.laysNm216 : Go.Proofs.Lays2.n16 Tryd.prog Tryd.laysNm216_ren := {
  mixed := by kernel_rfl
  f16 := Tryd.func27.trans (congrArg some (by kernel_rfl))
  t4 := Tryd.underlying4
  a4 := Tryd.isAgg4
  z4 := Tryd.sizeOf4
  v4 := Tryd.zeroValue4
  t9 := Tryd.underlying9
  a9 := Tryd.isAgg9
  z9 := Tryd.sizeOf9
  v9 := Tryd.zeroValue9
  t24 := Tryd.underlying22
  a24 := Tryd.isAgg22
  z24 := Tryd.sizeOf22
  v24 := Tryd.zeroValue22
  i9 := by kernel_rfl }
open Go.RowKit Go.Lib in
theorem Tryd.slices_Clone_string (b off n c : Nat) (zs : List ByteArray) (w : World) (hz : n ≤ zs.length) (hbig : n * 16 ≤ 140737488355328) (hc : ∀ j, j < zs.length → w.cell? ⟨b, off + j, none⟩ = some (.string (zs.getD j ByteArray.empty))) :
    Calls Tryd.prog 27 #[.slice (some ⟨b, off, none⟩) n c] w fun e w' => ∃ v', e = .returned v' ∧ w'.ownsRow w.heap.size 9 1 v' n ((zs.take n).map (Value.string)) ∧ v' ≠ .slice none 0 0 ∧ Below w.heap.size w w' := Any.slices_Clone_string Tryd.laysNm216 b off n c zs w hz hbig hc
open Go.RowKit Go.Lib in
theorem Tryd.slices_Clone_string_nil (n c : Nat) (w : World) :
    Calls Tryd.prog 27 #[.slice none n c] w fun e w' => e = .returned (.slice none 0 0) ∧ w' = w := Any.slices_Clone_string_nil Tryd.laysNm216 n c w
open Go.RowKit Go.Lib in
theorem Tryd.slices_Clone_string_zero (a : Addr) (c : Nat) (w : World) :
    Calls Tryd.prog 27 #[.slice (some a) 0 c] w fun e w' => ∃ v', e = .returned v' ∧ w'.ownsRow w.heap.size 9 1 v' 0 [] ∧ v' ≠ .slice none 0 0 ∧ Below w.heap.size w w' := Any.slices_Clone_string_zero Tryd.laysNm216 a c w
end Go.Proofs
end
section
open Go Go.Proofs
namespace Go.Ev
open Go.Maps Go.ChangeMaps Go.WideMaps
set_option linter.unusedVariables false
set_option linter.unusedSimpArgs false
def MapAt (w : World) (b n : Nat) (L : ByteArray → Bool) : Prop := ∃ D : DataW Unit, w.ownsMap Tryd.prog 9 (plainElem Tryd.prog 4) b n D ∧ ∀ s : ByteArray, s.size ≤ maxLen → D.atKey (.string s.data.toList) (.lit (.bool false)) = .lit (.bool (L s))
theorem MapAt.same {w w' : World} {b n : Nat} {L : ByteArray → Bool} (h : MapAt w b n L) (hb : w'.heap[b]? = w.heap[b]?) : MapAt w' b n L := by
  obtain ⟨D, ⟨es, clock, h1, h2⟩, hL⟩ := h
  exact ⟨D, ⟨es, clock, hb.trans h1, h2⟩, hL⟩
theorem owns_same {w w' : World} {B e size n : Nat} {v : Value} {xs : List Value} (h : w.ownsRow B e size v n xs) (hb : ∀ k, v.ownBlock = some k → w'.heap[k]? = w.heap[k]?) : w'.ownsRow B e size v n xs := by
  obtain ⟨h1, h2 | ⟨g, cap, cur, rfl, h3, h4, h5⟩⟩ := h
  · exact ⟨h1, .inl h2⟩
  · exact ⟨h1, .inr ⟨g, cap, cur, rfl, h3, (hb g rfl).trans h4, h5⟩⟩
def FrepT (x : II 1000003) (S : Nat → Nat → Prop) (w : World) (v : Value) (fp : List Nat) : Prop :=
  match (x : Thing) with
  | .ren l => ∃ g sv, v = .func (.func 30) #[] #[.pointer (some ⟨g, 0, none⟩)] ∧ fp = [g] ∧ w.heap[g]? = some (.cells #[sv] 31 (0, 0)) ∧ DRep EE0 S w sv (.sl 36 l)
  | .names l => ∃ gs gm go sv n, v = .func (.func 34) #[] #[.pointer (some ⟨gs, 0, none⟩), .pointer (some ⟨go, 0, none⟩)] ∧ fp = gs :: gm :: go :: sv.ownBlock.toList ∧ n ≤ l.length ∧
      w.heap[gs]? = some (.cells #[.map (some gm)] 84 (0, 0)) ∧ MapAt w gm n (fun y => l.any fun z => z.toList == y.toList) ∧ w.heap[go]? = some (.cells #[sv] 22 (0, 0)) ∧ w.ownsRow 0 9 1 sv l.length (l.map Value.string)
theorem frameT (x : II 1000003) (S S' : Nat → Nat → Prop) (w w' : World) (v : Value) (fp : List Nat) (h : FrepT x S w v fp) (hS : ∀ g o, S g o → S' g o)
    (hc : ∀ g o u, S g o → w.cell? ⟨g, o, none⟩ = some u → w'.cell? ⟨g, o, none⟩ = some u) (hk : ∀ k ∈ fp, w'.heap[k]? = w.heap[k]?) : FrepT x S' w' v fp := by
  unfold FrepT at h ⊢
  cases x with
  | ren l =>
    obtain ⟨g, sv, rfl, rfl, h1, h2⟩ := h
    exact ⟨g, sv, rfl, rfl, (hk g (by simp)).trans h1, h2.move hS hc⟩
  | names l =>
    obtain ⟨gs, gm, go, sv, n, rfl, rfl, hn, h1, h2, h3, h4⟩ := h
    exact ⟨gs, gm, go, sv, n, rfl, rfl, hn, (hk gs (by simp)).trans h1, h2.same (hk gm (by simp)), (hk go (by simp)).trans h3, owns_same h4 fun k e => hk k (by simp [e])⟩
def InvT (w : World) : Prop := Lib.TabIs Tryd.prog w "strings.asciiSpace" .u8 Lib.asciiSpaceTab ∧ (∃ m, w.cell? ⟨3, 0, none⟩ = some (.int .i64 m)) ∧ Lib.TabIs Tryd.prog w "internal/strconv.uint64pow10" .u64 Lib.pow10Tab
theorem cell_lt {w : World} {a : Addr} {v : Value} (h : w.cell? a = some v) : a.block < w.heap.size := by
  unfold World.cell? at h
  split at h
  · rename_i hb; exact (Array.getElem?_eq_some_iff.1 hb).1
  · cases h
theorem tab_same {w w' : World} {n : String} {g : Nat} {k : IntKind} {t : List Int} (hgn : Tryd.prog.globalNamed n = some g) (h : Lib.TabIs Tryd.prog w n k t) (h0 : w'.heap[g]? = w.heap[g]?) : Lib.TabIs Tryd.prog w' n k t := by
  unfold Lib.TabIs World.var? at h ⊢
  rw [hgn] at h ⊢
  simp only [Option.bind_some] at h ⊢
  rw [h0]; exact h
theorem tab_lt {w : World} {n : String} {g : Nat} {k : IntKind} {t : List Int} (hgn : Tryd.prog.globalNamed n = some g) (h : Lib.TabIs Tryd.prog w n k t) : g < w.heap.size := by
  unfold Lib.TabIs World.var? at h
  rw [hgn] at h
  simp only [Option.bind_some] at h
  rcases Nat.lt_or_ge g w.heap.size with h' | h'
  · exact h'
  · simp [Array.getElem?_eq_none h'] at h
theorem gn_ascii : Tryd.prog.globalNamed "strings.asciiSpace" = some 0 := by kernel_rfl
theorem gn_pow : Tryd.prog.globalNamed "internal/strconv.uint64pow10" = some 2 := by kernel_rfl
def EE : Env II := { EE0 with
  io := fun _ => false
  frep := FrepT
  frame := frameT
  glob := fun k => k = 0 ∨ k = 3 ∨ k = 2
  inv := InvT
  invLt := by
    rintro w k ⟨h1, ⟨m, h2⟩, h3⟩ (rfl | rfl | rfl)
    · exact tab_lt gn_ascii h1
    · exact cell_lt h2
    · exact tab_lt gn_pow h3
  invKeep := by
    rintro w w' ⟨h1, ⟨m, h2⟩, h3⟩ hk
    refine ⟨tab_same gn_ascii h1 (hk 0 (.inl rfl)), ⟨m, ?_⟩, tab_same gn_pow h3 (hk 2 (.inr (.inr rfl)))⟩
    rw [← h2]
    simp only [World.cell?, hk 3 (.inr (.inl rfl))] }
end Go.Ev
end
section
open Go Go.Proofs
namespace Go.Ev
set_option maxRecDepth 100000
set_option maxHeartbeats 4000000
def cT : CodC EE Thing := cellT some (fun x => x) fun x a h => by injection h with h; exact h.symm
def c_TExpr : Cod EE TExpr := codS mk_TExpr row_TExpr fun _ _ => mk_TExpr_le
def c_TField : Cod EE TField := codS mk_TField row_TField fun _ _ => mk_TField_le
def c_TMarks : Cod EE TMarks := codS mk_TMarks row_TMarks fun _ _ => mk_TMarks_le
def c_TParam : Cod EE TParam := codS mk_TParam row_TParam fun _ _ => mk_TParam_le
def c_TProgram : Cod EE TProgram := codS mk_TProgram row_TProgram fun _ _ => mk_TProgram_le
def c_TRec : Cod EE TRec := codS mk_TRec row_TRec fun _ _ => mk_TRec_le
def c_TRoutine : Cod EE TRoutine := codS mk_TRoutine row_TRoutine fun _ _ => mk_TRoutine_le
def c_TStmt : Cod EE TStmt := codS mk_TStmt row_TStmt fun _ _ => mk_TStmt_le
def c_TType : Cod EE TType := codS mk_TType row_TType fun _ _ => mk_TType_le
def c_TVar : Cod EE TVar := codS mk_TVar row_TVar fun _ _ => mk_TVar_le
abbrev a_w16_RenameApart : Type := Int × TProgram × Unit
abbrev b_w16_RenameApart : Type := Bool
def c_w16_RenameApart : CodL EE a_w16_RenameApart := .cons (cInt .i64) (.cons c_TProgram .nil)
def rc_w16_RenameApart : RC EE b_w16_RenameApart := RC.one cBool
def co_w16_RenameApart : Co := { res := [[.any]] }
abbrev a_w16_RenameTwice : Type := Int × TProgram × Unit
abbrev b_w16_RenameTwice : Type := Bool
def c_w16_RenameTwice : CodL EE a_w16_RenameTwice := .cons (cInt .i64) (.cons c_TProgram .nil)
def rc_w16_RenameTwice : RC EE b_w16_RenameTwice := RC.one cBool
def co_w16_RenameTwice : Co := { res := [[.any]] }
abbrev a_w16_RenameNone : Type := Int × TProgram × Unit
abbrev b_w16_RenameNone : Type := Bool
def c_w16_RenameNone : CodL EE a_w16_RenameNone := .cons (cInt .i64) (.cons c_TProgram .nil)
def rc_w16_RenameNone : RC EE b_w16_RenameNone := RC.one cBool
def co_w16_RenameNone : Co := { res := [[.any]] }
abbrev a_r07_Names : Type := TProgram × Unit
abbrev b_r07_Names : Type := (List ByteArray)
def c_r07_Names : CodL EE a_r07_Names := .cons c_TProgram .nil
def rc_r07_Names : RC EE b_r07_Names := RC.one (cSl 9)
def co_r07_Names : Co := { res := [[.sl 9]] }
abbrev a_w16_awake : Type := Unit
abbrev b_w16_awake : Type := Bool
def c_w16_awake : CodL EE a_w16_awake := .nil
def rc_w16_awake : RC EE b_w16_awake := RC.one cBool
def co_w16_awake : Co := { res := [[.any]] }
abbrev a_rename_Apply : Type := Int × TProgram × Unit
abbrev b_rename_Apply : Type := TProgram × (List TPair) × Unit
def c_rename_Apply : CodL EE a_rename_Apply := .cons (cInt .i64) (.cons c_TProgram .nil)
def rc_rename_Apply : RC EE b_rename_Apply := RC.many (.cons c_TProgram (.cons (cSl 36) .nil))
def co_rename_Apply : Co := { res := [[.any, .sl 9, .sl 9, .sl 9, .sl 44, .sl 54, .sl 66, .sl 73, .sl 9], [.sl 36]] }
abbrev a_r04_Is : Type := Int × ByteArray × Unit
abbrev b_r04_Is : Type := Bool
def c_r04_Is : CodL EE a_r04_Is := .cons (cInt .i64) (.cons cStr .nil)
def rc_r04_Is : RC EE b_r04_Is := RC.one cBool
def co_r04_Is : Co := { res := [[.any]] }
abbrev a_r07_Same : Type := TProgram × TProgram × Unit
abbrev b_r07_Same : Type := Bool
def c_r07_Same : CodL EE a_r07_Same := .cons c_TProgram (.cons c_TProgram .nil)
def rc_r07_Same : RC EE b_r07_Same := RC.one cBool
def co_r07_Same : Co := { res := [[.any]] }
abbrev a_r07_Parts : Type := ByteArray × Unit
abbrev b_r07_Parts : Type := (List ByteArray)
def c_r07_Parts : CodL EE a_r07_Parts := .cons cStr .nil
def rc_r07_Parts : RC EE b_r07_Parts := RC.one (Cod.c (cellO 9))
def co_r07_Parts : Co := { res := [[.ow 9]] }
abbrev a_r07_varNames : Type := (List TVar) × Unit
abbrev b_r07_varNames : Type := (List ByteArray)
def c_r07_varNames : CodL EE a_r07_varNames := .cons (cSl 54) .nil
def rc_r07_varNames : RC EE b_r07_varNames := RC.one (cSl 9)
def co_r07_varNames : Co := { res := [[.sl 9]] }
abbrev a_r07_routineNames : Type := (List TRoutine) × Unit
abbrev b_r07_routineNames : Type := (List ByteArray)
def c_r07_routineNames : CodL EE a_r07_routineNames := .cons (cSl 66) .nil
def rc_r07_routineNames : RC EE b_r07_routineNames := RC.one (cSl 9)
def co_r07_routineNames : Co := { res := [[.sl 9]] }
abbrev a_r07_stmtNames : Type := (List TStmt) × Unit
abbrev b_r07_stmtNames : Type := (List ByteArray)
def c_r07_stmtNames : CodL EE a_r07_stmtNames := .cons (cSl 73) .nil
def rc_r07_stmtNames : RC EE b_r07_stmtNames := RC.one (cSl 9)
def co_r07_stmtNames : Co := { res := [[.sl 9]] }
abbrev a_r04_Among : Type := (List ByteArray) × ByteArray × Unit
abbrev b_r04_Among : Type := Bool
def c_r04_Among : CodL EE a_r04_Among := .cons (cSl 9) (.cons cStr .nil)
def rc_r04_Among : RC EE b_r04_Among := RC.one cBool
def co_r04_Among : Co := { res := [[.any]] }
abbrev a_r16_SamePairs : Type := (List TPair) × (List TPair) × Unit
abbrev b_r16_SamePairs : Type := Bool
def c_r16_SamePairs : CodL EE a_r16_SamePairs := .cons (cSl 36) (.cons (cSl 36) .nil)
def rc_r16_SamePairs : RC EE b_r16_SamePairs := RC.one cBool
def co_r16_SamePairs : Co := { res := [[.any]] }
abbrev a_rename_Table : Type := Int × TProgram × Unit
abbrev b_rename_Table : Type := (List TPair)
def c_rename_Table : CodL EE a_rename_Table := .cons (cInt .i64) (.cons c_TProgram .nil)
def rc_rename_Table : RC EE b_rename_Table := RC.one (cSl 36)
def co_rename_Table : Co := { res := [[.sl 36]] }
abbrev a_tree_Rename : Type := TProgram × (List TPair) × Unit
abbrev b_tree_Rename : Type := TProgram
def c_tree_Rename : CodL EE a_tree_Rename := .cons c_TProgram (.cons (cSl 36) .nil)
def rc_tree_Rename : RC EE b_tree_Rename := RC.one c_TProgram
abbrev a_r04_All : Type := Int × Unit
abbrev b_r04_All : Type := (List ByteArray)
def c_r04_All : CodL EE a_r04_All := .cons (cInt .i64) .nil
def rc_r04_All : RC EE b_r04_All := RC.one (cSl 9)
def co_r04_All : Co := { res := [[.sl 9]] }
abbrev a_r01_SameTexts : Type := (List ByteArray) × (List ByteArray) × Unit
abbrev b_r01_SameTexts : Type := Bool
def c_r01_SameTexts : CodL EE a_r01_SameTexts := .cons (cSl 9) (.cons (cSl 9) .nil)
def rc_r01_SameTexts : RC EE b_r01_SameTexts := RC.one cBool
def co_r01_SameTexts : Co := { res := [[.any]] }
abbrev a_r07_sameMarks : Type := TMarks × TMarks × Unit
abbrev b_r07_sameMarks : Type := Bool
def c_r07_sameMarks : CodL EE a_r07_sameMarks := .cons c_TMarks (.cons c_TMarks .nil)
def rc_r07_sameMarks : RC EE b_r07_sameMarks := RC.one cBool
def co_r07_sameMarks : Co := { res := [[.any]] }
abbrev a_r07_sameVars : Type := (List TVar) × (List TVar) × Unit
abbrev b_r07_sameVars : Type := Bool
def c_r07_sameVars : CodL EE a_r07_sameVars := .cons (cSl 54) (.cons (cSl 54) .nil)
def rc_r07_sameVars : RC EE b_r07_sameVars := RC.one cBool
def co_r07_sameVars : Co := { res := [[.any]] }
abbrev a_r07_SameRoutines : Type := (List TRoutine) × (List TRoutine) × Unit
abbrev b_r07_SameRoutines : Type := Bool
def c_r07_SameRoutines : CodL EE a_r07_SameRoutines := .cons (cSl 66) (.cons (cSl 66) .nil)
def rc_r07_SameRoutines : RC EE b_r07_SameRoutines := RC.one cBool
def co_r07_SameRoutines : Co := { res := [[.any]] }
abbrev a_r07_SameStmts : Type := (List TStmt) × (List TStmt) × Unit
abbrev b_r07_SameStmts : Type := Bool
def c_r07_SameStmts : CodL EE a_r07_SameStmts := .cons (cSl 73) (.cons (cSl 73) .nil)
def rc_r07_SameStmts : RC EE b_r07_SameStmts := RC.one cBool
def co_r07_SameStmts : Co := { res := [[.any]] }
abbrev a_r07_ExprNames : Type := TExpr × Unit
abbrev b_r07_ExprNames : Type := (List ByteArray)
def c_r07_ExprNames : CodL EE a_r07_ExprNames := .cons c_TExpr .nil
def rc_r07_ExprNames : RC EE b_r07_ExprNames := RC.one (cSl 9)
def co_r07_ExprNames : Co := { res := [[.sl 9]] }
abbrev a_tree_Names : Type := TProgram × Unit
abbrev b_tree_Names : Type := (List ByteArray)
def c_tree_Names : CodL EE a_tree_Names := .cons c_TProgram .nil
def rc_tree_Names : RC EE b_tree_Names := RC.one (cSl 9)
abbrev a_slices_Clone_string : Type := (List ByteArray) × Unit
abbrev b_slices_Clone_string : Type := (List ByteArray)
def c_slices_Clone_string : CodL EE a_slices_Clone_string := .cons (cSl 9) .nil
def rc_slices_Clone_string : RC EE b_slices_Clone_string := RC.one (Cod.c (cellO 9))
abbrev a_words_Clash : Type := Int × (List ByteArray) × Unit
abbrev b_words_Clash : Type := (List ByteArray)
def c_words_Clash : CodL EE a_words_Clash := .cons (cInt .i64) (.cons (cSl 9) .nil)
def rc_words_Clash : RC EE b_words_Clash := RC.one (Cod.c (cellO 9))
abbrev a_words_Fresh : Type := ByteArray × (List ByteArray) × Unit
abbrev b_words_Fresh : Type := ByteArray
def c_words_Fresh : CodL EE a_words_Fresh := .cons cStr (.cons (cSl 9) .nil)
def rc_words_Fresh : RC EE b_words_Fresh := RC.one cStr
def co_words_Fresh : Co := { res := [[.any]] }
abbrev a_tree_Rename_1 : Type := ByteArray × (List TPair) × Unit
abbrev b_tree_Rename_1 : Type := ByteArray
def c_tree_Rename_1 : CodL EE a_tree_Rename_1 := .cons cStr (.cons (.c (cellRPL 36)) .nil)
def rc_tree_Rename_1 : RC EE b_tree_Rename_1 := RC.one cStr
def co_tree_Rename_1 : Co := { res := [[.any]] }
abbrev a_tree_mapper_program : Type := (Thing × Unit) × TProgram × Unit
abbrev b_tree_mapper_program : Type := TProgram × (Thing × Unit)
def c_tree_mapper_program : CodL EE a_tree_mapper_program := .cons (.agg (.cons cT .nil)) (.cons c_TProgram .nil)
def rc_tree_mapper_program : RC EE b_tree_mapper_program := RC.oneR c_TProgram (.cons cT .nil)
def co_tree_mapper_program : Co := { res := [[.any, .sl 9, .sl 9, .sl 9, .sl 44, .sl 54, .sl 66, .sl 73, .sl 9]] }
abbrev a_r07_SameExpr : Type := TExpr × TExpr × Unit
abbrev b_r07_SameExpr : Type := Bool
def c_r07_SameExpr : CodL EE a_r07_SameExpr := .cons c_TExpr (.cons c_TExpr .nil)
def rc_r07_SameExpr : RC EE b_r07_SameExpr := RC.one cBool
def co_r07_SameExpr : Co := { res := [[.any]] }
abbrev a_r07_SameExprs : Type := (List TExpr) × (List TExpr) × Unit
abbrev b_r07_SameExprs : Type := Bool
def c_r07_SameExprs : CodL EE a_r07_SameExprs := .cons (cSl 71) (.cons (cSl 71) .nil)
def rc_r07_SameExprs : RC EE b_r07_SameExprs := RC.one cBool
def co_r07_SameExprs : Co := { res := [[.any]] }
abbrev a_words_Is : Type := Int × ByteArray × Unit
abbrev b_words_Is : Type := Bool
def c_words_Is : CodL EE a_words_Is := .cons (cInt .i64) (.cons cStr .nil)
def rc_words_Is : RC EE b_words_Is := RC.one cBool
abbrev a_slices_Contains_string : Type := (List ByteArray) × ByteArray × Unit
abbrev b_slices_Contains_string : Type := Bool
def c_slices_Contains_string : CodL EE a_slices_Contains_string := .cons (cSl 9) (.cons cStr .nil)
def rc_slices_Contains_string : RC EE b_slices_Contains_string := RC.one cBool
def co_slices_Contains_string : Co := { res := [[.any]] }
abbrev a_strconv_Itoa : Type := Int × Unit
abbrev b_strconv_Itoa : Type := ByteArray
def c_strconv_Itoa : CodL EE a_strconv_Itoa := .cons (cInt .i64) .nil
def rc_strconv_Itoa : RC EE b_strconv_Itoa := RC.one cStr
abbrev a_tree_mapper_parts : Type := (Thing × Unit) × ByteArray × Unit
abbrev b_tree_mapper_parts : Type := ByteArray × (Thing × Unit)
def c_tree_mapper_parts : CodL EE a_tree_mapper_parts := .cons (.agg (.cons cT .nil)) (.cons cStr .nil)
def rc_tree_mapper_parts : RC EE b_tree_mapper_parts := RC.oneR cStr (.cons cT .nil)
abbrev a_tree_each_Rec : Type := (List TRec) × (Thing × Unit) × Unit
abbrev b_tree_each_Rec : Type := (List TRec) × (Thing × Unit)
def c_tree_each_Rec : CodL EE a_tree_each_Rec := .cons (cSl 44) (.cons (.c (cellMth 41 (.cons cT .nil))) .nil)
def rc_tree_each_Rec : RC EE b_tree_each_Rec := RC.oneR (cSl 44) (.cons cT .nil)
def co_tree_each_Rec : Co := { res := [[.sl 44]] }
abbrev a_tree_mapper_rec : Type := (Thing × Unit) × TRec × Unit
abbrev b_tree_mapper_rec : Type := TRec × (Thing × Unit)
def c_tree_mapper_rec : CodL EE a_tree_mapper_rec := .cons (.agg (.cons cT .nil)) (.cons c_TRec .nil)
def rc_tree_mapper_rec : RC EE b_tree_mapper_rec := RC.oneR c_TRec (.cons cT .nil)
def co_tree_mapper_rec : Co := { res := [[.sl 9, .sl 9, .any, .sl 46, .sl 9]] }
abbrev a_tree_each_Var : Type := (List TVar) × (Thing × Unit) × Unit
abbrev b_tree_each_Var : Type := (List TVar) × (Thing × Unit)
def c_tree_each_Var : CodL EE a_tree_each_Var := .cons (cSl 54) (.cons (.c (cellMth 43 (.cons cT .nil))) .nil)
def rc_tree_each_Var : RC EE b_tree_each_Var := RC.oneR (cSl 54) (.cons cT .nil)
def co_tree_each_Var : Co := { res := [[.sl 54]] }
abbrev a_tree_mapper_variable : Type := (Thing × Unit) × TVar × Unit
abbrev b_tree_mapper_variable : Type := TVar × (Thing × Unit)
def c_tree_mapper_variable : CodL EE a_tree_mapper_variable := .cons (.agg (.cons cT .nil)) (.cons c_TVar .nil)
def rc_tree_mapper_variable : RC EE b_tree_mapper_variable := RC.oneR c_TVar (.cons cT .nil)
def co_tree_mapper_variable : Co := { res := [[.sl 9, .sl 9, .any, .any, .any, .any]] }
abbrev a_tree_each_Routine : Type := (List TRoutine) × (Thing × Unit) × Unit
abbrev b_tree_each_Routine : Type := (List TRoutine) × (Thing × Unit)
def c_tree_each_Routine : CodL EE a_tree_each_Routine := .cons (cSl 66) (.cons (.c (cellMth 45 (.cons cT .nil))) .nil)
def rc_tree_each_Routine : RC EE b_tree_each_Routine := RC.oneR (cSl 66) (.cons cT .nil)
def co_tree_each_Routine : Co := { res := [[.sl 66]] }
abbrev a_tree_mapper_routine : Type := (Thing × Unit) × TRoutine × Unit
abbrev b_tree_mapper_routine : Type := TRoutine × (Thing × Unit)
def c_tree_mapper_routine : CodL EE a_tree_mapper_routine := .cons (.agg (.cons cT .nil)) (.cons c_TRoutine .nil)
def rc_tree_mapper_routine : RC EE b_tree_mapper_routine := RC.oneR c_TRoutine (.cons cT .nil)
def co_tree_mapper_routine : Co := { res := [[.sl 9, .sl 9, .any, .any, .sl 68, .sl 54, .sl 66, .sl 73, .sl 9]] }
abbrev a_tree_each_Stmt : Type := (List TStmt) × (Thing × Unit) × Unit
abbrev b_tree_each_Stmt : Type := (List TStmt) × (Thing × Unit)
def c_tree_each_Stmt : CodL EE a_tree_each_Stmt := .cons (cSl 73) (.cons (.c (cellMth 47 (.cons cT .nil))) .nil)
def rc_tree_each_Stmt : RC EE b_tree_each_Stmt := RC.oneR (cSl 73) (.cons cT .nil)
def co_tree_each_Stmt : Co := { res := [[.sl 73]] }
abbrev a_tree_mapper_stmt : Type := (Thing × Unit) × TStmt × Unit
abbrev b_tree_mapper_stmt : Type := TStmt × (Thing × Unit)
def c_tree_mapper_stmt : CodL EE a_tree_mapper_stmt := .cons (.agg (.cons cT .nil)) (.cons c_TStmt .nil)
def rc_tree_mapper_stmt : RC EE b_tree_mapper_stmt := RC.oneR c_TStmt (.cons cT .nil)
def co_tree_mapper_stmt : Co := { res := [[.sl 9, .sl 9, .any, .any, .any, .any, .any, .any, .sl 71, .sl 71, .any, .any, .sl 73, .sl 73, .sl 9, .sl 9]] }
abbrev a_slices_Index_string : Type := (List ByteArray) × ByteArray × Unit
abbrev b_slices_Index_string : Type := Int
def c_slices_Index_string : CodL EE a_slices_Index_string := .cons (cSl 9) (.cons cStr .nil)
def rc_slices_Index_string : RC EE b_slices_Index_string := RC.one (cInt .i64)
def co_slices_Index_string : Co := { res := [[.any]] }
abbrev a_tree_mapper_marks : Type := (Thing × Unit) × TMarks × Unit
abbrev b_tree_mapper_marks : Type := TMarks × (Thing × Unit)
def c_tree_mapper_marks : CodL EE a_tree_mapper_marks := .cons (.agg (.cons cT .nil)) (.cons c_TMarks .nil)
def rc_tree_mapper_marks : RC EE b_tree_mapper_marks := RC.oneR c_TMarks (.cons cT .nil)
def co_tree_mapper_marks : Co := { res := [[.sl 9, .sl 9]] }
abbrev a_tree_each_Field : Type := (List TField) × (Unit × (Thing × Unit) × Unit) × Unit
abbrev b_tree_each_Field : Type := (List TField) × (Thing × Unit)
def c_tree_each_Field : CodL EE a_tree_each_Field := .cons (cSl 46) (.cons (.c (cellClo 56 .nil (.cons (cellRQ 0 (.cons cT .nil)) .nil))) .nil)
def rc_tree_each_Field : RC EE b_tree_each_Field := RC.oneR (cSl 46) (.cons cT .nil)
def co_tree_each_Field : Co := { res := [[.sl 46]] }
abbrev a_tree_mapper_rec_1 : Type := TField × (Thing × Unit) × Unit
abbrev b_tree_mapper_rec_1 : Type := TField × (Thing × Unit)
def c_tree_mapper_rec_1 : CodL EE a_tree_mapper_rec_1 := .cons c_TField (.cons (.c (cellRQ 0 (.cons cT .nil))) .nil)
def rc_tree_mapper_rec_1 : RC EE b_tree_mapper_rec_1 := RC.oneR c_TField (.cons cT .nil)
def co_tree_mapper_rec_1 : Co := { res := [[.sl 9, .sl 9, .any, .any]] }
abbrev a_tree_mapper_typ : Type := (Thing × Unit) × TType × Unit
abbrev b_tree_mapper_typ : Type := TType × (Thing × Unit)
def c_tree_mapper_typ : CodL EE a_tree_mapper_typ := .cons (.agg (.cons cT .nil)) (.cons c_TType .nil)
def rc_tree_mapper_typ : RC EE b_tree_mapper_typ := RC.oneR c_TType (.cons cT .nil)
def co_tree_mapper_typ : Co := { res := [[.any, .any, .any]] }
abbrev a_tree_each_Param : Type := (List TParam) × (Unit × (Thing × Unit) × Unit) × Unit
abbrev b_tree_each_Param : Type := (List TParam) × (Thing × Unit)
def c_tree_each_Param : CodL EE a_tree_each_Param := .cons (cSl 68) (.cons (.c (cellClo 59 .nil (.cons (cellRQ 0 (.cons cT .nil)) .nil))) .nil)
def rc_tree_each_Param : RC EE b_tree_each_Param := RC.oneR (cSl 68) (.cons cT .nil)
def co_tree_each_Param : Co := { res := [[.sl 68]] }
abbrev a_tree_mapper_routine_1 : Type := TParam × (Thing × Unit) × Unit
abbrev b_tree_mapper_routine_1 : Type := TParam × (Thing × Unit)
def c_tree_mapper_routine_1 : CodL EE a_tree_mapper_routine_1 := .cons c_TParam (.cons (.c (cellRQ 0 (.cons cT .nil))) .nil)
def rc_tree_mapper_routine_1 : RC EE b_tree_mapper_routine_1 := RC.oneR c_TParam (.cons cT .nil)
def co_tree_mapper_routine_1 : Co := { res := [[.any, .any, .any, .any, .any]] }
abbrev a_tree_mapper_expr : Type := (Thing × Unit) × TExpr × Unit
abbrev b_tree_mapper_expr : Type := TExpr × (Thing × Unit)
def c_tree_mapper_expr : CodL EE a_tree_mapper_expr := .cons (.agg (.cons cT .nil)) (.cons c_TExpr .nil)
def rc_tree_mapper_expr : RC EE b_tree_mapper_expr := RC.oneR c_TExpr (.cons cT .nil)
def co_tree_mapper_expr : Co := { res := [[.any, .any, .any, .any, .sl 71]] }
abbrev a_tree_each_Expr : Type := (List TExpr) × (Thing × Unit) × Unit
abbrev b_tree_each_Expr : Type := (List TExpr) × (Thing × Unit)
def c_tree_each_Expr : CodL EE a_tree_each_Expr := .cons (cSl 71) (.cons (.c (cellMth 60 (.cons cT .nil))) .nil)
def rc_tree_each_Expr : RC EE b_tree_each_Expr := RC.oneR (cSl 71) (.cons cT .nil)
def co_tree_each_Expr : Co := { res := [[.sl 71]] }
abbrev a_by : Type := Thing × ByteArray × Unit
abbrev b_by : Type := ByteArray × (Thing × Unit)
def c_by : CodL EE a_by := .cons (.c cT) (.cons cStr .nil)
def rc_by : RC EE b_by := RC.oneR cStr (.cons cT .nil)
structure Fam where
  f_w16_RenameApart : a_w16_RenameApart → Option b_w16_RenameApart
  f_w16_RenameTwice : a_w16_RenameTwice → Option b_w16_RenameTwice
  f_w16_RenameNone : a_w16_RenameNone → Option b_w16_RenameNone
  f_r07_Names : a_r07_Names → Option b_r07_Names
  f_w16_awake : a_w16_awake → Option b_w16_awake
  f_rename_Apply : a_rename_Apply → Option b_rename_Apply
  f_r04_Is : a_r04_Is → Option b_r04_Is
  f_r07_Same : a_r07_Same → Option b_r07_Same
  f_r07_Parts : a_r07_Parts → Option b_r07_Parts
  f_r07_varNames : a_r07_varNames → Option b_r07_varNames
  f_r07_routineNames : a_r07_routineNames → Option b_r07_routineNames
  f_r07_stmtNames : a_r07_stmtNames → Option b_r07_stmtNames
  f_r04_Among : a_r04_Among → Option b_r04_Among
  f_r16_SamePairs : a_r16_SamePairs → Option b_r16_SamePairs
  f_rename_Table : a_rename_Table → Option b_rename_Table
  f_tree_Rename : a_tree_Rename → Option b_tree_Rename
  f_r04_All : a_r04_All → Option b_r04_All
  f_r01_SameTexts : a_r01_SameTexts → Option b_r01_SameTexts
  f_r07_sameMarks : a_r07_sameMarks → Option b_r07_sameMarks
  f_r07_sameVars : a_r07_sameVars → Option b_r07_sameVars
  f_r07_SameRoutines : a_r07_SameRoutines → Option b_r07_SameRoutines
  f_r07_SameStmts : a_r07_SameStmts → Option b_r07_SameStmts
  f_r07_ExprNames : a_r07_ExprNames → Option b_r07_ExprNames
  f_tree_Names : a_tree_Names → Option b_tree_Names
  f_slices_Clone_string : a_slices_Clone_string → Option b_slices_Clone_string
  f_words_Clash : a_words_Clash → Option b_words_Clash
  f_words_Fresh : a_words_Fresh → Option b_words_Fresh
  f_tree_Rename_1 : a_tree_Rename_1 → Option b_tree_Rename_1
  f_tree_mapper_program : a_tree_mapper_program → Option b_tree_mapper_program
  f_r07_SameExpr : a_r07_SameExpr → Option b_r07_SameExpr
  f_r07_SameExprs : a_r07_SameExprs → Option b_r07_SameExprs
  f_words_Is : a_words_Is → Option b_words_Is
  f_slices_Contains_string : a_slices_Contains_string → Option b_slices_Contains_string
  f_strconv_Itoa : a_strconv_Itoa → Option b_strconv_Itoa
  f_tree_mapper_parts : a_tree_mapper_parts → Option b_tree_mapper_parts
  f_tree_each_Rec : a_tree_each_Rec → Option b_tree_each_Rec
  f_tree_mapper_rec : a_tree_mapper_rec → Option b_tree_mapper_rec
  f_tree_each_Var : a_tree_each_Var → Option b_tree_each_Var
  f_tree_mapper_variable : a_tree_mapper_variable → Option b_tree_mapper_variable
  f_tree_each_Routine : a_tree_each_Routine → Option b_tree_each_Routine
  f_tree_mapper_routine : a_tree_mapper_routine → Option b_tree_mapper_routine
  f_tree_each_Stmt : a_tree_each_Stmt → Option b_tree_each_Stmt
  f_tree_mapper_stmt : a_tree_mapper_stmt → Option b_tree_mapper_stmt
  f_slices_Index_string : a_slices_Index_string → Option b_slices_Index_string
  f_tree_mapper_marks : a_tree_mapper_marks → Option b_tree_mapper_marks
  f_tree_each_Field : a_tree_each_Field → Option b_tree_each_Field
  f_tree_mapper_rec_1 : a_tree_mapper_rec_1 → Option b_tree_mapper_rec_1
  f_tree_mapper_typ : a_tree_mapper_typ → Option b_tree_mapper_typ
  f_tree_each_Param : a_tree_each_Param → Option b_tree_each_Param
  f_tree_mapper_routine_1 : a_tree_mapper_routine_1 → Option b_tree_mapper_routine_1
  f_tree_mapper_expr : a_tree_mapper_expr → Option b_tree_mapper_expr
  f_tree_each_Expr : a_tree_each_Expr → Option b_tree_each_Expr
  f_by : a_by → Option b_by
def table (s : Fam) : List (Nat × (List (AV II) → Tree (RV II))) :=
  [(3, ansOf c_w16_RenameApart rc_w16_RenameApart.enc s.f_w16_RenameApart),
   (4, ansOf c_w16_RenameTwice rc_w16_RenameTwice.enc s.f_w16_RenameTwice),
   (5, ansOf c_w16_RenameNone rc_w16_RenameNone.enc s.f_w16_RenameNone),
   (6, ansOf c_r07_Names rc_r07_Names.enc s.f_r07_Names),
   (7, ansOf c_w16_awake rc_w16_awake.enc s.f_w16_awake),
   (8, ansOf c_rename_Apply rc_rename_Apply.enc s.f_rename_Apply),
   (9, ansOf c_r04_Is rc_r04_Is.enc s.f_r04_Is),
   (10, ansOf c_r07_Same rc_r07_Same.enc s.f_r07_Same),
   (11, ansOf c_r07_Parts rc_r07_Parts.enc s.f_r07_Parts),
   (12, ansOf c_r07_varNames rc_r07_varNames.enc s.f_r07_varNames),
   (13, ansOf c_r07_routineNames rc_r07_routineNames.enc s.f_r07_routineNames),
   (14, ansOf c_r07_stmtNames rc_r07_stmtNames.enc s.f_r07_stmtNames),
   (15, ansOf c_r04_Among rc_r04_Among.enc s.f_r04_Among),
   (16, ansOf c_r16_SamePairs rc_r16_SamePairs.enc s.f_r16_SamePairs),
   (17, ansOf c_rename_Table rc_rename_Table.enc s.f_rename_Table),
   (18, ansOf c_tree_Rename rc_tree_Rename.enc s.f_tree_Rename),
   (19, ansOf c_r04_All rc_r04_All.enc s.f_r04_All),
   (20, ansOf c_r01_SameTexts rc_r01_SameTexts.enc s.f_r01_SameTexts),
   (21, ansOf c_r07_sameMarks rc_r07_sameMarks.enc s.f_r07_sameMarks),
   (22, ansOf c_r07_sameVars rc_r07_sameVars.enc s.f_r07_sameVars),
   (23, ansOf c_r07_SameRoutines rc_r07_SameRoutines.enc s.f_r07_SameRoutines),
   (24, ansOf c_r07_SameStmts rc_r07_SameStmts.enc s.f_r07_SameStmts),
   (25, ansOf c_r07_ExprNames rc_r07_ExprNames.enc s.f_r07_ExprNames),
   (26, ansOf c_tree_Names rc_tree_Names.enc s.f_tree_Names),
   (27, ansOf c_slices_Clone_string rc_slices_Clone_string.enc s.f_slices_Clone_string),
   (28, ansOf c_words_Clash rc_words_Clash.enc s.f_words_Clash),
   (29, ansOf c_words_Fresh rc_words_Fresh.enc s.f_words_Fresh),
   (30, ansOf c_tree_Rename_1 rc_tree_Rename_1.enc s.f_tree_Rename_1),
   (31, ansOf c_tree_mapper_program rc_tree_mapper_program.enc s.f_tree_mapper_program),
   (32, ansOf c_r07_SameExpr rc_r07_SameExpr.enc s.f_r07_SameExpr),
   (33, ansOf c_r07_SameExprs rc_r07_SameExprs.enc s.f_r07_SameExprs),
   (36, ansOf c_words_Is rc_words_Is.enc s.f_words_Is),
   (37, ansOf c_slices_Contains_string rc_slices_Contains_string.enc s.f_slices_Contains_string),
   (38, ansOf c_strconv_Itoa rc_strconv_Itoa.enc s.f_strconv_Itoa),
   (39, ansOf c_tree_mapper_parts rc_tree_mapper_parts.enc s.f_tree_mapper_parts),
   (40, ansOf c_tree_each_Rec rc_tree_each_Rec.enc s.f_tree_each_Rec),
   (41, ansOf c_tree_mapper_rec rc_tree_mapper_rec.enc s.f_tree_mapper_rec),
   (42, ansOf c_tree_each_Var rc_tree_each_Var.enc s.f_tree_each_Var),
   (43, ansOf c_tree_mapper_variable rc_tree_mapper_variable.enc s.f_tree_mapper_variable),
   (44, ansOf c_tree_each_Routine rc_tree_each_Routine.enc s.f_tree_each_Routine),
   (45, ansOf c_tree_mapper_routine rc_tree_mapper_routine.enc s.f_tree_mapper_routine),
   (46, ansOf c_tree_each_Stmt rc_tree_each_Stmt.enc s.f_tree_each_Stmt),
   (47, ansOf c_tree_mapper_stmt rc_tree_mapper_stmt.enc s.f_tree_mapper_stmt),
   (50, ansOf c_slices_Index_string rc_slices_Index_string.enc s.f_slices_Index_string),
   (54, ansOf c_tree_mapper_marks rc_tree_mapper_marks.enc s.f_tree_mapper_marks),
   (55, ansOf c_tree_each_Field rc_tree_each_Field.enc s.f_tree_each_Field),
   (56, ansOf c_tree_mapper_rec_1 rc_tree_mapper_rec_1.enc s.f_tree_mapper_rec_1),
   (57, ansOf c_tree_mapper_typ rc_tree_mapper_typ.enc s.f_tree_mapper_typ),
   (58, ansOf c_tree_each_Param rc_tree_each_Param.enc s.f_tree_each_Param),
   (59, ansOf c_tree_mapper_routine_1 rc_tree_mapper_routine_1.enc s.f_tree_mapper_routine_1),
   (60, ansOf c_tree_mapper_expr rc_tree_mapper_expr.enc s.f_tree_mapper_expr),
   (61, ansOf c_tree_each_Expr rc_tree_each_Expr.enc s.f_tree_each_Expr),
   (1000003, ansOf c_by rc_by.enc s.f_by)]
def sp (s : Fam) : Nat → List (AV II) → Tree (RV II) := look (table s)
end Go.Ev
end
section
namespace Go.Ev
def h_r01_SameTexts : Nat → Hint
  | 4 => ⟨[0, 1, 5], [], [], []⟩
  | _ => ⟨[], [], [], []⟩
def h_r04_All : Nat → Hint
  | _ => ⟨[], [], [], []⟩
def h_r04_Among : Nat → Hint
  | 2 => ⟨[0, 1, 5], [], [], []⟩
  | _ => ⟨[], [], [], []⟩
def h_r04_Is : Nat → Hint
  | _ => ⟨[], [], [], []⟩
def h_r07_ExprNames : Nat → Hint
  | 3 => ⟨[1, 3, 4], [1], [(3, 9)], [(1, (4, 71))]⟩
  | _ => ⟨[], [], [], []⟩
def h_r07_Names : Nat → Hint
  | 15 => ⟨[3, 6, 7], [], [(3, 9), (6, 9)], []⟩
  | 7 => ⟨[1, 3, 4, 5], [1], [(3, 9)], [(1, (1, 9)), (1, (2, 9)), (1, (3, 9)), (1, (4, 44)), (1, (5, 54)), (1, (6, 66)), (1, (7, 73)), (1, (8, 9))]⟩
  | 3 => ⟨[1, 3, 4], [1], [(3, 9)], [(1, (1, 9)), (1, (2, 9)), (1, (3, 9)), (1, (4, 44)), (1, (5, 54)), (1, (6, 66)), (1, (7, 73)), (1, (8, 9))]⟩
  | _ => ⟨[], [], [], []⟩
def h_r07_Parts : Nat → Hint
  | 4 => ⟨[0, 3, 4, 5], [], [(3, 9)], []⟩
  | _ => ⟨[], [], [], []⟩
def h_r07_Same : Nat → Hint
  | 10 => ⟨[2, 3, 5, 6, 7, 8], [2, 3, 6, 7], [], [(2, (1, 9)), (2, (2, 9)), (2, (3, 9)), (2, (4, 44)), (2, (5, 54)), (2, (6, 66)), (2, (7, 73)), (2, (8, 9)), (3, (1, 9)), (3, (2, 9)), (3, (3, 9)), (3, (4, 44)), (3, (5, 54)), (3, (6, 66)), (3, (7, 73)), (3, (8, 9)), (6, (0, 9)), (6, (1, 9)), (6, (3, 46)), (6, (4, 9)), (7, (0, 9)), (7, (1, 9)), (7, (3, 46)), (7, (4, 9))]⟩
  | 4 => ⟨[2, 3, 5], [2, 3], [], [(2, (1, 9)), (2, (2, 9)), (2, (3, 9)), (2, (4, 44)), (2, (5, 54)), (2, (6, 66)), (2, (7, 73)), (2, (8, 9)), (3, (1, 9)), (3, (2, 9)), (3, (3, 9)), (3, (4, 44)), (3, (5, 54)), (3, (6, 66)), (3, (7, 73)), (3, (8, 9))]⟩
  | _ => ⟨[], [], [], []⟩
def h_r07_SameExpr : Nat → Hint
  | _ => ⟨[], [], [], []⟩
def h_r07_SameExprs : Nat → Hint
  | 4 => ⟨[0, 1, 5], [], [], []⟩
  | _ => ⟨[], [], [], []⟩
def h_r07_SameRoutines : Nat → Hint
  | 10 => ⟨[0, 1, 5, 6, 7, 8], [6, 7], [], [(6, (0, 9)), (6, (1, 9)), (6, (4, 68)), (6, (5, 54)), (6, (6, 66)), (6, (7, 73)), (6, (8, 9)), (7, (0, 9)), (7, (1, 9)), (7, (4, 68)), (7, (5, 54)), (7, (6, 66)), (7, (7, 73)), (7, (8, 9))]⟩
  | 4 => ⟨[0, 1, 5], [], [], []⟩
  | _ => ⟨[], [], [], []⟩
def h_r07_SameStmts : Nat → Hint
  | 4 => ⟨[0, 1, 5], [], [], []⟩
  | _ => ⟨[], [], [], []⟩
def h_r07_routineNames : Nat → Hint
  | 8 => ⟨[0, 3, 4, 5, 6], [5], [(3, 9)], [(5, (0, 9)), (5, (1, 9)), (5, (4, 68)), (5, (5, 54)), (5, (6, 66)), (5, (7, 73)), (5, (8, 9))]⟩
  | 3 => ⟨[0, 3, 4], [], [(3, 9)], []⟩
  | _ => ⟨[], [], [], []⟩
def h_r07_sameMarks : Nat → Hint
  | _ => ⟨[], [], [], []⟩
def h_r07_sameVars : Nat → Hint
  | 4 => ⟨[0, 1, 5], [], [], []⟩
  | _ => ⟨[], [], [], []⟩
def h_r07_stmtNames : Nat → Hint
  | 8 => ⟨[0, 3, 4, 5], [], [(3, 9)], []⟩
  | 3 => ⟨[0, 3, 4], [], [(3, 9)], []⟩
  | _ => ⟨[], [], [], []⟩
def h_r07_varNames : Nat → Hint
  | 3 => ⟨[0, 3, 4], [], [(3, 9)], []⟩
  | _ => ⟨[], [], [], []⟩
def h_r16_SamePairs : Nat → Hint
  | 4 => ⟨[0, 1, 5], [], [], []⟩
  | _ => ⟨[], [], [], []⟩
def h_rename_Apply : Nat → Hint
  | _ => ⟨[], [], [], []⟩
def h_rename_Table : Nat → Hint
  | 5 => ⟨[6, 7, 17, 18, 19], [], [(6, 9), (7, 36), (17, 9)], []⟩
  | _ => ⟨[], [], [], []⟩
def h_slices_Contains_string : Nat → Hint
  | _ => ⟨[], [], [], []⟩
def h_slices_Index_string : Nat → Hint
  | 2 => ⟨[0, 1, 7, 8], [], [], []⟩
  | _ => ⟨[], [], [], []⟩
def h_tree_Rename_1 : Nat → Hint
  | 2 => ⟨[0, 6, 7, 8], [], [(6, 36)], []⟩
  | _ => ⟨[], [], [], []⟩
def h_tree_each_Expr : Nat → Hint
  | 3 => ⟨[1, 5, 8, 9, 10], [], [(5, 71), (8, 71)], []⟩
  | _ => ⟨[], [], [], []⟩
def h_tree_each_Field : Nat → Hint
  | 3 => ⟨[1, 5, 8, 9, 10], [], [(5, 46), (8, 46)], []⟩
  | _ => ⟨[], [], [], []⟩
def h_tree_each_Param : Nat → Hint
  | 3 => ⟨[1, 5, 8, 9, 10], [], [(5, 68), (8, 68)], []⟩
  | _ => ⟨[], [], [], []⟩
def h_tree_each_Rec : Nat → Hint
  | 3 => ⟨[1, 5, 8, 9, 10], [], [(5, 44), (8, 44)], []⟩
  | _ => ⟨[], [], [], []⟩
def h_tree_each_Routine : Nat → Hint
  | 3 => ⟨[1, 5, 8, 9, 10], [], [(5, 66), (8, 66)], []⟩
  | _ => ⟨[], [], [], []⟩
def h_tree_each_Stmt : Nat → Hint
  | 3 => ⟨[1, 5, 8, 9, 10], [], [(5, 73), (8, 73)], []⟩
  | _ => ⟨[], [], [], []⟩
def h_tree_each_Var : Nat → Hint
  | 3 => ⟨[1, 5, 8, 9, 10], [], [(5, 54), (8, 54)], []⟩
  | _ => ⟨[], [], [], []⟩
def h_tree_mapper_expr : Nat → Hint
  | _ => ⟨[], [], [], []⟩
def h_tree_mapper_marks : Nat → Hint
  | _ => ⟨[], [], [], []⟩
def h_tree_mapper_program : Nat → Hint
  | _ => ⟨[], [], [], []⟩
def h_tree_mapper_rec : Nat → Hint
  | _ => ⟨[], [], [], []⟩
def h_tree_mapper_rec_1 : Nat → Hint
  | _ => ⟨[], [], [], []⟩
def h_tree_mapper_routine : Nat → Hint
  | _ => ⟨[], [], [], []⟩
def h_tree_mapper_routine_1 : Nat → Hint
  | _ => ⟨[], [], [], []⟩
def h_tree_mapper_stmt : Nat → Hint
  | _ => ⟨[], [], [], []⟩
def h_tree_mapper_typ : Nat → Hint
  | _ => ⟨[], [], [], []⟩
def h_tree_mapper_variable : Nat → Hint
  | _ => ⟨[], [], [], []⟩
def h_w16_RenameApart : Nat → Hint
  | 17 => ⟨[7, 10, 11], [], [(7, 36)], []⟩
  | 14 => ⟨[7, 10], [], [(7, 36)], []⟩
  | 9 => ⟨[0, 5, 7, 8, 9], [], [(5, 9), (7, 36), (8, 9)], []⟩
  | _ => ⟨[], [], [], []⟩
def h_w16_RenameNone : Nat → Hint
  | 6 => ⟨[0, 3, 5, 6, 7], [3], [(5, 9)], [(3, (1, 9)), (3, (2, 9)), (3, (3, 9)), (3, (4, 44)), (3, (5, 54)), (3, (6, 66)), (3, (7, 73)), (3, (8, 9))]⟩
  | _ => ⟨[], [], [], []⟩
def h_w16_RenameTwice : Nat → Hint
  | _ => ⟨[], [], [], []⟩
def h_w16_awake : Nat → Hint
  | _ => ⟨[], [], [], []⟩
def h_words_Fresh : Nat → Hint
  | 3 => ⟨[0, 1, 5, 6], [], [], []⟩
  | _ => ⟨[], [], [], []⟩
end Go.Ev
end
section
open Go Go.Proofs
namespace Go.Ev
set_option linter.unusedVariables false
set_option linter.unusedSimpArgs false
set_option maxHeartbeats 4000000
set_option maxRecDepth 100000
def Lw16_RenameApart_17 (s : Fam) (k : Nat) (x0 : Int) (x1 : TProgram) (r9 : Int → b_r07_Names → List TPair → b_r07_Names → Int → Option (Bool)) (r14 : List TPair → Int → Option (Bool)) : Nat → List TPair → Int → Int → Option (Bool)
  | 0, _, _, _ => none
  | j17 + 1, uuv0, uuv1, uuv2 => (if decide (uuv2 < (↑uuv0.length : Int)) = Bool.true then (if (uuv1 != uuv2) = Bool.true then (if 0 ≤ uuv1 then (if uuv1 < (↑uuv0.length : Int) then (if 0 ≤ uuv2 then (if uuv2 < (↑uuv0.length : Int) then (if ((uuv0.getD uuv1.toNat dd_TPair).Old.toList == (uuv0.getD uuv2.toNat dd_TPair).Old.toList) = Bool.false then (if 0 ≤ uuv1 then (if uuv1 < (↑uuv0.length : Int) then (if 0 ≤ uuv2 then (if uuv2 < (↑uuv0.length : Int) then (if (Bool.true && (Bool.false || (uuv0.getD uuv1.toNat dd_TPair).New.toList == (uuv0.getD uuv2.toNat dd_TPair).New.toList)) = Bool.true then some (Bool.false) else Lw16_RenameApart_17 s k x0 x1 r9 r14 j17 (uuv0) (uuv1) (Go.IntKind.i64.wrap (uuv2 + 1))) else none) else none) else none) else none) else some (Bool.false)) else none) else none) else none) else none) else Lw16_RenameApart_17 s k x0 x1 r9 r14 j17 (uuv0) (uuv1) (Go.IntKind.i64.wrap (uuv2 + 1))) else r14 (uuv0) (Go.IntKind.i64.wrap (uuv1 + 1)))
def Lw16_RenameApart_14 (s : Fam) (k : Nat) (x0 : Int) (x1 : TProgram) (r9 : Int → b_r07_Names → List TPair → b_r07_Names → Int → Option (Bool)) : Nat → List TPair → Int → Option (Bool)
  | 0, _, _ => none
  | j14 + 1, uv0, uv1 => (if decide (uv1 < (↑uv0.length : Int)) = Bool.true then Lw16_RenameApart_17 s k x0 x1 r9 (Lw16_RenameApart_14 s k x0 x1 r9 j14) k (uv0) (uv1) (0) else ((s.f_w16_awake ()).bind fun t97 => some (t97)))
def Lw16_RenameApart_9 (s : Fam) (k : Nat) (x0 : Int) (x1 : TProgram) : Nat → Int → b_r07_Names → List TPair → b_r07_Names → Int → Option (Bool)
  | 0, _, _, _, _, _ => none
  | j9 + 1, v0, v1, v2, v3, v4 => (if decide (v4 < (↑(List.length v3) : Int)) = Bool.true then (if 0 ≤ v4 then (if v4 < (↑(List.length v3) : Int) then ((s.f_r04_Is (v0, List.getD v3 v4.toNat { data := #[] : ByteArray }, ())).bind fun t13 => (if t13 = Bool.false then (if 0 ≤ v4 then (if v4 < (↑(List.length v3) : Int) then (if 0 ≤ v4 then (if v4 < (↑(List.length v1) : Int) then (if 0 ≤ v4 then (if v4 < (↑(List.length v1) : Int) then ((s.f_r04_Is (v0, List.getD v1 v4.toNat { data := #[] : ByteArray }, ())).bind fun t24 => (if (Bool.false || !(!(List.getD v3 v4.toNat { data := #[] : ByteArray }).toList == (List.getD v1 v4.toNat { data := #[] : ByteArray }).toList) == t24) = Bool.true then some (Bool.false) else Lw16_RenameApart_9 s k x0 x1 j9 (v0) (v1) (v2) (v3) (Go.IntKind.i64.wrap (v4 + 1)))) else none) else none) else none) else none) else none) else none) else some (Bool.false))) else none) else none) else Lw16_RenameApart_14 s k x0 x1 (Lw16_RenameApart_9 s k x0 x1 j9) k (v2) (0))
def B_w16_RenameApart (s : Fam) (k : Nat) (x0 : Int) (x1 : TProgram) : Option (Bool) := ((s.f_r07_Names (x1, ())).bind fun t1 => (if decide ((↑(List.length t1) : Int) > 300) = Bool.true then ((s.f_w16_awake ()).bind fun t3 => some (t3)) else ((s.f_rename_Apply (x0, x1, ())).bind fun t5 => ((s.f_r07_Names (t5.fst, ())).bind fun t6 => (if ((↑(List.length t6) : Int) != (↑(List.length t1) : Int)) = Bool.true then some (Bool.false) else Lw16_RenameApart_9 s k x0 x1 k (x0) (t1) (t5.snd.fst) (t6) (0))))))
theorem Lw16_RenameApart_17_eq (s : Fam) (k : Nat) (x0 : Int) (x1 : TProgram) (j9 : Nat) (j14 : Nat) (r9 : Int → b_r07_Names → List TPair → b_r07_Names → Int → Option (Bool)) (r14 : List TPair → Int → Option (Bool)) (h9 : ∀ (v0 : Int) (v1 : b_r07_Names) (v2 : List TPair) (v3 : b_r07_Names) (v4 : Int), (loopGo EE (sp s) h_w16_RenameApart co_w16_RenameApart [] k Tryd.f3 9 [] j9 ({ tmps := ofL AV.any [(0, AV.c (CV.d (DV.lit (Go.Value.int Go.IntKind.i64 v0)))), (5, AV.c (CV.d (DV.sl 9 v1))), (7, AV.c (CV.d (DV.sl 36 v2))), (8, AV.c (CV.d (DV.sl 9 v3))), (9, AV.c (CV.d (DV.lit (Go.Value.int Go.IntKind.i64 v4))))], boxes := ofL Option.none [], objs := ofL Option.none [(5, Option.none), (7, Option.none), (8, Option.none)], fxs := ofL Option.none [] : AS II })).run = (r9 v0 v1 v2 v3 v4).map rc_w16_RenameApart.enc) (h14 : ∀ (uv0 : List TPair) (uv1 : Int), (loopGo EE (sp s) h_w16_RenameApart co_w16_RenameApart [] k Tryd.f3 14 [] j14 ({ tmps := ofL AV.any [(7, AV.c (CV.d (DV.sl 36 uv0))), (10, AV.c (CV.d (DV.lit (Go.Value.int Go.IntKind.i64 uv1))))], boxes := ofL Option.none [], objs := ofL Option.none [(7, Option.none)], fxs := ofL Option.none [] : AS II })).run = (r14 uv0 uv1).map rc_w16_RenameApart.enc) : ∀ (j17 : Nat) (uuv0 : List TPair) (uuv1 : Int) (uuv2 : Int), (loopGo EE (sp s) h_w16_RenameApart co_w16_RenameApart [] k Tryd.f3 17 [j14] j17 ({ tmps := ofL AV.any [(7, AV.c (CV.d (DV.sl 36 uuv0))), (10, AV.c (CV.d (DV.lit (Go.Value.int Go.IntKind.i64 uuv1)))), (11, AV.c (CV.d (DV.lit (Go.Value.int Go.IntKind.i64 uuv2))))], boxes := ofL Option.none [], objs := ofL Option.none [(7, Option.none)], fxs := ofL Option.none [] : AS II })).run = (Lw16_RenameApart_17 s k x0 x1 r9 r14 j17 uuv0 uuv1 uuv2).map rc_w16_RenameApart.enc := by
  intro j17
  induction j17 with
  | zero => intros; rfl
  | succ j17 ih =>
    intros
    simp only [Lw16_RenameApart_17, map_ite, map_bindO, map_someO, map_noneO, ← ih, ← h9, ← h14]
    kernel_rfl
theorem Lw16_RenameApart_14_eq (s : Fam) (k : Nat) (x0 : Int) (x1 : TProgram) (j9 : Nat) (r9 : Int → b_r07_Names → List TPair → b_r07_Names → Int → Option (Bool)) (h9 : ∀ (v0 : Int) (v1 : b_r07_Names) (v2 : List TPair) (v3 : b_r07_Names) (v4 : Int), (loopGo EE (sp s) h_w16_RenameApart co_w16_RenameApart [] k Tryd.f3 9 [] j9 ({ tmps := ofL AV.any [(0, AV.c (CV.d (DV.lit (Go.Value.int Go.IntKind.i64 v0)))), (5, AV.c (CV.d (DV.sl 9 v1))), (7, AV.c (CV.d (DV.sl 36 v2))), (8, AV.c (CV.d (DV.sl 9 v3))), (9, AV.c (CV.d (DV.lit (Go.Value.int Go.IntKind.i64 v4))))], boxes := ofL Option.none [], objs := ofL Option.none [(5, Option.none), (7, Option.none), (8, Option.none)], fxs := ofL Option.none [] : AS II })).run = (r9 v0 v1 v2 v3 v4).map rc_w16_RenameApart.enc) : ∀ (j14 : Nat) (uv0 : List TPair) (uv1 : Int), (loopGo EE (sp s) h_w16_RenameApart co_w16_RenameApart [] k Tryd.f3 14 [] j14 ({ tmps := ofL AV.any [(7, AV.c (CV.d (DV.sl 36 uv0))), (10, AV.c (CV.d (DV.lit (Go.Value.int Go.IntKind.i64 uv1))))], boxes := ofL Option.none [], objs := ofL Option.none [(7, Option.none)], fxs := ofL Option.none [] : AS II })).run = (Lw16_RenameApart_14 s k x0 x1 r9 j14 uv0 uv1).map rc_w16_RenameApart.enc := by
  intro j14
  induction j14 with
  | zero => intros; rfl
  | succ j14 ih =>
    have q0 := Lw16_RenameApart_17_eq s k x0 x1 j9 j14 r9 (Lw16_RenameApart_14 s k x0 x1 r9 j14) h9 ih
    intros
    simp only [Lw16_RenameApart_14, map_ite, map_bindO, map_someO, map_noneO, ← ih, ← h9, ← q0]
    kernel_rfl
theorem Lw16_RenameApart_9_eq (s : Fam) (k : Nat) (x0 : Int) (x1 : TProgram) : ∀ (j9 : Nat) (v0 : Int) (v1 : b_r07_Names) (v2 : List TPair) (v3 : b_r07_Names) (v4 : Int), (loopGo EE (sp s) h_w16_RenameApart co_w16_RenameApart [] k Tryd.f3 9 [] j9 ({ tmps := ofL AV.any [(0, AV.c (CV.d (DV.lit (Go.Value.int Go.IntKind.i64 v0)))), (5, AV.c (CV.d (DV.sl 9 v1))), (7, AV.c (CV.d (DV.sl 36 v2))), (8, AV.c (CV.d (DV.sl 9 v3))), (9, AV.c (CV.d (DV.lit (Go.Value.int Go.IntKind.i64 v4))))], boxes := ofL Option.none [], objs := ofL Option.none [(5, Option.none), (7, Option.none), (8, Option.none)], fxs := ofL Option.none [] : AS II })).run = (Lw16_RenameApart_9 s k x0 x1 j9 v0 v1 v2 v3 v4).map rc_w16_RenameApart.enc := by
  intro j9
  induction j9 with
  | zero => intros; rfl
  | succ j9 ih =>
    have q0 := Lw16_RenameApart_14_eq s k x0 x1 j9 (Lw16_RenameApart_9 s k x0 x1 j9) ih
    intros
    simp only [Lw16_RenameApart_9, map_ite, map_bindO, map_someO, map_noneO, ← ih, ← q0]
    kernel_rfl
theorem e_w16_RenameApart (s : Fam) (k : Nat) (x : a_w16_RenameApart) : (evFunC EE (sp s) h_w16_RenameApart co_w16_RenameApart k Tryd.f3 (c_w16_RenameApart.enc x)).run = (B_w16_RenameApart s k x.1 x.2.1).map rc_w16_RenameApart.enc := by
  simp only [B_w16_RenameApart, map_ite, map_bindO, map_someO, map_noneO, ← Lw16_RenameApart_9_eq]
  kernel_rfl
-- 98 nodes
def B_w16_RenameTwice (s : Fam) (k : Nat) (x0 : Int) (x1 : TProgram) : Option (Bool) := ((s.f_r07_Names (x1, ())).bind fun t1 => (if decide ((↑(List.length t1) : Int) > 300) = Bool.true then ((s.f_w16_awake ()).bind fun t3 => some (t3)) else ((s.f_rename_Apply (x0, x1, ())).bind fun t5 => ((s.f_rename_Apply (x0, t5.fst, ())).bind fun t6 => (if ((↑t6.snd.fst.length : Int) == 0) = Bool.true then ((s.f_r07_Same (t5.fst, t6.fst, ())).bind fun t8 => (if (Bool.true && t8) = Bool.true then ((s.f_w16_awake ()).bind fun t10 => some (Bool.true && t10)) else some (Bool.false))) else some (Bool.false))))))
theorem e_w16_RenameTwice (s : Fam) (k : Nat) (x : a_w16_RenameTwice) : (evFunC EE (sp s) h_w16_RenameTwice co_w16_RenameTwice k Tryd.f4 (c_w16_RenameTwice.enc x)).run = (B_w16_RenameTwice s k x.1 x.2.1).map rc_w16_RenameTwice.enc := by
  simp only [B_w16_RenameTwice, map_ite, map_bindO, map_someO, map_noneO]
  kernel_rfl
-- 17 nodes
def Lw16_RenameNone_6 (s : Fam) (k : Nat) (x0 : Int) (x1 : TProgram) : Nat → Int → b_r07_Names → Bool → Int → ByteArray → List ByteArray → List ByteArray → List ByteArray → List TRec → List TVar → List TRoutine → List TStmt → List ByteArray → Option (Bool)
  | 0, _, _, _, _, _, _, _, _, _, _, _, _, _ => none
  | j6 + 1, v0, v1, v2, v3, v4, v5, v6, v7, v8, v9, v10, v11, v12 => (if decide (v3 < (↑(List.length v1) : Int)) = Bool.true then (if v2 = Bool.false then (if 0 ≤ v3 then (if v3 < (↑(List.length v1) : Int) then ((s.f_r04_Is (v0, List.getD v1 v3.toNat { data := #[] : ByteArray }, ())).bind fun t11 => Lw16_RenameNone_6 s k x0 x1 j6 (v0) (v1) (Bool.false || t11) (Go.IntKind.i64.wrap (v3 + 1)) (v4) (v5) (v6) (v7) (v8) (v9) (v10) (v11) (v12)) else none) else none) else Lw16_RenameNone_6 s k x0 x1 j6 (v0) (v1) (Bool.true) (Go.IntKind.i64.wrap (v3 + 1)) (v4) (v5) (v6) (v7) (v8) (v9) (v10) (v11) (v12)) else ((s.f_rename_Apply (v0, { Name := v4, Before := v5, Mid := v6, After := v7, Recs := v8, Vars := v9, Routines := v10, Body := v11, End := v12 : TProgram }, ())).bind fun t19 => (if (v2 == decide ((↑t19.snd.fst.length : Int) > 0)) = Bool.true then (if v2 = Bool.false then ((s.f_r07_Same ({ Name := v4, Before := v5, Mid := v6, After := v7, Recs := v8, Vars := v9, Routines := v10, Body := v11, End := v12 : TProgram }, t19.fst, ())).bind fun t22 => (if (Bool.true && (Bool.false || t22)) = Bool.true then ((s.f_w16_awake ()).bind fun t24 => some (Bool.true && t24)) else some (Bool.false))) else ((s.f_w16_awake ()).bind fun t31 => some (Bool.true && t31))) else some (Bool.false))))
def B_w16_RenameNone (s : Fam) (k : Nat) (x0 : Int) (x1 : TProgram) : Option (Bool) := ((s.f_r07_Names (x1, ())).bind fun t1 => (if decide ((↑(List.length t1) : Int) > 300) = Bool.true then ((s.f_w16_awake ()).bind fun t3 => some (t3)) else Lw16_RenameNone_6 s k x0 x1 k (x0) (t1) (Bool.false) (0) (x1.Name) (x1.Before) (x1.Mid) (x1.After) (x1.Recs) (x1.Vars) (x1.Routines) (x1.Body) (x1.End)))
theorem Lw16_RenameNone_6_eq (s : Fam) (k : Nat) (x0 : Int) (x1 : TProgram) : ∀ (j6 : Nat) (v0 : Int) (v1 : b_r07_Names) (v2 : Bool) (v3 : Int) (v4 : ByteArray) (v5 : List ByteArray) (v6 : List ByteArray) (v7 : List ByteArray) (v8 : List TRec) (v9 : List TVar) (v10 : List TRoutine) (v11 : List TStmt) (v12 : List ByteArray), (loopGo EE (sp s) h_w16_RenameNone co_w16_RenameNone [] k Tryd.f5 6 [] j6 ({ tmps := ofL AV.any [(0, AV.c (CV.d (DV.lit (Go.Value.int Go.IntKind.i64 v0)))), (3, AV.c (CV.ptr 3 0)), (5, AV.c (CV.d (DV.sl 9 v1))), (6, AV.c (CV.d (DV.lit (Go.Value.bool v2)))), (7, AV.c (CV.d (DV.lit (Go.Value.int Go.IntKind.i64 v3))))], boxes := ofL Option.none [(3, Option.some [CV.d (DV.lit (Go.Value.string v4)), CV.d (DV.sl 9 v5), CV.d (DV.sl 9 v6), CV.d (DV.sl 9 v7), CV.d (DV.sl 44 v8), CV.d (DV.sl 54 v9), CV.d (DV.sl 66 v10), CV.d (DV.sl 73 v11), CV.d (DV.sl 9 v12)])], objs := ofL Option.none [(5, Option.none), (1099511640065, Option.none), (1099511640066, Option.none), (1099511640067, Option.none), (1099511640068, Option.none), (1099511640069, Option.none), (1099511640070, Option.none), (1099511640071, Option.none), (1099511640072, Option.none)], fxs := ofL Option.none [(3, Option.none)] : AS II })).run = (Lw16_RenameNone_6 s k x0 x1 j6 v0 v1 v2 v3 v4 v5 v6 v7 v8 v9 v10 v11 v12).map rc_w16_RenameNone.enc := by
  intro j6
  induction j6 with
  | zero => intros; rfl
  | succ j6 ih =>
    intros
    simp only [Lw16_RenameNone_6, map_ite, map_bindO, map_someO, map_noneO, ← ih]
    kernel_rfl
theorem e_w16_RenameNone (s : Fam) (k : Nat) (x : a_w16_RenameNone) : (evFunC EE (sp s) h_w16_RenameNone co_w16_RenameNone k Tryd.f5 (c_w16_RenameNone.enc x)).run = (B_w16_RenameNone s k x.1 x.2.1).map rc_w16_RenameNone.enc := by
  simp only [B_w16_RenameNone, map_ite, map_bindO, map_someO, map_noneO, ← Lw16_RenameNone_6_eq]
  kernel_rfl
-- 37 nodes
def Lr07_Names_7 (s : Fam) (k : Nat) (x0 : TProgram) (r3 : Int → ByteArray → List ByteArray → List ByteArray → List ByteArray → List TRec → List TVar → List TRoutine → List TStmt → List ByteArray → List ByteArray → Option (List ByteArray)) : Nat → Int → Int → ByteArray → List ByteArray → List ByteArray → List ByteArray → List TRec → List TVar → List TRoutine → List TStmt → List ByteArray → List ByteArray → Option (List ByteArray)
  | 0, _, _, _, _, _, _, _, _, _, _, _, _ => none
  | j7 + 1, uv0, uv1, uv2, uv3, uv4, uv5, uv6, uv7, uv8, uv9, uv10, uv11 => (if 0 ≤ uv0 then (if uv0 < (↑uv6.length : Int) then (if decide (uv1 < (↑(uv6.getD uv0.toNat dd_TRec).Fields.length : Int)) = Bool.true then (if 0 ≤ uv0 then (if uv0 < (↑uv6.length : Int) then (if 0 ≤ uv1 then (if uv1 < (↑(uv6.getD uv0.toNat dd_TRec).Fields.length : Int) then ((s.f_r07_Parts (((uv6.getD uv0.toNat dd_TRec).Fields.getD uv1.toNat dd_TField).Name, ())).bind fun t16 => (if (uv11 ++ t16).length * 16 ≤ 140737488355328 then Lr07_Names_7 s k x0 r3 j7 (uv0) (Go.IntKind.i64.wrap (uv1 + 1)) (uv2) (uv3) (uv4) (uv5) (uv6) (uv7) (uv8) (uv9) (uv10) (uv11 ++ t16) else none)) else none) else none) else none) else none) else r3 (Go.IntKind.i64.wrap (uv0 + 1)) (uv2) (uv3) (uv4) (uv5) (uv6) (uv7) (uv8) (uv9) (uv10) (uv11)) else none) else none)
def Lr07_Names_15 (s : Fam) (k : Nat) (x0 : TProgram) (r3 : Int → ByteArray → List ByteArray → List ByteArray → List ByteArray → List TRec → List TVar → List TRoutine → List TStmt → List ByteArray → List ByteArray → Option (List ByteArray)) : Nat → Int → List ByteArray → List ByteArray → Option (List ByteArray)
  | 0, _, _, _ => none
  | j15 + 1, uv0, uv1, uv2 => (if decide (uv0 < (↑uv1.length : Int)) = Bool.true then (if 0 ≤ uv0 then (if uv0 < (↑uv1.length : Int) then (if (!(uv1.getD uv0.toNat { data := #[] : ByteArray }).toList == { data := #[] : ByteArray }.toList) = Bool.true then (if 0 ≤ uv0 then (if uv0 < (↑uv1.length : Int) then ((s.f_r04_Among (uv2, uv1.getD uv0.toNat { data := #[] : ByteArray }, ())).bind fun t44 => (if (Bool.true && !t44) = Bool.true then (if 0 ≤ uv0 then (if uv0 < (↑uv1.length : Int) then (if (uv2 ++ [uv1.getD uv0.toNat { data := #[] : ByteArray }]).length * 16 ≤ 140737488355328 then Lr07_Names_15 s k x0 r3 j15 (Go.IntKind.i64.wrap (uv0 + 1)) (uv1) (uv2 ++ [uv1.getD uv0.toNat { data := #[] : ByteArray }]) else none) else none) else none) else Lr07_Names_15 s k x0 r3 j15 (Go.IntKind.i64.wrap (uv0 + 1)) (uv1) (uv2))) else none) else none) else Lr07_Names_15 s k x0 r3 j15 (Go.IntKind.i64.wrap (uv0 + 1)) (uv1) (uv2)) else none) else none) else some (uv2))
def Lr07_Names_3 (s : Fam) (k : Nat) (x0 : TProgram) : Nat → Int → ByteArray → List ByteArray → List ByteArray → List ByteArray → List TRec → List TVar → List TRoutine → List TStmt → List ByteArray → List ByteArray → Option (List ByteArray)
  | 0, _, _, _, _, _, _, _, _, _, _, _ => none
  | j3 + 1, v0, v1, v2, v3, v4, v5, v6, v7, v8, v9, v10 => (if decide (v0 < (↑v5.length : Int)) = Bool.true then (if 0 ≤ v0 then (if v0 < (↑v5.length : Int) then ((s.f_r07_Parts ((v5.getD v0.toNat dd_TRec).Name, ())).bind fun t6 => (if (v10 ++ t6).length * 16 ≤ 140737488355328 then Lr07_Names_7 s k x0 (Lr07_Names_3 s k x0 j3) k (v0) (0) (v1) (v2) (v3) (v4) (v5) (v6) (v7) (v8) (v9) (v10 ++ t6) else none)) else none) else none) else ((s.f_r07_varNames (v6, ())).bind fun t30 => (if (v10 ++ t30).length * 16 ≤ 140737488355328 then ((s.f_r07_routineNames (v7, ())).bind fun t32 => (if (v10 ++ t30 ++ t32).length * 16 ≤ 140737488355328 then ((s.f_r07_stmtNames (v8, ())).bind fun t34 => (if (v10 ++ t30 ++ t32 ++ t34).length * 16 ≤ 140737488355328 then Lr07_Names_15 s k x0 (Lr07_Names_3 s k x0 j3) k (0) (v10 ++ t30 ++ t32 ++ t34) ([]) else none)) else none)) else none)))
def B_r07_Names (s : Fam) (k : Nat) (x0 : TProgram) : Option (List ByteArray) := ((s.f_r07_Parts (x0.Name, ())).bind fun t1 => Lr07_Names_3 s k x0 k (0) (x0.Name) (x0.Before) (x0.Mid) (x0.After) (x0.Recs) (x0.Vars) (x0.Routines) (x0.Body) (x0.End) (t1))
theorem Lr07_Names_7_eq (s : Fam) (k : Nat) (x0 : TProgram) (j3 : Nat) (r3 : Int → ByteArray → List ByteArray → List ByteArray → List ByteArray → List TRec → List TVar → List TRoutine → List TStmt → List ByteArray → List ByteArray → Option (List ByteArray)) (h3 : ∀ (v0 : Int) (v1 : ByteArray) (v2 : List ByteArray) (v3 : List ByteArray) (v4 : List ByteArray) (v5 : List TRec) (v6 : List TVar) (v7 : List TRoutine) (v8 : List TStmt) (v9 : List ByteArray) (v10 : List ByteArray), (loopGo EE (sp s) h_r07_Names co_r07_Names [] k Tryd.f6 3 [] j3 ({ tmps := ofL AV.any [(1, AV.c (CV.ptr 1 0)), (3, AV.c (CV.own 3 0)), (4, AV.c (CV.d (DV.lit (Go.Value.int Go.IntKind.i64 v0))))], boxes := ofL Option.none [(1, Option.some [CV.d (DV.lit (Go.Value.string v1)), CV.d (DV.sl 9 v2), CV.d (DV.sl 9 v3), CV.d (DV.sl 9 v4), CV.d (DV.sl 44 v5), CV.d (DV.sl 54 v6), CV.d (DV.sl 66 v7), CV.d (DV.sl 73 v8), CV.d (DV.sl 9 v9)])], objs := ofL Option.none [(3, Option.some { ver := 0, t := 9, xs := v10 : Obj II }), (1099511631873, Option.none), (1099511631874, Option.none), (1099511631875, Option.none), (1099511631876, Option.none), (1099511631877, Option.none), (1099511631878, Option.none), (1099511631879, Option.none), (1099511631880, Option.none)], fxs := ofL Option.none [(1, Option.none)] : AS II })).run = (r3 v0 v1 v2 v3 v4 v5 v6 v7 v8 v9 v10).map rc_r07_Names.enc) : ∀ (j7 : Nat) (uv0 : Int) (uv1 : Int) (uv2 : ByteArray) (uv3 : List ByteArray) (uv4 : List ByteArray) (uv5 : List ByteArray) (uv6 : List TRec) (uv7 : List TVar) (uv8 : List TRoutine) (uv9 : List TStmt) (uv10 : List ByteArray) (uv11 : List ByteArray), (loopGo EE (sp s) h_r07_Names co_r07_Names [] k Tryd.f6 7 [j3] j7 ({ tmps := ofL AV.any [(1, AV.c (CV.ptr 1 0)), (3, AV.c (CV.own 3 0)), (4, AV.c (CV.d (DV.lit (Go.Value.int Go.IntKind.i64 uv0)))), (5, AV.c (CV.d (DV.lit (Go.Value.int Go.IntKind.i64 uv1))))], boxes := ofL Option.none [(1, Option.some [CV.d (DV.lit (Go.Value.string uv2)), CV.d (DV.sl 9 uv3), CV.d (DV.sl 9 uv4), CV.d (DV.sl 9 uv5), CV.d (DV.sl 44 uv6), CV.d (DV.sl 54 uv7), CV.d (DV.sl 66 uv8), CV.d (DV.sl 73 uv9), CV.d (DV.sl 9 uv10)])], objs := ofL Option.none [(3, Option.some { ver := 0, t := 9, xs := uv11 : Obj II }), (1099511631873, Option.none), (1099511631874, Option.none), (1099511631875, Option.none), (1099511631876, Option.none), (1099511631877, Option.none), (1099511631878, Option.none), (1099511631879, Option.none), (1099511631880, Option.none)], fxs := ofL Option.none [(1, Option.none)] : AS II })).run = (Lr07_Names_7 s k x0 r3 j7 uv0 uv1 uv2 uv3 uv4 uv5 uv6 uv7 uv8 uv9 uv10 uv11).map rc_r07_Names.enc := by
  intro j7
  induction j7 with
  | zero => intros; rfl
  | succ j7 ih =>
    intros
    simp only [Lr07_Names_7, map_ite, map_bindO, map_someO, map_noneO, ← ih, ← h3]
    kernel_rfl
theorem Lr07_Names_15_eq (s : Fam) (k : Nat) (x0 : TProgram) (j3 : Nat) (r3 : Int → ByteArray → List ByteArray → List ByteArray → List ByteArray → List TRec → List TVar → List TRoutine → List TStmt → List ByteArray → List ByteArray → Option (List ByteArray)) (h3 : ∀ (v0 : Int) (v1 : ByteArray) (v2 : List ByteArray) (v3 : List ByteArray) (v4 : List ByteArray) (v5 : List TRec) (v6 : List TVar) (v7 : List TRoutine) (v8 : List TStmt) (v9 : List ByteArray) (v10 : List ByteArray), (loopGo EE (sp s) h_r07_Names co_r07_Names [] k Tryd.f6 3 [] j3 ({ tmps := ofL AV.any [(1, AV.c (CV.ptr 1 0)), (3, AV.c (CV.own 3 0)), (4, AV.c (CV.d (DV.lit (Go.Value.int Go.IntKind.i64 v0))))], boxes := ofL Option.none [(1, Option.some [CV.d (DV.lit (Go.Value.string v1)), CV.d (DV.sl 9 v2), CV.d (DV.sl 9 v3), CV.d (DV.sl 9 v4), CV.d (DV.sl 44 v5), CV.d (DV.sl 54 v6), CV.d (DV.sl 66 v7), CV.d (DV.sl 73 v8), CV.d (DV.sl 9 v9)])], objs := ofL Option.none [(3, Option.some { ver := 0, t := 9, xs := v10 : Obj II }), (1099511631873, Option.none), (1099511631874, Option.none), (1099511631875, Option.none), (1099511631876, Option.none), (1099511631877, Option.none), (1099511631878, Option.none), (1099511631879, Option.none), (1099511631880, Option.none)], fxs := ofL Option.none [(1, Option.none)] : AS II })).run = (r3 v0 v1 v2 v3 v4 v5 v6 v7 v8 v9 v10).map rc_r07_Names.enc) : ∀ (j15 : Nat) (uv0 : Int) (uv1 : List ByteArray) (uv2 : List ByteArray), (loopGo EE (sp s) h_r07_Names co_r07_Names [] k Tryd.f6 15 [] j15 ({ tmps := ofL AV.any [(3, AV.c (CV.own 3 0)), (6, AV.c (CV.own 6 0)), (7, AV.c (CV.d (DV.lit (Go.Value.int Go.IntKind.i64 uv0))))], boxes := ofL Option.none [], objs := ofL Option.none [(3, Option.some { ver := 0, t := 9, xs := uv1 : Obj II }), (6, Option.some { ver := 0, t := 9, xs := uv2 : Obj II })], fxs := ofL Option.none [] : AS II })).run = (Lr07_Names_15 s k x0 r3 j15 uv0 uv1 uv2).map rc_r07_Names.enc := by
  intro j15
  induction j15 with
  | zero => intros; rfl
  | succ j15 ih =>
    intros
    simp only [Lr07_Names_15, map_ite, map_bindO, map_someO, map_noneO, ← ih, ← h3]
    kernel_rfl
theorem Lr07_Names_3_eq (s : Fam) (k : Nat) (x0 : TProgram) : ∀ (j3 : Nat) (v0 : Int) (v1 : ByteArray) (v2 : List ByteArray) (v3 : List ByteArray) (v4 : List ByteArray) (v5 : List TRec) (v6 : List TVar) (v7 : List TRoutine) (v8 : List TStmt) (v9 : List ByteArray) (v10 : List ByteArray), (loopGo EE (sp s) h_r07_Names co_r07_Names [] k Tryd.f6 3 [] j3 ({ tmps := ofL AV.any [(1, AV.c (CV.ptr 1 0)), (3, AV.c (CV.own 3 0)), (4, AV.c (CV.d (DV.lit (Go.Value.int Go.IntKind.i64 v0))))], boxes := ofL Option.none [(1, Option.some [CV.d (DV.lit (Go.Value.string v1)), CV.d (DV.sl 9 v2), CV.d (DV.sl 9 v3), CV.d (DV.sl 9 v4), CV.d (DV.sl 44 v5), CV.d (DV.sl 54 v6), CV.d (DV.sl 66 v7), CV.d (DV.sl 73 v8), CV.d (DV.sl 9 v9)])], objs := ofL Option.none [(3, Option.some { ver := 0, t := 9, xs := v10 : Obj II }), (1099511631873, Option.none), (1099511631874, Option.none), (1099511631875, Option.none), (1099511631876, Option.none), (1099511631877, Option.none), (1099511631878, Option.none), (1099511631879, Option.none), (1099511631880, Option.none)], fxs := ofL Option.none [(1, Option.none)] : AS II })).run = (Lr07_Names_3 s k x0 j3 v0 v1 v2 v3 v4 v5 v6 v7 v8 v9 v10).map rc_r07_Names.enc := by
  intro j3
  induction j3 with
  | zero => intros; rfl
  | succ j3 ih =>
    have q0 := Lr07_Names_7_eq s k x0 j3 (Lr07_Names_3 s k x0 j3) ih
    have q1 := Lr07_Names_15_eq s k x0 j3 (Lr07_Names_3 s k x0 j3) ih
    intros
    simp only [Lr07_Names_3, map_ite, map_bindO, map_someO, map_noneO, ← ih, ← q0, ← q1]
    kernel_rfl
theorem e_r07_Names (s : Fam) (k : Nat) (x : a_r07_Names) : (evFunC EE (sp s) h_r07_Names co_r07_Names k Tryd.f6 (c_r07_Names.enc x)).run = (B_r07_Names s k x.1).map rc_r07_Names.enc := by
  simp only [B_r07_Names, map_ite, map_bindO, map_someO, map_noneO, ← Lr07_Names_3_eq]
  kernel_rfl
-- 67 nodes
def B_w16_awake (s : Fam) (k : Nat) : Option (Bool) := ((s.f_rename_Apply (1, { Name := { data := #[112] : ByteArray }, Before := [], Mid := [], After := [], Recs := [], Vars := [{ Marks_Before := [], Marks_Trail := [], Name := { data := #[103, 101, 116] : ByteArray }, T_Kind := 1, T_Size := 0, T_Name := { data := #[] : ByteArray } : TVar }, { Marks_Before := [], Marks_Trail := [], Name := { data := #[103, 101, 116, 95, 49] : ByteArray }, T_Kind := 1, T_Size := 0, T_Name := { data := #[] : ByteArray } : TVar }], Routines := [], Body := [], End := [] : TProgram }, ())).bind fun t1 => ((s.f_r16_SamePairs (t1.snd.fst, [{ Old := { data := #[103, 101, 116] : ByteArray }, New := { data := #[103, 101, 116, 95, 50] : ByteArray } : TPair }], ())).bind fun t2 => (if t2 = Bool.true then (if 0 < (↑t1.fst.Vars.length : Int) then (if (Bool.true && (t1.fst.Vars.getD (Int.toNat 0) dd_TVar).Name.toList == { data := #[103, 101, 116, 95, 50] : ByteArray }.toList) = Bool.true then (if 1 < (↑t1.fst.Vars.length : Int) then (if (Bool.true && (t1.fst.Vars.getD (Int.toNat 1) dd_TVar).Name.toList == { data := #[103, 101, 116, 95, 49] : ByteArray }.toList) = Bool.true then ((s.f_rename_Table (0, { Name := { data := #[112] : ByteArray }, Before := [], Mid := [], After := [], Recs := [], Vars := [{ Marks_Before := [], Marks_Trail := [], Name := { data := #[103, 101, 116] : ByteArray }, T_Kind := 1, T_Size := 0, T_Name := { data := #[] : ByteArray } : TVar }, { Marks_Before := [], Marks_Trail := [], Name := { data := #[103, 101, 116, 95, 49] : ByteArray }, T_Kind := 1, T_Size := 0, T_Name := { data := #[] : ByteArray } : TVar }], Routines := [], Body := [], End := [] : TProgram }, ())).bind fun t10 => some (Bool.true && (↑(List.length t10) : Int) == 0)) else some (Bool.false)) else none) else some (Bool.false)) else none) else some (Bool.false))))
theorem e_w16_awake (s : Fam) (k : Nat) (x : a_w16_awake) : (evFunC EE (sp s) h_w16_awake co_w16_awake k Tryd.f7 (c_w16_awake.enc x)).run = (B_w16_awake s k).map rc_w16_awake.enc := by
  simp only [B_w16_awake, map_ite, map_bindO, map_someO, map_noneO]
  kernel_rfl
-- 40 nodes
def B_rename_Apply (s : Fam) (k : Nat) (x0 : Int) (x1 : TProgram) : Option (TProgram × List TPair × Unit) := ((s.f_rename_Table (x0, x1, ())).bind fun t1 => ((s.f_tree_Rename (x1, t1, ())).bind fun t2 => some ((t2, t1, ()))))
theorem e_rename_Apply (s : Fam) (k : Nat) (x : a_rename_Apply) : (evFunC EE (sp s) h_rename_Apply co_rename_Apply k Tryd.f8 (c_rename_Apply.enc x)).run = (B_rename_Apply s k x.1 x.2.1).map rc_rename_Apply.enc := by
  simp only [B_rename_Apply, map_ite, map_bindO, map_someO, map_noneO]
  kernel_rfl
-- 3 nodes
def B_r04_Is (s : Fam) (k : Nat) (x0 : Int) (x1 : ByteArray) : Option (Bool) := ((s.f_r04_All (x0, ())).bind fun t1 => ((s.f_r04_Among (t1, x1, ())).bind fun t2 => some (t2)))
theorem e_r04_Is (s : Fam) (k : Nat) (x : a_r04_Is) : (evFunC EE (sp s) h_r04_Is co_r04_Is k Tryd.f9 (c_r04_Is.enc x)).run = (B_r04_Is s k x.1 x.2.1).map rc_r04_Is.enc := by
  simp only [B_r04_Is, map_ite, map_bindO, map_someO, map_noneO]
  kernel_rfl
-- 3 nodes
def Lr07_Same_10 (s : Fam) (k : Nat) (x0 : TProgram) (x1 : TProgram) (r4 : Int → ByteArray → List ByteArray → List ByteArray → List ByteArray → List TRec → List TVar → List TRoutine → List TStmt → List ByteArray → ByteArray → List ByteArray → List ByteArray → List ByteArray → List TRec → List TVar → List TRoutine → List TStmt → List ByteArray → Option (Bool)) : Nat → Int → Int → ByteArray → List ByteArray → List ByteArray → List ByteArray → List TRec → List TVar → List TRoutine → List TStmt → List ByteArray → ByteArray → List ByteArray → List ByteArray → List ByteArray → List TRec → List TVar → List TRoutine → List TStmt → List ByteArray → List ByteArray → List ByteArray → ByteArray → List TField → List ByteArray → List ByteArray → List ByteArray → ByteArray → List TField → List ByteArray → Option (Bool)
  | 0, _, _, _, _, _, _, _, _, _, _, _, _, _, _, _, _, _, _, _, _, _, _, _, _, _, _, _, _, _, _ => none
  | j10 + 1, uv0, uv1, uv2, uv3, uv4, uv5, uv6, uv7, uv8, uv9, uv10, uv11, uv12, uv13, uv14, uv15, uv16, uv17, uv18, uv19, uv20, uv21, uv22, uv23, uv24, uv25, uv26, uv27, uv28, uv29 => (if decide (uv1 < (↑uv23.length : Int)) = Bool.true then (if 0 ≤ uv1 then (if uv1 < (↑uv23.length : Int) then (if 0 ≤ uv1 then (if uv1 < (↑uv28.length : Int) then ((s.f_r07_sameMarks ((uv23.getD uv1.toNat dd_TField).sub_Marks, (uv28.getD uv1.toNat dd_TField).sub_Marks, ())).bind fun t28 => (if (!t28) = Bool.false then (if 0 ≤ uv1 then (if uv1 < (↑uv23.length : Int) then (if 0 ≤ uv1 then (if uv1 < (↑uv28.length : Int) then (if (Bool.false || !(uv23.getD uv1.toNat dd_TField).Name.toList == (uv28.getD uv1.toNat dd_TField).Name.toList) = Bool.false then (if 0 ≤ uv1 then (if uv1 < (↑uv23.length : Int) then (if 0 ≤ uv1 then (if uv1 < (↑uv28.length : Int) then (if (Bool.false || (uv23.getD uv1.toNat dd_TField).Kind != (uv28.getD uv1.toNat dd_TField).Kind) = Bool.true then some (Bool.false) else Lr07_Same_10 s k x0 x1 r4 j10 (uv0) (Go.IntKind.i64.wrap (uv1 + 1)) (uv2) (uv3) (uv4) (uv5) (uv6) (uv7) (uv8) (uv9) (uv10) (uv11) (uv12) (uv13) (uv14) (uv15) (uv16) (uv17) (uv18) (uv19) (uv20) (uv21) (uv22) (uv23) (uv24) (uv25) (uv26) (uv27) (uv28) (uv29)) else none) else none) else none) else none) else some (Bool.false)) else none) else none) else none) else none) else some (Bool.false))) else none) else none) else none) else none) else r4 (Go.IntKind.i64.wrap (uv0 + 1)) (uv2) (uv3) (uv4) (uv5) (uv6) (uv7) (uv8) (uv9) (uv10) (uv11) (uv12) (uv13) (uv14) (uv15) (uv16) (uv17) (uv18) (uv19))
def Lr07_Same_4 (s : Fam) (k : Nat) (x0 : TProgram) (x1 : TProgram) : Nat → Int → ByteArray → List ByteArray → List ByteArray → List ByteArray → List TRec → List TVar → List TRoutine → List TStmt → List ByteArray → ByteArray → List ByteArray → List ByteArray → List ByteArray → List TRec → List TVar → List TRoutine → List TStmt → List ByteArray → Option (Bool)
  | 0, _, _, _, _, _, _, _, _, _, _, _, _, _, _, _, _, _, _, _ => none
  | j4 + 1, v0, v1, v2, v3, v4, v5, v6, v7, v8, v9, v10, v11, v12, v13, v14, v15, v16, v17, v18 => (if decide (v0 < (↑v5.length : Int)) = Bool.true then (if 0 ≤ v0 then (if v0 < (↑v5.length : Int) then (if 0 ≤ v0 then (if v0 < (↑v14.length : Int) then ((s.f_r07_sameMarks ((v5.getD v0.toNat dd_TRec).sub_Marks, (v14.getD v0.toNat dd_TRec).sub_Marks, ())).bind fun t17 => (if (!t17 || !(v5.getD v0.toNat dd_TRec).Name.toList == (v14.getD v0.toNat dd_TRec).Name.toList) = Bool.false then ((s.f_r01_SameTexts ((v5.getD v0.toNat dd_TRec).End, (v14.getD v0.toNat dd_TRec).End, ())).bind fun t19 => (if (Bool.false || !t19 || (↑(v5.getD v0.toNat dd_TRec).Fields.length : Int) != (↑(v14.getD v0.toNat dd_TRec).Fields.length : Int)) = Bool.true then some (Bool.false) else Lr07_Same_10 s k x0 x1 (Lr07_Same_4 s k x0 x1 j4) k (v0) (0) (v1) (v2) (v3) (v4) (v5) (v6) (v7) (v8) (v9) (v10) (v11) (v12) (v13) (v14) (v15) (v16) (v17) (v18) ((v5.getD v0.toNat dd_TRec).Marks_Before) ((v5.getD v0.toNat dd_TRec).Marks_Trail) ((v5.getD v0.toNat dd_TRec).Name) ((v5.getD v0.toNat dd_TRec).Fields) ((v5.getD v0.toNat dd_TRec).End) ((v14.getD v0.toNat dd_TRec).Marks_Before) ((v14.getD v0.toNat dd_TRec).Marks_Trail) ((v14.getD v0.toNat dd_TRec).Name) ((v14.getD v0.toNat dd_TRec).Fields) ((v14.getD v0.toNat dd_TRec).End))) else some (Bool.false))) else none) else none) else none) else none) else ((s.f_r07_sameVars (v6, v15, ())).bind fun t91 => (if t91 = Bool.true then ((s.f_r07_SameRoutines (v7, v16, ())).bind fun t93 => (if (Bool.true && t93) = Bool.true then ((s.f_r07_SameStmts (v8, v17, ())).bind fun t95 => some (Bool.true && t95)) else some (Bool.false))) else some (Bool.false))))
def B_r07_Same (s : Fam) (k : Nat) (x0 : TProgram) (x1 : TProgram) : Option (Bool) := (if (!x0.Name.toList == x1.Name.toList) = Bool.false then ((s.f_r01_SameTexts (x0.Before, x1.Before, ())).bind fun t2 => (if (Bool.false || !t2) = Bool.false then ((s.f_r01_SameTexts (x0.Mid, x1.Mid, ())).bind fun t4 => (if (Bool.false || !t4) = Bool.false then ((s.f_r01_SameTexts (x0.After, x1.After, ())).bind fun t6 => (if (Bool.false || !t6) = Bool.false then ((s.f_r01_SameTexts (x0.End, x1.End, ())).bind fun t8 => (if (Bool.false || !t8 || (↑x0.Recs.length : Int) != (↑x1.Recs.length : Int)) = Bool.true then some (Bool.false) else Lr07_Same_4 s k x0 x1 k (0) (x0.Name) (x0.Before) (x0.Mid) (x0.After) (x0.Recs) (x0.Vars) (x0.Routines) (x0.Body) (x0.End) (x1.Name) (x1.Before) (x1.Mid) (x1.After) (x1.Recs) (x1.Vars) (x1.Routines) (x1.Body) (x1.End))) else some (Bool.false))) else some (Bool.false))) else some (Bool.false))) else some (Bool.false))
theorem Lr07_Same_10_eq (s : Fam) (k : Nat) (x0 : TProgram) (x1 : TProgram) (j4 : Nat) (r4 : Int → ByteArray → List ByteArray → List ByteArray → List ByteArray → List TRec → List TVar → List TRoutine → List TStmt → List ByteArray → ByteArray → List ByteArray → List ByteArray → List ByteArray → List TRec → List TVar → List TRoutine → List TStmt → List ByteArray → Option (Bool)) (h4 : ∀ (v0 : Int) (v1 : ByteArray) (v2 : List ByteArray) (v3 : List ByteArray) (v4 : List ByteArray) (v5 : List TRec) (v6 : List TVar) (v7 : List TRoutine) (v8 : List TStmt) (v9 : List ByteArray) (v10 : ByteArray) (v11 : List ByteArray) (v12 : List ByteArray) (v13 : List ByteArray) (v14 : List TRec) (v15 : List TVar) (v16 : List TRoutine) (v17 : List TStmt) (v18 : List ByteArray), (loopGo EE (sp s) h_r07_Same co_r07_Same [] k Tryd.f10 4 [] j4 ({ tmps := ofL AV.any [(2, AV.c (CV.ptr 2 0)), (3, AV.c (CV.ptr 3 0)), (5, AV.c (CV.d (DV.lit (Go.Value.int Go.IntKind.i64 v0))))], boxes := ofL Option.none [(2, Option.some [CV.d (DV.lit (Go.Value.string v1)), CV.d (DV.sl 9 v2), CV.d (DV.sl 9 v3), CV.d (DV.sl 9 v4), CV.d (DV.sl 44 v5), CV.d (DV.sl 54 v6), CV.d (DV.sl 66 v7), CV.d (DV.sl 73 v8), CV.d (DV.sl 9 v9)]), (3, Option.some [CV.d (DV.lit (Go.Value.string v10)), CV.d (DV.sl 9 v11), CV.d (DV.sl 9 v12), CV.d (DV.sl 9 v13), CV.d (DV.sl 44 v14), CV.d (DV.sl 54 v15), CV.d (DV.sl 66 v16), CV.d (DV.sl 73 v17), CV.d (DV.sl 9 v18)])], objs := ofL Option.none [(1099511635969, Option.none), (1099511635970, Option.none), (1099511635971, Option.none), (1099511635972, Option.none), (1099511635973, Option.none), (1099511635974, Option.none), (1099511635975, Option.none), (1099511635976, Option.none), (1099511640065, Option.none), (1099511640066, Option.none), (1099511640067, Option.none), (1099511640068, Option.none), (1099511640069, Option.none), (1099511640070, Option.none), (1099511640071, Option.none), (1099511640072, Option.none)], fxs := ofL Option.none [(2, Option.none), (3, Option.none)] : AS II })).run = (r4 v0 v1 v2 v3 v4 v5 v6 v7 v8 v9 v10 v11 v12 v13 v14 v15 v16 v17 v18).map rc_r07_Same.enc) : ∀ (j10 : Nat) (uv0 : Int) (uv1 : Int) (uv2 : ByteArray) (uv3 : List ByteArray) (uv4 : List ByteArray) (uv5 : List ByteArray) (uv6 : List TRec) (uv7 : List TVar) (uv8 : List TRoutine) (uv9 : List TStmt) (uv10 : List ByteArray) (uv11 : ByteArray) (uv12 : List ByteArray) (uv13 : List ByteArray) (uv14 : List ByteArray) (uv15 : List TRec) (uv16 : List TVar) (uv17 : List TRoutine) (uv18 : List TStmt) (uv19 : List ByteArray) (uv20 : List ByteArray) (uv21 : List ByteArray) (uv22 : ByteArray) (uv23 : List TField) (uv24 : List ByteArray) (uv25 : List ByteArray) (uv26 : List ByteArray) (uv27 : ByteArray) (uv28 : List TField) (uv29 : List ByteArray), (loopGo EE (sp s) h_r07_Same co_r07_Same [] k Tryd.f10 10 [j4] j10 ({ tmps := ofL AV.any [(2, AV.c (CV.ptr 2 0)), (3, AV.c (CV.ptr 3 0)), (5, AV.c (CV.d (DV.lit (Go.Value.int Go.IntKind.i64 uv0)))), (6, AV.c (CV.ptr 6 0)), (7, AV.c (CV.ptr 7 0)), (8, AV.c (CV.d (DV.lit (Go.Value.int Go.IntKind.i64 uv1))))], boxes := ofL Option.none [(2, Option.some [CV.d (DV.lit (Go.Value.string uv2)), CV.d (DV.sl 9 uv3), CV.d (DV.sl 9 uv4), CV.d (DV.sl 9 uv5), CV.d (DV.sl 44 uv6), CV.d (DV.sl 54 uv7), CV.d (DV.sl 66 uv8), CV.d (DV.sl 73 uv9), CV.d (DV.sl 9 uv10)]), (3, Option.some [CV.d (DV.lit (Go.Value.string uv11)), CV.d (DV.sl 9 uv12), CV.d (DV.sl 9 uv13), CV.d (DV.sl 9 uv14), CV.d (DV.sl 44 uv15), CV.d (DV.sl 54 uv16), CV.d (DV.sl 66 uv17), CV.d (DV.sl 73 uv18), CV.d (DV.sl 9 uv19)]), (6, Option.some [CV.d (DV.sl 9 uv20), CV.d (DV.sl 9 uv21), CV.d (DV.lit (Go.Value.string uv22)), CV.d (DV.sl 46 uv23), CV.d (DV.sl 9 uv24)]), (7, Option.some [CV.d (DV.sl 9 uv25), CV.d (DV.sl 9 uv26), CV.d (DV.lit (Go.Value.string uv27)), CV.d (DV.sl 46 uv28), CV.d (DV.sl 9 uv29)])], objs := ofL Option.none [(1099511635969, Option.none), (1099511635970, Option.none), (1099511635971, Option.none), (1099511635972, Option.none), (1099511635973, Option.none), (1099511635974, Option.none), (1099511635975, Option.none), (1099511635976, Option.none), (1099511640065, Option.none), (1099511640066, Option.none), (1099511640067, Option.none), (1099511640068, Option.none), (1099511640069, Option.none), (1099511640070, Option.none), (1099511640071, Option.none), (1099511640072, Option.none), (1099511652352, Option.none), (1099511652353, Option.none), (1099511652355, Option.none), (1099511652356, Option.none), (1099511656448, Option.none), (1099511656449, Option.none), (1099511656451, Option.none), (1099511656452, Option.none)], fxs := ofL Option.none [(2, Option.none), (3, Option.none), (6, Option.none), (7, Option.none)] : AS II })).run = (Lr07_Same_10 s k x0 x1 r4 j10 uv0 uv1 uv2 uv3 uv4 uv5 uv6 uv7 uv8 uv9 uv10 uv11 uv12 uv13 uv14 uv15 uv16 uv17 uv18 uv19 uv20 uv21 uv22 uv23 uv24 uv25 uv26 uv27 uv28 uv29).map rc_r07_Same.enc := by
  intro j10
  induction j10 with
  | zero => intros; rfl
  | succ j10 ih =>
    intros
    simp only [Lr07_Same_10, map_ite, map_bindO, map_someO, map_noneO, ← ih, ← h4]
    kernel_rfl
theorem Lr07_Same_4_eq (s : Fam) (k : Nat) (x0 : TProgram) (x1 : TProgram) : ∀ (j4 : Nat) (v0 : Int) (v1 : ByteArray) (v2 : List ByteArray) (v3 : List ByteArray) (v4 : List ByteArray) (v5 : List TRec) (v6 : List TVar) (v7 : List TRoutine) (v8 : List TStmt) (v9 : List ByteArray) (v10 : ByteArray) (v11 : List ByteArray) (v12 : List ByteArray) (v13 : List ByteArray) (v14 : List TRec) (v15 : List TVar) (v16 : List TRoutine) (v17 : List TStmt) (v18 : List ByteArray), (loopGo EE (sp s) h_r07_Same co_r07_Same [] k Tryd.f10 4 [] j4 ({ tmps := ofL AV.any [(2, AV.c (CV.ptr 2 0)), (3, AV.c (CV.ptr 3 0)), (5, AV.c (CV.d (DV.lit (Go.Value.int Go.IntKind.i64 v0))))], boxes := ofL Option.none [(2, Option.some [CV.d (DV.lit (Go.Value.string v1)), CV.d (DV.sl 9 v2), CV.d (DV.sl 9 v3), CV.d (DV.sl 9 v4), CV.d (DV.sl 44 v5), CV.d (DV.sl 54 v6), CV.d (DV.sl 66 v7), CV.d (DV.sl 73 v8), CV.d (DV.sl 9 v9)]), (3, Option.some [CV.d (DV.lit (Go.Value.string v10)), CV.d (DV.sl 9 v11), CV.d (DV.sl 9 v12), CV.d (DV.sl 9 v13), CV.d (DV.sl 44 v14), CV.d (DV.sl 54 v15), CV.d (DV.sl 66 v16), CV.d (DV.sl 73 v17), CV.d (DV.sl 9 v18)])], objs := ofL Option.none [(1099511635969, Option.none), (1099511635970, Option.none), (1099511635971, Option.none), (1099511635972, Option.none), (1099511635973, Option.none), (1099511635974, Option.none), (1099511635975, Option.none), (1099511635976, Option.none), (1099511640065, Option.none), (1099511640066, Option.none), (1099511640067, Option.none), (1099511640068, Option.none), (1099511640069, Option.none), (1099511640070, Option.none), (1099511640071, Option.none), (1099511640072, Option.none)], fxs := ofL Option.none [(2, Option.none), (3, Option.none)] : AS II })).run = (Lr07_Same_4 s k x0 x1 j4 v0 v1 v2 v3 v4 v5 v6 v7 v8 v9 v10 v11 v12 v13 v14 v15 v16 v17 v18).map rc_r07_Same.enc := by
  intro j4
  induction j4 with
  | zero => intros; rfl
  | succ j4 ih =>
    have q0 := Lr07_Same_10_eq s k x0 x1 j4 (Lr07_Same_4 s k x0 x1 j4) ih
    intros
    simp only [Lr07_Same_4, map_ite, map_bindO, map_someO, map_noneO, ← ih, ← q0]
    kernel_rfl
theorem e_r07_Same (s : Fam) (k : Nat) (x : a_r07_Same) : (evFunC EE (sp s) h_r07_Same co_r07_Same k Tryd.f10 (c_r07_Same.enc x)).run = (B_r07_Same s k x.1 x.2.1).map rc_r07_Same.enc := by
  simp only [B_r07_Same, map_ite, map_bindO, map_someO, map_noneO, ← Lr07_Same_4_eq]
  kernel_rfl
-- 136 nodes
def Lr07_Parts_4 (s : Fam) (k : Nat) (x0 : ByteArray) : Nat → ByteArray → Int → Int → List ByteArray → Option (List ByteArray)
  | 0, _, _, _, _ => none
  | j4 + 1, v0, v1, v2, v3 => (if decide (v2 ≤ (↑v0.size : Int)) = Bool.true then (if (v2 == (↑v0.size : Int)) = Bool.false then (if 0 ≤ v2 then (if v2 < (↑v0.size : Int) then (if (Bool.false || bt v0 v2 == 36) = Bool.true then (if 0 ≤ v1 then (if v1 ≤ v2 then (if v2 ≤ (↑v0.size : Int) then (if (v3 ++ [v0.extract v1.toNat v2.toNat]).length * 16 ≤ 140737488355328 then Lr07_Parts_4 s k x0 j4 (v0) (Go.IntKind.i64.wrap (v2 + 1)) (Go.IntKind.i64.wrap (v2 + 1)) (v3 ++ [v0.extract v1.toNat v2.toNat]) else none) else none) else none) else none) else Lr07_Parts_4 s k x0 j4 (v0) (v1) (Go.IntKind.i64.wrap (v2 + 1)) (v3)) else none) else none) else (if 0 ≤ v1 then (if v1 ≤ v2 then (if v2 ≤ (↑v0.size : Int) then (if (v3 ++ [v0.extract v1.toNat v2.toNat]).length * 16 ≤ 140737488355328 then Lr07_Parts_4 s k x0 j4 (v0) (Go.IntKind.i64.wrap (v2 + 1)) (Go.IntKind.i64.wrap (v2 + 1)) (v3 ++ [v0.extract v1.toNat v2.toNat]) else none) else none) else none) else none)) else some (v3))
def B_r07_Parts (s : Fam) (k : Nat) (x0 : ByteArray) : Option (List ByteArray) := Lr07_Parts_4 s k x0 k (x0) (0) (0) ([])
theorem Lr07_Parts_4_eq (s : Fam) (k : Nat) (x0 : ByteArray) : ∀ (j4 : Nat) (v0 : ByteArray) (v1 : Int) (v2 : Int) (v3 : List ByteArray), (loopGo EE (sp s) h_r07_Parts co_r07_Parts [] k Tryd.f11 4 [] j4 ({ tmps := ofL AV.any [(0, AV.c (CV.d (DV.lit (Go.Value.string v0)))), (3, AV.c (CV.own 3 0)), (4, AV.c (CV.d (DV.lit (Go.Value.int Go.IntKind.i64 v1)))), (5, AV.c (CV.d (DV.lit (Go.Value.int Go.IntKind.i64 v2))))], boxes := ofL Option.none [], objs := ofL Option.none [(3, Option.some { ver := 0, t := 9, xs := v3 : Obj II })], fxs := ofL Option.none [] : AS II })).run = (Lr07_Parts_4 s k x0 j4 v0 v1 v2 v3).map rc_r07_Parts.enc := by
  intro j4
  induction j4 with
  | zero => intros; rfl
  | succ j4 ih =>
    intros
    simp only [Lr07_Parts_4, map_ite, map_bindO, map_someO, map_noneO, ← ih]
    kernel_rfl
theorem e_r07_Parts (s : Fam) (k : Nat) (x : a_r07_Parts) : (evFunC EE (sp s) h_r07_Parts co_r07_Parts k Tryd.f11 (c_r07_Parts.enc x)).run = (B_r07_Parts s k x.1).map rc_r07_Parts.enc := by
  simp only [B_r07_Parts, map_ite, map_bindO, map_someO, map_noneO, ← Lr07_Parts_4_eq]
  kernel_rfl
-- 31 nodes
def Lr07_varNames_3 (s : Fam) (k : Nat) (x0 : List TVar) : Nat → List TVar → Int → List ByteArray → Option (List ByteArray)
  | 0, _, _, _ => none
  | j3 + 1, v0, v1, v2 => (if decide (v1 < (↑v0.length : Int)) = Bool.true then (if 0 ≤ v1 then (if v1 < (↑v0.length : Int) then ((s.f_r07_Parts ((v0.getD v1.toNat dd_TVar).Name, ())).bind fun t5 => (if (v2 ++ t5).length * 16 ≤ 140737488355328 then (if 0 ≤ v1 then (if v1 < (↑v0.length : Int) then ((s.f_r07_Parts ((v0.getD v1.toNat dd_TVar).T_Name, ())).bind fun t9 => (if (v2 ++ t5 ++ t9).length * 16 ≤ 140737488355328 then Lr07_varNames_3 s k x0 j3 (v0) (Go.IntKind.i64.wrap (v1 + 1)) (v2 ++ t5 ++ t9) else none)) else none) else none) else none)) else none) else none) else some (v2))
def B_r07_varNames (s : Fam) (k : Nat) (x0 : List TVar) : Option (List ByteArray) := Lr07_varNames_3 s k x0 k (x0) (0) ([])
theorem Lr07_varNames_3_eq (s : Fam) (k : Nat) (x0 : List TVar) : ∀ (j3 : Nat) (v0 : List TVar) (v1 : Int) (v2 : List ByteArray), (loopGo EE (sp s) h_r07_varNames co_r07_varNames [] k Tryd.f12 3 [] j3 ({ tmps := ofL AV.any [(0, AV.c (CV.d (DV.sl 54 v0))), (3, AV.c (CV.own 3 0)), (4, AV.c (CV.d (DV.lit (Go.Value.int Go.IntKind.i64 v1))))], boxes := ofL Option.none [], objs := ofL Option.none [(3, Option.some { ver := 0, t := 9, xs := v2 : Obj II })], fxs := ofL Option.none [] : AS II })).run = (Lr07_varNames_3 s k x0 j3 v0 v1 v2).map rc_r07_varNames.enc := by
  intro j3
  induction j3 with
  | zero => intros; rfl
  | succ j3 ih =>
    intros
    simp only [Lr07_varNames_3, map_ite, map_bindO, map_someO, map_noneO, ← ih]
    kernel_rfl
theorem e_r07_varNames (s : Fam) (k : Nat) (x : a_r07_varNames) : (evFunC EE (sp s) h_r07_varNames co_r07_varNames k Tryd.f12 (c_r07_varNames.enc x)).run = (B_r07_varNames s k x.1).map rc_r07_varNames.enc := by
  simp only [B_r07_varNames, map_ite, map_bindO, map_someO, map_noneO, ← Lr07_varNames_3_eq]
  kernel_rfl
-- 18 nodes
def Lr07_routineNames_8 (s : Fam) (k : Nat) (x0 : List TRoutine) (r3 : List TRoutine → Int → List ByteArray → Option (List ByteArray)) : Nat → List TRoutine → Int → Int → List ByteArray → List ByteArray → ByteArray → Int → List TParam → List TVar → List TRoutine → List TStmt → List ByteArray → List ByteArray → Option (List ByteArray)
  | 0, _, _, _, _, _, _, _, _, _, _, _, _, _ => none
  | j8 + 1, uv0, uv1, uv2, uv3, uv4, uv5, uv6, uv7, uv8, uv9, uv10, uv11, uv12 => (if decide (uv2 < (↑uv7.length : Int)) = Bool.true then (if 0 ≤ uv2 then (if uv2 < (↑uv7.length : Int) then ((s.f_r07_Parts ((uv7.getD uv2.toNat dd_TParam).Name, ())).bind fun t11 => (if (uv12 ++ t11).length * 16 ≤ 140737488355328 then (if 0 ≤ uv2 then (if uv2 < (↑uv7.length : Int) then ((s.f_r07_Parts ((uv7.getD uv2.toNat dd_TParam).T_Name, ())).bind fun t15 => (if (uv12 ++ t11 ++ t15).length * 16 ≤ 140737488355328 then Lr07_routineNames_8 s k x0 r3 j8 (uv0) (uv1) (Go.IntKind.i64.wrap (uv2 + 1)) (uv3) (uv4) (uv5) (uv6) (uv7) (uv8) (uv9) (uv10) (uv11) (uv12 ++ t11 ++ t15) else none)) else none) else none) else none)) else none) else none) else ((s.f_r07_varNames (uv8, ())).bind fun t24 => (if (uv12 ++ t24).length * 16 ≤ 140737488355328 then ((s.f_r07_routineNames (uv9, ())).bind fun t26 => (if (uv12 ++ t24 ++ t26).length * 16 ≤ 140737488355328 then ((s.f_r07_stmtNames (uv10, ())).bind fun t28 => (if (uv12 ++ t24 ++ t26 ++ t28).length * 16 ≤ 140737488355328 then r3 (uv0) (Go.IntKind.i64.wrap (uv1 + 1)) (uv12 ++ t24 ++ t26 ++ t28) else none)) else none)) else none)))
def Lr07_routineNames_3 (s : Fam) (k : Nat) (x0 : List TRoutine) : Nat → List TRoutine → Int → List ByteArray → Option (List ByteArray)
  | 0, _, _, _ => none
  | j3 + 1, v0, v1, v2 => (if decide (v1 < (↑v0.length : Int)) = Bool.true then (if 0 ≤ v1 then (if v1 < (↑v0.length : Int) then ((s.f_r07_Parts ((v0.getD v1.toNat dd_TRoutine).Name, ())).bind fun t5 => (if (v2 ++ t5).length * 16 ≤ 140737488355328 then Lr07_routineNames_8 s k x0 (Lr07_routineNames_3 s k x0 j3) k (v0) (v1) (0) ((v0.getD v1.toNat dd_TRoutine).Marks_Before) ((v0.getD v1.toNat dd_TRoutine).Marks_Trail) ((v0.getD v1.toNat dd_TRoutine).Name) ((v0.getD v1.toNat dd_TRoutine).Result) ((v0.getD v1.toNat dd_TRoutine).Params) ((v0.getD v1.toNat dd_TRoutine).Vars) ((v0.getD v1.toNat dd_TRoutine).Inner) ((v0.getD v1.toNat dd_TRoutine).Body) ((v0.getD v1.toNat dd_TRoutine).End) (v2 ++ t5) else none)) else none) else none) else some (v2))
def B_r07_routineNames (s : Fam) (k : Nat) (x0 : List TRoutine) : Option (List ByteArray) := Lr07_routineNames_3 s k x0 k (x0) (0) ([])
theorem Lr07_routineNames_8_eq (s : Fam) (k : Nat) (x0 : List TRoutine) (j3 : Nat) (r3 : List TRoutine → Int → List ByteArray → Option (List ByteArray)) (h3 : ∀ (v0 : List TRoutine) (v1 : Int) (v2 : List ByteArray), (loopGo EE (sp s) h_r07_routineNames co_r07_routineNames [] k Tryd.f13 3 [] j3 ({ tmps := ofL AV.any [(0, AV.c (CV.d (DV.sl 66 v0))), (3, AV.c (CV.own 3 0)), (4, AV.c (CV.d (DV.lit (Go.Value.int Go.IntKind.i64 v1))))], boxes := ofL Option.none [], objs := ofL Option.none [(3, Option.some { ver := 0, t := 9, xs := v2 : Obj II })], fxs := ofL Option.none [] : AS II })).run = (r3 v0 v1 v2).map rc_r07_routineNames.enc) : ∀ (j8 : Nat) (uv0 : List TRoutine) (uv1 : Int) (uv2 : Int) (uv3 : List ByteArray) (uv4 : List ByteArray) (uv5 : ByteArray) (uv6 : Int) (uv7 : List TParam) (uv8 : List TVar) (uv9 : List TRoutine) (uv10 : List TStmt) (uv11 : List ByteArray) (uv12 : List ByteArray), (loopGo EE (sp s) h_r07_routineNames co_r07_routineNames [] k Tryd.f13 8 [j3] j8 ({ tmps := ofL AV.any [(0, AV.c (CV.d (DV.sl 66 uv0))), (3, AV.c (CV.own 3 0)), (4, AV.c (CV.d (DV.lit (Go.Value.int Go.IntKind.i64 uv1)))), (5, AV.c (CV.ptr 5 0)), (6, AV.c (CV.d (DV.lit (Go.Value.int Go.IntKind.i64 uv2))))], boxes := ofL Option.none [(5, Option.some [CV.d (DV.sl 9 uv3), CV.d (DV.sl 9 uv4), CV.d (DV.lit (Go.Value.string uv5)), CV.d (DV.lit (Go.Value.int Go.IntKind.i64 uv6)), CV.d (DV.sl 68 uv7), CV.d (DV.sl 54 uv8), CV.d (DV.sl 66 uv9), CV.d (DV.sl 73 uv10), CV.d (DV.sl 9 uv11)])], objs := ofL Option.none [(3, Option.some { ver := 0, t := 9, xs := uv12 : Obj II }), (1099511648256, Option.none), (1099511648257, Option.none), (1099511648260, Option.none), (1099511648261, Option.none), (1099511648262, Option.none), (1099511648263, Option.none), (1099511648264, Option.none)], fxs := ofL Option.none [(5, Option.none)] : AS II })).run = (Lr07_routineNames_8 s k x0 r3 j8 uv0 uv1 uv2 uv3 uv4 uv5 uv6 uv7 uv8 uv9 uv10 uv11 uv12).map rc_r07_routineNames.enc := by
  intro j8
  induction j8 with
  | zero => intros; rfl
  | succ j8 ih =>
    intros
    simp only [Lr07_routineNames_8, map_ite, map_bindO, map_someO, map_noneO, ← ih, ← h3]
    kernel_rfl
theorem Lr07_routineNames_3_eq (s : Fam) (k : Nat) (x0 : List TRoutine) : ∀ (j3 : Nat) (v0 : List TRoutine) (v1 : Int) (v2 : List ByteArray), (loopGo EE (sp s) h_r07_routineNames co_r07_routineNames [] k Tryd.f13 3 [] j3 ({ tmps := ofL AV.any [(0, AV.c (CV.d (DV.sl 66 v0))), (3, AV.c (CV.own 3 0)), (4, AV.c (CV.d (DV.lit (Go.Value.int Go.IntKind.i64 v1))))], boxes := ofL Option.none [], objs := ofL Option.none [(3, Option.some { ver := 0, t := 9, xs := v2 : Obj II })], fxs := ofL Option.none [] : AS II })).run = (Lr07_routineNames_3 s k x0 j3 v0 v1 v2).map rc_r07_routineNames.enc := by
  intro j3
  induction j3 with
  | zero => intros; rfl
  | succ j3 ih =>
    have q0 := Lr07_routineNames_8_eq s k x0 j3 (Lr07_routineNames_3 s k x0 j3) ih
    intros
    simp only [Lr07_routineNames_3, map_ite, map_bindO, map_someO, map_noneO, ← ih, ← q0]
    kernel_rfl
theorem e_r07_routineNames (s : Fam) (k : Nat) (x : a_r07_routineNames) : (evFunC EE (sp s) h_r07_routineNames co_r07_routineNames k Tryd.f13 (c_r07_routineNames.enc x)).run = (B_r07_routineNames s k x.1).map rc_r07_routineNames.enc := by
  simp only [B_r07_routineNames, map_ite, map_bindO, map_someO, map_noneO, ← Lr07_routineNames_3_eq]
  kernel_rfl
-- 37 nodes
def Lr07_stmtNames_8 (s : Fam) (k : Nat) (x0 : List TStmt) (r3 : List TStmt → Int → List ByteArray → Option (List ByteArray)) : Nat → List TStmt → Int → Int → List ByteArray → Option (List ByteArray)
  | 0, _, _, _, _ => none
  | j8 + 1, uv0, uv1, uv2, uv3 => (if 0 ≤ uv1 then (if uv1 < (↑uv0.length : Int) then (if decide (uv2 < (↑(uv0.getD uv1.toNat dd_TStmt).E.length : Int)) = Bool.true then (if 0 ≤ uv1 then (if uv1 < (↑uv0.length : Int) then (if 0 ≤ uv2 then (if uv2 < (↑(uv0.getD uv1.toNat dd_TStmt).E.length : Int) then ((s.f_r07_ExprNames (((uv0.getD uv1.toNat dd_TStmt).E.getD uv2.toNat dd_TExpr).re, ())).bind fun t19 => (if (uv3 ++ t19).length * 16 ≤ 140737488355328 then Lr07_stmtNames_8 s k x0 r3 j8 (uv0) (uv1) (Go.IntKind.i64.wrap (uv2 + 1)) (uv3 ++ t19) else none)) else none) else none) else none) else none) else (if 0 ≤ uv1 then (if uv1 < (↑uv0.length : Int) then ((s.f_r07_stmtNames ((uv0.getD uv1.toNat dd_TStmt).Body, ())).bind fun t29 => (if (uv3 ++ t29).length * 16 ≤ 140737488355328 then (if 0 ≤ uv1 then (if uv1 < (↑uv0.length : Int) then ((s.f_r07_stmtNames ((uv0.getD uv1.toNat dd_TStmt).Else, ())).bind fun t33 => (if (uv3 ++ t29 ++ t33).length * 16 ≤ 140737488355328 then r3 (uv0) (Go.IntKind.i64.wrap (uv1 + 1)) (uv3 ++ t29 ++ t33) else none)) else none) else none) else none)) else none) else none)) else none) else none)
def Lr07_stmtNames_3 (s : Fam) (k : Nat) (x0 : List TStmt) : Nat → List TStmt → Int → List ByteArray → Option (List ByteArray)
  | 0, _, _, _ => none
  | j3 + 1, v0, v1, v2 => (if decide (v1 < (↑v0.length : Int)) = Bool.true then (if 0 ≤ v1 then (if v1 < (↑v0.length : Int) then ((s.f_r07_Parts ((v0.getD v1.toNat dd_TStmt).Name, ())).bind fun t5 => (if (v2 ++ t5).length * 16 ≤ 140737488355328 then (if 0 ≤ v1 then (if v1 < (↑v0.length : Int) then ((s.f_r07_ExprNames ((v0.getD v1.toNat dd_TStmt).sub_P, ())).bind fun t9 => (if (v2 ++ t5 ++ t9).length * 16 ≤ 140737488355328 then Lr07_stmtNames_8 s k x0 (Lr07_stmtNames_3 s k x0 j3) k (v0) (v1) (0) (v2 ++ t5 ++ t9) else none)) else none) else none) else none)) else none) else none) else some (v2))
def B_r07_stmtNames (s : Fam) (k : Nat) (x0 : List TStmt) : Option (List ByteArray) := Lr07_stmtNames_3 s k x0 k (x0) (0) ([])
theorem Lr07_stmtNames_8_eq (s : Fam) (k : Nat) (x0 : List TStmt) (j3 : Nat) (r3 : List TStmt → Int → List ByteArray → Option (List ByteArray)) (h3 : ∀ (v0 : List TStmt) (v1 : Int) (v2 : List ByteArray), (loopGo EE (sp s) h_r07_stmtNames co_r07_stmtNames [] k Tryd.f14 3 [] j3 ({ tmps := ofL AV.any [(0, AV.c (CV.d (DV.sl 73 v0))), (3, AV.c (CV.own 3 0)), (4, AV.c (CV.d (DV.lit (Go.Value.int Go.IntKind.i64 v1))))], boxes := ofL Option.none [], objs := ofL Option.none [(3, Option.some { ver := 0, t := 9, xs := v2 : Obj II })], fxs := ofL Option.none [] : AS II })).run = (r3 v0 v1 v2).map rc_r07_stmtNames.enc) : ∀ (j8 : Nat) (uv0 : List TStmt) (uv1 : Int) (uv2 : Int) (uv3 : List ByteArray), (loopGo EE (sp s) h_r07_stmtNames co_r07_stmtNames [] k Tryd.f14 8 [j3] j8 ({ tmps := ofL AV.any [(0, AV.c (CV.d (DV.sl 73 uv0))), (3, AV.c (CV.own 3 0)), (4, AV.c (CV.d (DV.lit (Go.Value.int Go.IntKind.i64 uv1)))), (5, AV.c (CV.d (DV.lit (Go.Value.int Go.IntKind.i64 uv2))))], boxes := ofL Option.none [], objs := ofL Option.none [(3, Option.some { ver := 0, t := 9, xs := uv3 : Obj II })], fxs := ofL Option.none [] : AS II })).run = (Lr07_stmtNames_8 s k x0 r3 j8 uv0 uv1 uv2 uv3).map rc_r07_stmtNames.enc := by
  intro j8
  induction j8 with
  | zero => intros; rfl
  | succ j8 ih =>
    intros
    simp only [Lr07_stmtNames_8, map_ite, map_bindO, map_someO, map_noneO, ← ih, ← h3]
    kernel_rfl
theorem Lr07_stmtNames_3_eq (s : Fam) (k : Nat) (x0 : List TStmt) : ∀ (j3 : Nat) (v0 : List TStmt) (v1 : Int) (v2 : List ByteArray), (loopGo EE (sp s) h_r07_stmtNames co_r07_stmtNames [] k Tryd.f14 3 [] j3 ({ tmps := ofL AV.any [(0, AV.c (CV.d (DV.sl 73 v0))), (3, AV.c (CV.own 3 0)), (4, AV.c (CV.d (DV.lit (Go.Value.int Go.IntKind.i64 v1))))], boxes := ofL Option.none [], objs := ofL Option.none [(3, Option.some { ver := 0, t := 9, xs := v2 : Obj II })], fxs := ofL Option.none [] : AS II })).run = (Lr07_stmtNames_3 s k x0 j3 v0 v1 v2).map rc_r07_stmtNames.enc := by
  intro j3
  induction j3 with
  | zero => intros; rfl
  | succ j3 ih =>
    have q0 := Lr07_stmtNames_8_eq s k x0 j3 (Lr07_stmtNames_3 s k x0 j3) ih
    intros
    simp only [Lr07_stmtNames_3, map_ite, map_bindO, map_someO, map_noneO, ← ih, ← q0]
    kernel_rfl
theorem e_r07_stmtNames (s : Fam) (k : Nat) (x : a_r07_stmtNames) : (evFunC EE (sp s) h_r07_stmtNames co_r07_stmtNames k Tryd.f14 (c_r07_stmtNames.enc x)).run = (B_r07_stmtNames s k x.1).map rc_r07_stmtNames.enc := by
  simp only [B_r07_stmtNames, map_ite, map_bindO, map_someO, map_noneO, ← Lr07_stmtNames_3_eq]
  kernel_rfl
-- 50 nodes
def Lr04_Among_2 (s : Fam) (k : Nat) (x0 : List ByteArray) (x1 : ByteArray) : Nat → List ByteArray → ByteArray → Int → Option (Bool)
  | 0, _, _, _ => none
  | j2 + 1, v0, v1, v2 => (if decide (v2 < (↑v0.length : Int)) = Bool.true then (if 0 ≤ v2 then (if v2 < (↑v0.length : Int) then (if ((v0.getD v2.toNat { data := #[] : ByteArray }).toList == v1.toList) = Bool.true then some (Bool.true) else Lr04_Among_2 s k x0 x1 j2 (v0) (v1) (Go.IntKind.i64.wrap (v2 + 1))) else none) else none) else some (Bool.false))
def B_r04_Among (s : Fam) (k : Nat) (x0 : List ByteArray) (x1 : ByteArray) : Option (Bool) := Lr04_Among_2 s k x0 x1 k (x0) (x1) (0)
theorem Lr04_Among_2_eq (s : Fam) (k : Nat) (x0 : List ByteArray) (x1 : ByteArray) : ∀ (j2 : Nat) (v0 : List ByteArray) (v1 : ByteArray) (v2 : Int), (loopGo EE (sp s) h_r04_Among co_r04_Among [] k Tryd.f15 2 [] j2 ({ tmps := ofL AV.any [(0, AV.c (CV.d (DV.sl 9 v0))), (1, AV.c (CV.d (DV.lit (Go.Value.string v1)))), (5, AV.c (CV.d (DV.lit (Go.Value.int Go.IntKind.i64 v2))))], boxes := ofL Option.none [], objs := ofL Option.none [], fxs := ofL Option.none [] : AS II })).run = (Lr04_Among_2 s k x0 x1 j2 v0 v1 v2).map rc_r04_Among.enc := by
  intro j2
  induction j2 with
  | zero => intros; rfl
  | succ j2 ih =>
    intros
    simp only [Lr04_Among_2, map_ite, map_bindO, map_someO, map_noneO, ← ih]
    kernel_rfl
theorem e_r04_Among (s : Fam) (k : Nat) (x : a_r04_Among) : (evFunC EE (sp s) h_r04_Among co_r04_Among k Tryd.f15 (c_r04_Among.enc x)).run = (B_r04_Among s k x.1 x.2.1).map rc_r04_Among.enc := by
  simp only [B_r04_Among, map_ite, map_bindO, map_someO, map_noneO, ← Lr04_Among_2_eq]
  kernel_rfl
-- 10 nodes
def Lr16_SamePairs_4 (s : Fam) (k : Nat) (x0 : List TPair) (x1 : List TPair) : Nat → List TPair → List TPair → Int → Option (Bool)
  | 0, _, _, _ => none
  | j4 + 1, v0, v1, v2 => (if decide (v2 < (↑v0.length : Int)) = Bool.true then (if 0 ≤ v2 then (if v2 < (↑v0.length : Int) then (if 0 ≤ v2 then (if v2 < (↑v1.length : Int) then (if (!((v0.getD v2.toNat dd_TPair).Old.toList == (v1.getD v2.toNat dd_TPair).Old.toList && ((v0.getD v2.toNat dd_TPair).New.toList == (v1.getD v2.toNat dd_TPair).New.toList && Bool.true))) = Bool.true then some (Bool.false) else Lr16_SamePairs_4 s k x0 x1 j4 (v0) (v1) (Go.IntKind.i64.wrap (v2 + 1))) else none) else none) else none) else none) else some (Bool.true))
def B_r16_SamePairs (s : Fam) (k : Nat) (x0 : List TPair) (x1 : List TPair) : Option (Bool) := (if ((↑x0.length : Int) != (↑x1.length : Int)) = Bool.true then some (Bool.false) else Lr16_SamePairs_4 s k x0 x1 k (x0) (x1) (0))
theorem Lr16_SamePairs_4_eq (s : Fam) (k : Nat) (x0 : List TPair) (x1 : List TPair) : ∀ (j4 : Nat) (v0 : List TPair) (v1 : List TPair) (v2 : Int), (loopGo EE (sp s) h_r16_SamePairs co_r16_SamePairs [] k Tryd.f16 4 [] j4 ({ tmps := ofL AV.any [(0, AV.c (CV.d (DV.sl 36 v0))), (1, AV.c (CV.d (DV.sl 36 v1))), (5, AV.c (CV.d (DV.lit (Go.Value.int Go.IntKind.i64 v2))))], boxes := ofL Option.none [], objs := ofL Option.none [], fxs := ofL Option.none [] : AS II })).run = (Lr16_SamePairs_4 s k x0 x1 j4 v0 v1 v2).map rc_r16_SamePairs.enc := by
  intro j4
  induction j4 with
  | zero => intros; rfl
  | succ j4 ih =>
    intros
    simp only [Lr16_SamePairs_4, map_ite, map_bindO, map_someO, map_noneO, ← ih]
    kernel_rfl
theorem e_r16_SamePairs (s : Fam) (k : Nat) (x : a_r16_SamePairs) : (evFunC EE (sp s) h_r16_SamePairs co_r16_SamePairs k Tryd.f16 (c_r16_SamePairs.enc x)).run = (B_r16_SamePairs s k x.1 x.2.1).map rc_r16_SamePairs.enc := by
  simp only [B_r16_SamePairs, map_ite, map_bindO, map_someO, map_noneO, ← Lr16_SamePairs_4_eq]
  kernel_rfl
-- 16 nodes
end Go.Ev
end
section
open Go Go.Proofs
namespace Go.Ev
set_option linter.unusedVariables false
set_option linter.unusedSimpArgs false
set_option maxHeartbeats 4000000
set_option maxRecDepth 100000
def Lrename_Table_5 (s : Fam) (k : Nat) (x0 : Int) (x1 : TProgram) : Nat → Int → Int → List ByteArray → List TPair → List ByteArray → Option (List TPair)
  | 0, _, _, _, _, _ => none
  | j5 + 1, v0, v1, v2, v3, v4 => (if decide (v1 < v0) = Bool.true then (if 0 ≤ v1 then (if v1 < (↑v4.length : Int) then ((s.f_words_Fresh (v4.getD v1.toNat { data := #[] : ByteArray }, v2, ())).bind fun t8 => (if (v2 ++ [t8]).length * 16 ≤ 140737488355328 then (if (v3 ++ [{ Old := v4.getD v1.toNat { data := #[] : ByteArray }, New := t8 : TPair }]).length * 32 ≤ 140737488355328 then Lrename_Table_5 s k x0 x1 j5 (v0) (Go.IntKind.i64.wrap (v1 + 1)) (v2 ++ [t8]) (v3 ++ [{ Old := v4.getD v1.toNat { data := #[] : ByteArray }, New := t8 : TPair }]) (v4) else none) else none)) else none) else none) else some (v3))
def B_rename_Table (s : Fam) (k : Nat) (x0 : Int) (x1 : TProgram) : Option (List TPair) := ((s.f_tree_Names (x1, ())).bind fun t1 => ((s.f_slices_Clone_string (t1, ())).bind fun t2 => ((s.f_words_Clash (x0, t1, ())).bind fun t3 => Lrename_Table_5 s k x0 x1 k ((↑(List.length t3) : Int)) (0) (t2) ([]) (t3))))
theorem Lrename_Table_5_eq (s : Fam) (k : Nat) (x0 : Int) (x1 : TProgram) : ∀ (j5 : Nat) (v0 : Int) (v1 : Int) (v2 : List ByteArray) (v3 : List TPair) (v4 : List ByteArray), (loopGo EE (sp s) h_rename_Table co_rename_Table [] k Tryd.f17 5 [] j5 ({ tmps := ofL AV.any [(6, AV.c (CV.own 6 0)), (7, AV.c (CV.own 7 0)), (17, AV.c (CV.own 17 0)), (18, AV.c (CV.d (DV.lit (Go.Value.int Go.IntKind.i64 v0)))), (19, AV.c (CV.d (DV.lit (Go.Value.int Go.IntKind.i64 v1))))], boxes := ofL Option.none [], objs := ofL Option.none [(6, Option.some { ver := 0, t := 9, xs := v2 : Obj II }), (7, Option.some { ver := 0, t := 36, xs := v3 : Obj II }), (17, Option.some { ver := 0, t := 9, xs := v4 : Obj II })], fxs := ofL Option.none [] : AS II })).run = (Lrename_Table_5 s k x0 x1 j5 v0 v1 v2 v3 v4).map rc_rename_Table.enc := by
  intro j5
  induction j5 with
  | zero => intros; rfl
  | succ j5 ih =>
    intros
    simp only [Lrename_Table_5, map_ite, map_bindO, map_someO, map_noneO, ← ih]
    kernel_rfl
theorem e_rename_Table (s : Fam) (k : Nat) (x : a_rename_Table) : (evFunC EE (sp s) h_rename_Table co_rename_Table k Tryd.f17 (c_rename_Table.enc x)).run = (B_rename_Table s k x.1 x.2.1).map rc_rename_Table.enc := by
  simp only [B_rename_Table, map_ite, map_bindO, map_someO, map_noneO, ← Lrename_Table_5_eq]
  kernel_rfl
-- 16 nodes
def B_r04_All (s : Fam) (k : Nat) (x0 : Int) : Option (List ByteArray) := (if (x0 == 0) = Bool.true then some ([{ data := #[97, 110, 100] : ByteArray }, { data := #[97, 114, 114, 97, 121] : ByteArray }, { data := #[98, 101, 103, 105, 110] : ByteArray }, { data := #[98, 111, 111, 108, 101, 97, 110] : ByteArray }, { data := #[99, 104, 97, 114] : ByteArray }, { data := #[100, 105, 118] : ByteArray }, { data := #[100, 111] : ByteArray }, { data := #[100, 111, 119, 110, 116, 111] : ByteArray }, { data := #[101, 108, 115, 101] : ByteArray }, { data := #[101, 110, 100] : ByteArray }, { data := #[102, 97, 108, 115, 101] : ByteArray }, { data := #[102, 111, 114] : ByteArray }, { data := #[102, 111, 114, 119, 97, 114, 100] : ByteArray }, { data := #[102, 117, 110, 99, 116, 105, 111, 110] : ByteArray }, { data := #[105, 102] : ByteArray }, { data := #[105, 110, 116, 101, 103, 101, 114] : ByteArray }, { data := #[109, 111, 100] : ByteArray }, { data := #[110, 111, 116] : ByteArray }, { data := #[111, 102] : ByteArray }, { data := #[111, 114] : ByteArray }, { data := #[112, 114, 111, 99, 101, 100, 117, 114, 101] : ByteArray }, { data := #[112, 114, 111, 103, 114, 97, 109] : ByteArray }, { data := #[114, 101, 97, 100] : ByteArray }, { data := #[114, 101, 99, 111, 114, 100] : ByteArray }, { data := #[114, 101, 112, 101, 97, 116] : ByteArray }, { data := #[114, 101, 116, 117, 114, 110] : ByteArray }, { data := #[116, 104, 101, 110] : ByteArray }, { data := #[116, 111] : ByteArray }, { data := #[116, 114, 117, 101] : ByteArray }, { data := #[116, 121, 112, 101] : ByteArray }, { data := #[117, 110, 116, 105, 108] : ByteArray }, { data := #[118, 97, 114] : ByteArray }, { data := #[119, 104, 105, 108, 101] : ByteArray }, { data := #[119, 114, 105, 116, 101] : ByteArray }]) else (if (x0 == 1) = Bool.true then some ([{ data := #[98, 111, 111, 108] : ByteArray }, { data := #[99, 104, 97, 114] : ByteArray }, { data := #[100, 111] : ByteArray }, { data := #[100, 111, 119, 110, 116, 111] : ByteArray }, { data := #[101, 108, 115, 101] : ByteArray }, { data := #[102, 97, 108, 115, 101] : ByteArray }, { data := #[102, 111, 114] : ByteArray }, { data := #[103, 101, 116] : ByteArray }, { data := #[105, 102] : ByteArray }, { data := #[105, 110, 116] : ByteArray }, { data := #[109, 97, 105, 110] : ByteArray }, { data := #[112, 114, 111, 103, 114, 97, 109] : ByteArray }, { data := #[112, 117, 116] : ByteArray }, { data := #[114, 101, 116, 117, 114, 110] : ByteArray }, { data := #[115, 116, 114, 117, 99, 116] : ByteArray }, { data := #[116, 111] : ByteArray }, { data := #[116, 114, 117, 101] : ByteArray }, { data := #[117, 110, 116, 105, 108] : ByteArray }, { data := #[117, 112] : ByteArray }, { data := #[118, 111, 105, 100] : ByteArray }, { data := #[119, 104, 105, 108, 101] : ByteArray }]) else some ([])))
theorem e_r04_All (s : Fam) (k : Nat) (x : a_r04_All) : (evFunC EE (sp s) h_r04_All co_r04_All k Tryd.f19 (c_r04_All.enc x)).run = (B_r04_All s k x.1).map rc_r04_All.enc := by
  simp only [B_r04_All, map_ite, map_bindO, map_someO, map_noneO]
  kernel_rfl
-- 5 nodes
def Lr01_SameTexts_4 (s : Fam) (k : Nat) (x0 : List ByteArray) (x1 : List ByteArray) : Nat → List ByteArray → List ByteArray → Int → Option (Bool)
  | 0, _, _, _ => none
  | j4 + 1, v0, v1, v2 => (if decide (v2 < (↑v0.length : Int)) = Bool.true then (if 0 ≤ v2 then (if v2 < (↑v0.length : Int) then (if 0 ≤ v2 then (if v2 < (↑v1.length : Int) then (if (!(v0.getD v2.toNat { data := #[] : ByteArray }).toList == (v1.getD v2.toNat { data := #[] : ByteArray }).toList) = Bool.true then some (Bool.false) else Lr01_SameTexts_4 s k x0 x1 j4 (v0) (v1) (Go.IntKind.i64.wrap (v2 + 1))) else none) else none) else none) else none) else some (Bool.true))
def B_r01_SameTexts (s : Fam) (k : Nat) (x0 : List ByteArray) (x1 : List ByteArray) : Option (Bool) := (if ((↑x0.length : Int) != (↑x1.length : Int)) = Bool.true then some (Bool.false) else Lr01_SameTexts_4 s k x0 x1 k (x0) (x1) (0))
theorem Lr01_SameTexts_4_eq (s : Fam) (k : Nat) (x0 : List ByteArray) (x1 : List ByteArray) : ∀ (j4 : Nat) (v0 : List ByteArray) (v1 : List ByteArray) (v2 : Int), (loopGo EE (sp s) h_r01_SameTexts co_r01_SameTexts [] k Tryd.f20 4 [] j4 ({ tmps := ofL AV.any [(0, AV.c (CV.d (DV.sl 9 v0))), (1, AV.c (CV.d (DV.sl 9 v1))), (5, AV.c (CV.d (DV.lit (Go.Value.int Go.IntKind.i64 v2))))], boxes := ofL Option.none [], objs := ofL Option.none [], fxs := ofL Option.none [] : AS II })).run = (Lr01_SameTexts_4 s k x0 x1 j4 v0 v1 v2).map rc_r01_SameTexts.enc := by
  intro j4
  induction j4 with
  | zero => intros; rfl
  | succ j4 ih =>
    intros
    simp only [Lr01_SameTexts_4, map_ite, map_bindO, map_someO, map_noneO, ← ih]
    kernel_rfl
theorem e_r01_SameTexts (s : Fam) (k : Nat) (x : a_r01_SameTexts) : (evFunC EE (sp s) h_r01_SameTexts co_r01_SameTexts k Tryd.f20 (c_r01_SameTexts.enc x)).run = (B_r01_SameTexts s k x.1 x.2.1).map rc_r01_SameTexts.enc := by
  simp only [B_r01_SameTexts, map_ite, map_bindO, map_someO, map_noneO, ← Lr01_SameTexts_4_eq]
  kernel_rfl
-- 16 nodes
def B_r07_sameMarks (s : Fam) (k : Nat) (x0 : TMarks) (x1 : TMarks) : Option (Bool) := ((s.f_r01_SameTexts (x0.Before, x1.Before, ())).bind fun t1 => (if t1 = Bool.true then ((s.f_r01_SameTexts (x0.Trail, x1.Trail, ())).bind fun t3 => some (Bool.true && t3)) else some (Bool.false)))
theorem e_r07_sameMarks (s : Fam) (k : Nat) (x : a_r07_sameMarks) : (evFunC EE (sp s) h_r07_sameMarks co_r07_sameMarks k Tryd.f21 (c_r07_sameMarks.enc x)).run = (B_r07_sameMarks s k x.1 x.2.1).map rc_r07_sameMarks.enc := by
  simp only [B_r07_sameMarks, map_ite, map_bindO, map_someO, map_noneO]
  kernel_rfl
-- 6 nodes
def Lr07_sameVars_4 (s : Fam) (k : Nat) (x0 : List TVar) (x1 : List TVar) : Nat → List TVar → List TVar → Int → Option (Bool)
  | 0, _, _, _ => none
  | j4 + 1, v0, v1, v2 => (if decide (v2 < (↑v0.length : Int)) = Bool.true then (if 0 ≤ v2 then (if v2 < (↑v0.length : Int) then (if 0 ≤ v2 then (if v2 < (↑v1.length : Int) then ((s.f_r07_sameMarks ((v0.getD v2.toNat dd_TVar).sub_Marks, (v1.getD v2.toNat dd_TVar).sub_Marks, ())).bind fun t9 => (if (!t9) = Bool.false then (if 0 ≤ v2 then (if v2 < (↑v0.length : Int) then (if 0 ≤ v2 then (if v2 < (↑v1.length : Int) then (if (Bool.false || !(v0.getD v2.toNat dd_TVar).Name.toList == (v1.getD v2.toNat dd_TVar).Name.toList) = Bool.false then (if 0 ≤ v2 then (if v2 < (↑v0.length : Int) then (if 0 ≤ v2 then (if v2 < (↑v1.length : Int) then (if (Bool.false || !((v0.getD v2.toNat dd_TVar).T_Kind == (v1.getD v2.toNat dd_TVar).T_Kind && ((v0.getD v2.toNat dd_TVar).T_Size == (v1.getD v2.toNat dd_TVar).T_Size && ((v0.getD v2.toNat dd_TVar).T_Name.toList == (v1.getD v2.toNat dd_TVar).T_Name.toList && Bool.true)))) = Bool.true then some (Bool.false) else Lr07_sameVars_4 s k x0 x1 j4 (v0) (v1) (Go.IntKind.i64.wrap (v2 + 1))) else none) else none) else none) else none) else some (Bool.false)) else none) else none) else none) else none) else some (Bool.false))) else none) else none) else none) else none) else some (Bool.true))
def B_r07_sameVars (s : Fam) (k : Nat) (x0 : List TVar) (x1 : List TVar) : Option (Bool) := (if ((↑x0.length : Int) != (↑x1.length : Int)) = Bool.true then some (Bool.false) else Lr07_sameVars_4 s k x0 x1 k (x0) (x1) (0))
theorem Lr07_sameVars_4_eq (s : Fam) (k : Nat) (x0 : List TVar) (x1 : List TVar) : ∀ (j4 : Nat) (v0 : List TVar) (v1 : List TVar) (v2 : Int), (loopGo EE (sp s) h_r07_sameVars co_r07_sameVars [] k Tryd.f22 4 [] j4 ({ tmps := ofL AV.any [(0, AV.c (CV.d (DV.sl 54 v0))), (1, AV.c (CV.d (DV.sl 54 v1))), (5, AV.c (CV.d (DV.lit (Go.Value.int Go.IntKind.i64 v2))))], boxes := ofL Option.none [], objs := ofL Option.none [], fxs := ofL Option.none [] : AS II })).run = (Lr07_sameVars_4 s k x0 x1 j4 v0 v1 v2).map rc_r07_sameVars.enc := by
  intro j4
  induction j4 with
  | zero => intros; rfl
  | succ j4 ih =>
    intros
    simp only [Lr07_sameVars_4, map_ite, map_bindO, map_someO, map_noneO, ← ih]
    kernel_rfl
theorem e_r07_sameVars (s : Fam) (k : Nat) (x : a_r07_sameVars) : (evFunC EE (sp s) h_r07_sameVars co_r07_sameVars k Tryd.f22 (c_r07_sameVars.enc x)).run = (B_r07_sameVars s k x.1 x.2.1).map rc_r07_sameVars.enc := by
  simp only [B_r07_sameVars, map_ite, map_bindO, map_someO, map_noneO, ← Lr07_sameVars_4_eq]
  kernel_rfl
-- 63 nodes
def Lr07_SameRoutines_10 (s : Fam) (k : Nat) (x0 : List TRoutine) (x1 : List TRoutine) (r4 : List TRoutine → List TRoutine → Int → Option (Bool)) : Nat → List TRoutine → List TRoutine → Int → Int → List ByteArray → List ByteArray → ByteArray → Int → List TParam → List TVar → List TRoutine → List TStmt → List ByteArray → List ByteArray → List ByteArray → ByteArray → Int → List TParam → List TVar → List TRoutine → List TStmt → List ByteArray → Option (Bool)
  | 0, _, _, _, _, _, _, _, _, _, _, _, _, _, _, _, _, _, _, _, _, _, _ => none
  | j10 + 1, uv0, uv1, uv2, uv3, uv4, uv5, uv6, uv7, uv8, uv9, uv10, uv11, uv12, uv13, uv14, uv15, uv16, uv17, uv18, uv19, uv20, uv21 => (if decide (uv3 < (↑uv8.length : Int)) = Bool.true then (if 0 ≤ uv3 then (if uv3 < (↑uv8.length : Int) then (if 0 ≤ uv3 then (if uv3 < (↑uv17.length : Int) then (if (!((uv8.getD uv3.toNat dd_TParam).Name.toList == (uv17.getD uv3.toNat dd_TParam).Name.toList && ((uv8.getD uv3.toNat dd_TParam).T_Kind == (uv17.getD uv3.toNat dd_TParam).T_Kind && ((uv8.getD uv3.toNat dd_TParam).T_Size == (uv17.getD uv3.toNat dd_TParam).T_Size && ((uv8.getD uv3.toNat dd_TParam).T_Name.toList == (uv17.getD uv3.toNat dd_TParam).T_Name.toList && Bool.true)) && ((uv8.getD uv3.toNat dd_TParam).Mode == (uv17.getD uv3.toNat dd_TParam).Mode && Bool.true)))) = Bool.true then some (Bool.false) else Lr07_SameRoutines_10 s k x0 x1 r4 j10 (uv0) (uv1) (uv2) (Go.IntKind.i64.wrap (uv3 + 1)) (uv4) (uv5) (uv6) (uv7) (uv8) (uv9) (uv10) (uv11) (uv12) (uv13) (uv14) (uv15) (uv16) (uv17) (uv18) (uv19) (uv20) (uv21)) else none) else none) else none) else none) else ((s.f_r07_sameVars (uv9, uv18, ())).bind fun t27 => (if (!t27) = Bool.false then ((s.f_r07_SameRoutines (uv10, uv19, ())).bind fun t29 => (if (Bool.false || !t29) = Bool.false then ((s.f_r07_SameStmts (uv11, uv20, ())).bind fun t31 => (if (Bool.false || !t31) = Bool.true then some (Bool.false) else r4 (uv0) (uv1) (Go.IntKind.i64.wrap (uv2 + 1)))) else some (Bool.false))) else some (Bool.false))))
def Lr07_SameRoutines_4 (s : Fam) (k : Nat) (x0 : List TRoutine) (x1 : List TRoutine) : Nat → List TRoutine → List TRoutine → Int → Option (Bool)
  | 0, _, _, _ => none
  | j4 + 1, v0, v1, v2 => (if decide (v2 < (↑v0.length : Int)) = Bool.true then (if 0 ≤ v2 then (if v2 < (↑v0.length : Int) then (if 0 ≤ v2 then (if v2 < (↑v1.length : Int) then ((s.f_r07_sameMarks ((v0.getD v2.toNat dd_TRoutine).sub_Marks, (v1.getD v2.toNat dd_TRoutine).sub_Marks, ())).bind fun t9 => (if (!t9 || !(v0.getD v2.toNat dd_TRoutine).Name.toList == (v1.getD v2.toNat dd_TRoutine).Name.toList || (v0.getD v2.toNat dd_TRoutine).Result != (v1.getD v2.toNat dd_TRoutine).Result || (↑(v0.getD v2.toNat dd_TRoutine).Params.length : Int) != (↑(v1.getD v2.toNat dd_TRoutine).Params.length : Int)) = Bool.false then ((s.f_r01_SameTexts ((v0.getD v2.toNat dd_TRoutine).End, (v1.getD v2.toNat dd_TRoutine).End, ())).bind fun t11 => (if (Bool.false || !t11) = Bool.true then some (Bool.false) else Lr07_SameRoutines_10 s k x0 x1 (Lr07_SameRoutines_4 s k x0 x1 j4) k (v0) (v1) (v2) (0) ((v0.getD v2.toNat dd_TRoutine).Marks_Before) ((v0.getD v2.toNat dd_TRoutine).Marks_Trail) ((v0.getD v2.toNat dd_TRoutine).Name) ((v0.getD v2.toNat dd_TRoutine).Result) ((v0.getD v2.toNat dd_TRoutine).Params) ((v0.getD v2.toNat dd_TRoutine).Vars) ((v0.getD v2.toNat dd_TRoutine).Inner) ((v0.getD v2.toNat dd_TRoutine).Body) ((v0.getD v2.toNat dd_TRoutine).End) ((v1.getD v2.toNat dd_TRoutine).Marks_Before) ((v1.getD v2.toNat dd_TRoutine).Marks_Trail) ((v1.getD v2.toNat dd_TRoutine).Name) ((v1.getD v2.toNat dd_TRoutine).Result) ((v1.getD v2.toNat dd_TRoutine).Params) ((v1.getD v2.toNat dd_TRoutine).Vars) ((v1.getD v2.toNat dd_TRoutine).Inner) ((v1.getD v2.toNat dd_TRoutine).Body) ((v1.getD v2.toNat dd_TRoutine).End))) else some (Bool.false))) else none) else none) else none) else none) else some (Bool.true))
def B_r07_SameRoutines (s : Fam) (k : Nat) (x0 : List TRoutine) (x1 : List TRoutine) : Option (Bool) := (if ((↑x0.length : Int) != (↑x1.length : Int)) = Bool.true then some (Bool.false) else Lr07_SameRoutines_4 s k x0 x1 k (x0) (x1) (0))
theorem Lr07_SameRoutines_10_eq (s : Fam) (k : Nat) (x0 : List TRoutine) (x1 : List TRoutine) (j4 : Nat) (r4 : List TRoutine → List TRoutine → Int → Option (Bool)) (h4 : ∀ (v0 : List TRoutine) (v1 : List TRoutine) (v2 : Int), (loopGo EE (sp s) h_r07_SameRoutines co_r07_SameRoutines [] k Tryd.f23 4 [] j4 ({ tmps := ofL AV.any [(0, AV.c (CV.d (DV.sl 66 v0))), (1, AV.c (CV.d (DV.sl 66 v1))), (5, AV.c (CV.d (DV.lit (Go.Value.int Go.IntKind.i64 v2))))], boxes := ofL Option.none [], objs := ofL Option.none [], fxs := ofL Option.none [] : AS II })).run = (r4 v0 v1 v2).map rc_r07_SameRoutines.enc) : ∀ (j10 : Nat) (uv0 : List TRoutine) (uv1 : List TRoutine) (uv2 : Int) (uv3 : Int) (uv4 : List ByteArray) (uv5 : List ByteArray) (uv6 : ByteArray) (uv7 : Int) (uv8 : List TParam) (uv9 : List TVar) (uv10 : List TRoutine) (uv11 : List TStmt) (uv12 : List ByteArray) (uv13 : List ByteArray) (uv14 : List ByteArray) (uv15 : ByteArray) (uv16 : Int) (uv17 : List TParam) (uv18 : List TVar) (uv19 : List TRoutine) (uv20 : List TStmt) (uv21 : List ByteArray), (loopGo EE (sp s) h_r07_SameRoutines co_r07_SameRoutines [] k Tryd.f23 10 [j4] j10 ({ tmps := ofL AV.any [(0, AV.c (CV.d (DV.sl 66 uv0))), (1, AV.c (CV.d (DV.sl 66 uv1))), (5, AV.c (CV.d (DV.lit (Go.Value.int Go.IntKind.i64 uv2)))), (6, AV.c (CV.ptr 6 0)), (7, AV.c (CV.ptr 7 0)), (8, AV.c (CV.d (DV.lit (Go.Value.int Go.IntKind.i64 uv3))))], boxes := ofL Option.none [(6, Option.some [CV.d (DV.sl 9 uv4), CV.d (DV.sl 9 uv5), CV.d (DV.lit (Go.Value.string uv6)), CV.d (DV.lit (Go.Value.int Go.IntKind.i64 uv7)), CV.d (DV.sl 68 uv8), CV.d (DV.sl 54 uv9), CV.d (DV.sl 66 uv10), CV.d (DV.sl 73 uv11), CV.d (DV.sl 9 uv12)]), (7, Option.some [CV.d (DV.sl 9 uv13), CV.d (DV.sl 9 uv14), CV.d (DV.lit (Go.Value.string uv15)), CV.d (DV.lit (Go.Value.int Go.IntKind.i64 uv16)), CV.d (DV.sl 68 uv17), CV.d (DV.sl 54 uv18), CV.d (DV.sl 66 uv19), CV.d (DV.sl 73 uv20), CV.d (DV.sl 9 uv21)])], objs := ofL Option.none [(1099511652352, Option.none), (1099511652353, Option.none), (1099511652356, Option.none), (1099511652357, Option.none), (1099511652358, Option.none), (1099511652359, Option.none), (1099511652360, Option.none), (1099511656448, Option.none), (1099511656449, Option.none), (1099511656452, Option.none), (1099511656453, Option.none), (1099511656454, Option.none), (1099511656455, Option.none), (1099511656456, Option.none)], fxs := ofL Option.none [(6, Option.none), (7, Option.none)] : AS II })).run = (Lr07_SameRoutines_10 s k x0 x1 r4 j10 uv0 uv1 uv2 uv3 uv4 uv5 uv6 uv7 uv8 uv9 uv10 uv11 uv12 uv13 uv14 uv15 uv16 uv17 uv18 uv19 uv20 uv21).map rc_r07_SameRoutines.enc := by
  intro j10
  induction j10 with
  | zero => intros; rfl
  | succ j10 ih =>
    intros
    simp only [Lr07_SameRoutines_10, map_ite, map_bindO, map_someO, map_noneO, ← ih, ← h4]
    kernel_rfl
theorem Lr07_SameRoutines_4_eq (s : Fam) (k : Nat) (x0 : List TRoutine) (x1 : List TRoutine) : ∀ (j4 : Nat) (v0 : List TRoutine) (v1 : List TRoutine) (v2 : Int), (loopGo EE (sp s) h_r07_SameRoutines co_r07_SameRoutines [] k Tryd.f23 4 [] j4 ({ tmps := ofL AV.any [(0, AV.c (CV.d (DV.sl 66 v0))), (1, AV.c (CV.d (DV.sl 66 v1))), (5, AV.c (CV.d (DV.lit (Go.Value.int Go.IntKind.i64 v2))))], boxes := ofL Option.none [], objs := ofL Option.none [], fxs := ofL Option.none [] : AS II })).run = (Lr07_SameRoutines_4 s k x0 x1 j4 v0 v1 v2).map rc_r07_SameRoutines.enc := by
  intro j4
  induction j4 with
  | zero => intros; rfl
  | succ j4 ih =>
    have q0 := Lr07_SameRoutines_10_eq s k x0 x1 j4 (Lr07_SameRoutines_4 s k x0 x1 j4) ih
    intros
    simp only [Lr07_SameRoutines_4, map_ite, map_bindO, map_someO, map_noneO, ← ih, ← q0]
    kernel_rfl
theorem e_r07_SameRoutines (s : Fam) (k : Nat) (x : a_r07_SameRoutines) : (evFunC EE (sp s) h_r07_SameRoutines co_r07_SameRoutines k Tryd.f23 (c_r07_SameRoutines.enc x)).run = (B_r07_SameRoutines s k x.1 x.2.1).map rc_r07_SameRoutines.enc := by
  simp only [B_r07_SameRoutines, map_ite, map_bindO, map_someO, map_noneO, ← Lr07_SameRoutines_4_eq]
  kernel_rfl
-- 54 nodes
def Lr07_SameStmts_4 (s : Fam) (k : Nat) (x0 : List TStmt) (x1 : List TStmt) : Nat → List TStmt → List TStmt → Int → Option (Bool)
  | 0, _, _, _ => none
  | j4 + 1, v0, v1, v2 => (if decide (v2 < (↑v0.length : Int)) = Bool.true then (if 0 ≤ v2 then (if v2 < (↑v0.length : Int) then (if 0 ≤ v2 then (if v2 < (↑v1.length : Int) then ((s.f_r07_sameMarks ((v0.getD v2.toNat dd_TStmt).sub_Marks, (v1.getD v2.toNat dd_TStmt).sub_Marks, ())).bind fun t9 => (if (!t9 || (v0.getD v2.toNat dd_TStmt).Op != (v1.getD v2.toNat dd_TStmt).Op || !(v0.getD v2.toNat dd_TStmt).Name.toList == (v1.getD v2.toNat dd_TStmt).Name.toList || !(v0.getD v2.toNat dd_TStmt).Down == (v1.getD v2.toNat dd_TStmt).Down || !(v0.getD v2.toNat dd_TStmt).More == (v1.getD v2.toNat dd_TStmt).More) = Bool.false then ((s.f_r07_SameExpr ((v0.getD v2.toNat dd_TStmt).sub_P, (v1.getD v2.toNat dd_TStmt).sub_P, ())).bind fun t11 => (if (Bool.false || !t11) = Bool.false then ((s.f_r07_SameExprs ((v0.getD v2.toNat dd_TStmt).E, (v1.getD v2.toNat dd_TStmt).E, ())).bind fun t13 => (if (Bool.false || !t13) = Bool.true then some (Bool.false) else ((s.f_r01_SameTexts ((v0.getD v2.toNat dd_TStmt).End, (v1.getD v2.toNat dd_TStmt).End, ())).bind fun t16 => (if (!t16) = Bool.false then ((s.f_r01_SameTexts ((v0.getD v2.toNat dd_TStmt).End2, (v1.getD v2.toNat dd_TStmt).End2, ())).bind fun t18 => (if (Bool.false || !t18) = Bool.false then ((s.f_r07_SameStmts ((v0.getD v2.toNat dd_TStmt).Body, (v1.getD v2.toNat dd_TStmt).Body, ())).bind fun t20 => (if (Bool.false || !t20) = Bool.false then ((s.f_r07_SameStmts ((v0.getD v2.toNat dd_TStmt).Else, (v1.getD v2.toNat dd_TStmt).Else, ())).bind fun t22 => (if (Bool.false || !t22) = Bool.true then some (Bool.false) else Lr07_SameStmts_4 s k x0 x1 j4 (v0) (v1) (Go.IntKind.i64.wrap (v2 + 1)))) else some (Bool.false))) else some (Bool.false))) else some (Bool.false))))) else some (Bool.false))) else some (Bool.false))) else none) else none) else none) else none) else some (Bool.true))
def B_r07_SameStmts (s : Fam) (k : Nat) (x0 : List TStmt) (x1 : List TStmt) : Option (Bool) := (if ((↑x0.length : Int) != (↑x1.length : Int)) = Bool.true then some (Bool.false) else Lr07_SameStmts_4 s k x0 x1 k (x0) (x1) (0))
theorem Lr07_SameStmts_4_eq (s : Fam) (k : Nat) (x0 : List TStmt) (x1 : List TStmt) : ∀ (j4 : Nat) (v0 : List TStmt) (v1 : List TStmt) (v2 : Int), (loopGo EE (sp s) h_r07_SameStmts co_r07_SameStmts [] k Tryd.f24 4 [] j4 ({ tmps := ofL AV.any [(0, AV.c (CV.d (DV.sl 73 v0))), (1, AV.c (CV.d (DV.sl 73 v1))), (5, AV.c (CV.d (DV.lit (Go.Value.int Go.IntKind.i64 v2))))], boxes := ofL Option.none [], objs := ofL Option.none [], fxs := ofL Option.none [] : AS II })).run = (Lr07_SameStmts_4 s k x0 x1 j4 v0 v1 v2).map rc_r07_SameStmts.enc := by
  intro j4
  induction j4 with
  | zero => intros; rfl
  | succ j4 ih =>
    intros
    simp only [Lr07_SameStmts_4, map_ite, map_bindO, map_someO, map_noneO, ← ih]
    kernel_rfl
theorem e_r07_SameStmts (s : Fam) (k : Nat) (x : a_r07_SameStmts) : (evFunC EE (sp s) h_r07_SameStmts co_r07_SameStmts k Tryd.f24 (c_r07_SameStmts.enc x)).run = (B_r07_SameStmts s k x.1 x.2.1).map rc_r07_SameStmts.enc := by
  simp only [B_r07_SameStmts, map_ite, map_bindO, map_someO, map_noneO, ← Lr07_SameStmts_4_eq]
  kernel_rfl
-- 62 nodes
def Lr07_ExprNames_3 (s : Fam) (k : Nat) (x0 : TExpr) : Nat → Int → Int → Int → ByteArray → ByteArray → List TExpr → List ByteArray → Option (List ByteArray)
  | 0, _, _, _, _, _, _, _ => none
  | j3 + 1, v0, v1, v2, v3, v4, v5, v6 => (if decide (v0 < (↑v5.length : Int)) = Bool.true then (if 0 ≤ v0 then (if v0 < (↑v5.length : Int) then ((s.f_r07_ExprNames ((v5.getD v0.toNat dd_TExpr).re, ())).bind fun t8 => (if (v6 ++ t8).length * 16 ≤ 140737488355328 then Lr07_ExprNames_3 s k x0 j3 (Go.IntKind.i64.wrap (v0 + 1)) (v1) (v2) (v3) (v4) (v5) (v6 ++ t8) else none)) else none) else none) else some (v6))
def B_r07_ExprNames (s : Fam) (k : Nat) (x0 : TExpr) : Option (List ByteArray) := ((s.f_r07_Parts (x0.Name, ())).bind fun t1 => ((s.f_r07_Parts (x0.Field, ())).bind fun t2 => (if (t1 ++ t2).length * 16 ≤ 140737488355328 then Lr07_ExprNames_3 s k x0 k (0) (x0.Op) (x0.N) (x0.Name) (x0.Field) (x0.L) (t1 ++ t2) else none)))
theorem Lr07_ExprNames_3_eq (s : Fam) (k : Nat) (x0 : TExpr) : ∀ (j3 : Nat) (v0 : Int) (v1 : Int) (v2 : Int) (v3 : ByteArray) (v4 : ByteArray) (v5 : List TExpr) (v6 : List ByteArray), (loopGo EE (sp s) h_r07_ExprNames co_r07_ExprNames [] k Tryd.f25 3 [] j3 ({ tmps := ofL AV.any [(1, AV.c (CV.ptr 1 0)), (3, AV.c (CV.own 3 0)), (4, AV.c (CV.d (DV.lit (Go.Value.int Go.IntKind.i64 v0))))], boxes := ofL Option.none [(1, Option.some [CV.d (DV.lit (Go.Value.int Go.IntKind.i64 v1)), CV.d (DV.lit (Go.Value.int Go.IntKind.i64 v2)), CV.d (DV.lit (Go.Value.string v3)), CV.d (DV.lit (Go.Value.string v4)), CV.d (DV.sl 71 v5)])], objs := ofL Option.none [(3, Option.some { ver := 0, t := 9, xs := v6 : Obj II }), (1099511631876, Option.none)], fxs := ofL Option.none [(1, Option.none)] : AS II })).run = (Lr07_ExprNames_3 s k x0 j3 v0 v1 v2 v3 v4 v5 v6).map rc_r07_ExprNames.enc := by
  intro j3
  induction j3 with
  | zero => intros; rfl
  | succ j3 ih =>
    intros
    simp only [Lr07_ExprNames_3, map_ite, map_bindO, map_someO, map_noneO, ← ih]
    kernel_rfl
theorem e_r07_ExprNames (s : Fam) (k : Nat) (x : a_r07_ExprNames) : (evFunC EE (sp s) h_r07_ExprNames co_r07_ExprNames k Tryd.f25 (c_r07_ExprNames.enc x)).run = (B_r07_ExprNames s k x.1).map rc_r07_ExprNames.enc := by
  simp only [B_r07_ExprNames, map_ite, map_bindO, map_someO, map_noneO, ← Lr07_ExprNames_3_eq]
  kernel_rfl
-- 15 nodes
def Lwords_Fresh_3 (s : Fam) (k : Nat) (x0 : ByteArray) (x1 : List ByteArray) : Nat → ByteArray → List ByteArray → ByteArray → Int → Option (ByteArray)
  | 0, _, _, _, _ => none
  | j3 + 1, v0, v1, v2, v3 => ((s.f_words_Is (0, v2, ())).bind fun t2 => (if t2 = Bool.false then ((s.f_words_Is (1, v2, ())).bind fun t4 => (if (Bool.false || t4) = Bool.false then ((s.f_slices_Contains_string (v1, v2, ())).bind fun t6 => (if (Bool.false || t6) = Bool.true then (if (↑0 : Int) ≤ if 24 < (↑v0.size : Int) then 24 else (↑v0.size : Int) then (if (if 24 < (↑v0.size : Int) then 24 else (↑v0.size : Int)) ≤ (↑v0.size : Int) then (if (↑((v0.extract (↑0 : Int).toNat (if 24 < (↑v0.size : Int) then 24 else (↑v0.size : Int)).toNat).size + { data := #[95] : ByteArray }.size) : Int) > Go.IntKind.i64.max then none else ((s.f_strconv_Itoa (v3, ())).bind fun t13 => (if (↑((v0.extract (↑0 : Int).toNat (if 24 < (↑v0.size : Int) then 24 else (↑v0.size : Int)).toNat ++ { data := #[95] : ByteArray }).size + ByteArray.size t13) : Int) > Go.IntKind.i64.max then none else Lwords_Fresh_3 s k x0 x1 j3 (v0) (v1) (v0.extract (↑0 : Int).toNat (if 24 < (↑v0.size : Int) then 24 else (↑v0.size : Int)).toNat ++ { data := #[95] : ByteArray } ++ t13) (Go.IntKind.i64.wrap (v3 + 1))))) else none) else none) else some (v2))) else (if (↑0 : Int) ≤ if 24 < (↑v0.size : Int) then 24 else (↑v0.size : Int) then (if (if 24 < (↑v0.size : Int) then 24 else (↑v0.size : Int)) ≤ (↑v0.size : Int) then (if (↑((v0.extract (↑0 : Int).toNat (if 24 < (↑v0.size : Int) then 24 else (↑v0.size : Int)).toNat).size + { data := #[95] : ByteArray }.size) : Int) > Go.IntKind.i64.max then none else ((s.f_strconv_Itoa (v3, ())).bind fun t27 => (if (↑((v0.extract (↑0 : Int).toNat (if 24 < (↑v0.size : Int) then 24 else (↑v0.size : Int)).toNat ++ { data := #[95] : ByteArray }).size + ByteArray.size t27) : Int) > Go.IntKind.i64.max then none else Lwords_Fresh_3 s k x0 x1 j3 (v0) (v1) (v0.extract (↑0 : Int).toNat (if 24 < (↑v0.size : Int) then 24 else (↑v0.size : Int)).toNat ++ { data := #[95] : ByteArray } ++ t27) (Go.IntKind.i64.wrap (v3 + 1))))) else none) else none))) else (if (↑0 : Int) ≤ if 24 < (↑v0.size : Int) then 24 else (↑v0.size : Int) then (if (if 24 < (↑v0.size : Int) then 24 else (↑v0.size : Int)) ≤ (↑v0.size : Int) then (if (↑((v0.extract (↑0 : Int).toNat (if 24 < (↑v0.size : Int) then 24 else (↑v0.size : Int)).toNat).size + { data := #[95] : ByteArray }.size) : Int) > Go.IntKind.i64.max then none else ((s.f_strconv_Itoa (v3, ())).bind fun t42 => (if (↑((v0.extract (↑0 : Int).toNat (if 24 < (↑v0.size : Int) then 24 else (↑v0.size : Int)).toNat ++ { data := #[95] : ByteArray }).size + ByteArray.size t42) : Int) > Go.IntKind.i64.max then none else Lwords_Fresh_3 s k x0 x1 j3 (v0) (v1) (v0.extract (↑0 : Int).toNat (if 24 < (↑v0.size : Int) then 24 else (↑v0.size : Int)).toNat ++ { data := #[95] : ByteArray } ++ t42) (Go.IntKind.i64.wrap (v3 + 1))))) else none) else none)))
def B_words_Fresh (s : Fam) (k : Nat) (x0 : ByteArray) (x1 : List ByteArray) : Option (ByteArray) := Lwords_Fresh_3 s k x0 x1 k (x0) (x1) (x0) (1)
theorem Lwords_Fresh_3_eq (s : Fam) (k : Nat) (x0 : ByteArray) (x1 : List ByteArray) : ∀ (j3 : Nat) (v0 : ByteArray) (v1 : List ByteArray) (v2 : ByteArray) (v3 : Int), (loopGo EE (sp s) h_words_Fresh co_words_Fresh [] k Tryd.f29 3 [] j3 ({ tmps := ofL AV.any [(0, AV.c (CV.d (DV.lit (Go.Value.string v0)))), (1, AV.c (CV.d (DV.sl 9 v1))), (5, AV.c (CV.d (DV.lit (Go.Value.string v2)))), (6, AV.c (CV.d (DV.lit (Go.Value.int Go.IntKind.i64 v3))))], boxes := ofL Option.none [], objs := ofL Option.none [], fxs := ofL Option.none [] : AS II })).run = (Lwords_Fresh_3 s k x0 x1 j3 v0 v1 v2 v3).map rc_words_Fresh.enc := by
  intro j3
  induction j3 with
  | zero => intros; rfl
  | succ j3 ih =>
    intros
    simp only [Lwords_Fresh_3, map_ite, map_bindO, map_someO, map_noneO, ← ih]
    kernel_rfl
theorem e_words_Fresh (s : Fam) (k : Nat) (x : a_words_Fresh) : (evFunC EE (sp s) h_words_Fresh co_words_Fresh k Tryd.f29 (c_words_Fresh.enc x)).run = (B_words_Fresh s k x.1 x.2.1).map rc_words_Fresh.enc := by
  simp only [B_words_Fresh, map_ite, map_bindO, map_someO, map_noneO, ← Lwords_Fresh_3_eq]
  kernel_rfl
-- 47 nodes
def Ltree_Rename_1_2 (s : Fam) (k : Nat) (x0 : ByteArray) (x1 : List TPair) : Nat → ByteArray → List TPair → Int → Int → Option (ByteArray)
  | 0, _, _, _, _ => none
  | j2 + 1, v0, v1, v2, v3 => (if decide (v3 < v2) = Bool.true then (if 0 ≤ v3 then (if v3 < (↑v1.length : Int) then (if ((v1.getD v3.toNat dd_TPair).Old.toList == v0.toList) = Bool.true then some ((v1.getD v3.toNat dd_TPair).New) else Ltree_Rename_1_2 s k x0 x1 j2 (v0) (v1) (v2) (Go.IntKind.i64.wrap (v3 + 1))) else none) else none) else some (v0))
def B_tree_Rename_1 (s : Fam) (k : Nat) (x0 : ByteArray) (x1 : List TPair) : Option (ByteArray) := Ltree_Rename_1_2 s k x0 x1 k (x0) (x1) ((↑x1.length : Int)) (0)
theorem Ltree_Rename_1_2_eq (s : Fam) (k : Nat) (x0 : ByteArray) (x1 : List TPair) : ∀ (j2 : Nat) (v0 : ByteArray) (v1 : List TPair) (v2 : Int) (v3 : Int), (loopGo EE (sp s) h_tree_Rename_1 co_tree_Rename_1 [] k Tryd.f30 2 [] j2 ({ tmps := ofL AV.any [(0, AV.c (CV.d (DV.lit (Go.Value.string v0)))), (6, AV.c (CV.d (DV.sl 36 v1))), (7, AV.c (CV.d (DV.lit (Go.Value.int Go.IntKind.i64 v2)))), (8, AV.c (CV.d (DV.lit (Go.Value.int Go.IntKind.i64 v3))))], boxes := ofL Option.none [], objs := ofL Option.none [(6, Option.none)], fxs := ofL Option.none [] : AS II })).run = (Ltree_Rename_1_2 s k x0 x1 j2 v0 v1 v2 v3).map rc_tree_Rename_1.enc := by
  intro j2
  induction j2 with
  | zero => intros; rfl
  | succ j2 ih =>
    intros
    simp only [Ltree_Rename_1_2, map_ite, map_bindO, map_someO, map_noneO, ← ih]
    kernel_rfl
theorem e_tree_Rename_1 (s : Fam) (k : Nat) (x : a_tree_Rename_1) : (evFunC EE (sp s) h_tree_Rename_1 co_tree_Rename_1 k Tryd.f30 (c_tree_Rename_1.enc x)).run = (B_tree_Rename_1 s k x.1 x.2.1).map rc_tree_Rename_1.enc := by
  simp only [B_tree_Rename_1, map_ite, map_bindO, map_someO, map_noneO, ← Ltree_Rename_1_2_eq]
  kernel_rfl
-- 10 nodes
def B_tree_mapper_program (s : Fam) (k : Nat) (x0 : Thing × Unit) (x1 : TProgram) : Option (TProgram × Thing × Unit) := ((s.f_tree_mapper_parts ((x0.fst, ()), x1.Name, ())).bind fun t1 => ((s.f_slices_Clone_string (x1.Before, ())).bind fun t2 => ((s.f_slices_Clone_string (x1.Mid, ())).bind fun t3 => ((s.f_slices_Clone_string (x1.After, ())).bind fun t4 => ((s.f_slices_Clone_string (x1.End, ())).bind fun t5 => ((s.f_tree_each_Rec (x1.Recs, (t1.snd.fst, ()), ())).bind fun t6 => ((s.f_tree_each_Var (x1.Vars, (t6.snd.fst, ()), ())).bind fun t7 => ((s.f_tree_each_Routine (x1.Routines, (t7.snd.fst, ()), ())).bind fun t8 => ((s.f_tree_each_Stmt (x1.Body, (t8.snd.fst, ()), ())).bind fun t9 => some (({ Name := t1.fst, Before := t2, Mid := t3, After := t4, Recs := t6.fst, Vars := t7.fst, Routines := t8.fst, Body := t9.fst, End := t5 : TProgram }, t9.snd.fst, ())))))))))))
theorem e_tree_mapper_program (s : Fam) (k : Nat) (x : a_tree_mapper_program) : (evFunC EE (sp s) h_tree_mapper_program co_tree_mapper_program k Tryd.f31 (c_tree_mapper_program.enc x)).run = (B_tree_mapper_program s k x.1 x.2.1).map rc_tree_mapper_program.enc := by
  simp only [B_tree_mapper_program, map_ite, map_bindO, map_someO, map_noneO]
  kernel_rfl
-- 10 nodes
def B_r07_SameExpr (s : Fam) (k : Nat) (x0 : TExpr) (x1 : TExpr) : Option (Bool) := (if (x0.Op == x1.Op && x0.N == x1.N && x0.Name.toList == x1.Name.toList && x0.Field.toList == x1.Field.toList) = Bool.true then ((s.f_r07_SameExprs (x0.L, x1.L, ())).bind fun t2 => some (Bool.true && t2)) else some (Bool.false))
theorem e_r07_SameExpr (s : Fam) (k : Nat) (x : a_r07_SameExpr) : (evFunC EE (sp s) h_r07_SameExpr co_r07_SameExpr k Tryd.f32 (c_r07_SameExpr.enc x)).run = (B_r07_SameExpr s k x.1 x.2.1).map rc_r07_SameExpr.enc := by
  simp only [B_r07_SameExpr, map_ite, map_bindO, map_someO, map_noneO]
  kernel_rfl
-- 5 nodes
def Lr07_SameExprs_4 (s : Fam) (k : Nat) (x0 : List TExpr) (x1 : List TExpr) : Nat → List TExpr → List TExpr → Int → Option (Bool)
  | 0, _, _, _ => none
  | j4 + 1, v0, v1, v2 => (if decide (v2 < (↑v0.length : Int)) = Bool.true then (if 0 ≤ v2 then (if v2 < (↑v0.length : Int) then (if 0 ≤ v2 then (if v2 < (↑v1.length : Int) then ((s.f_r07_SameExpr ((v0.getD v2.toNat dd_TExpr).re, (v1.getD v2.toNat dd_TExpr).re, ())).bind fun t9 => (if (!t9) = Bool.true then some (Bool.false) else Lr07_SameExprs_4 s k x0 x1 j4 (v0) (v1) (Go.IntKind.i64.wrap (v2 + 1)))) else none) else none) else none) else none) else some (Bool.true))
def B_r07_SameExprs (s : Fam) (k : Nat) (x0 : List TExpr) (x1 : List TExpr) : Option (Bool) := (if ((↑x0.length : Int) != (↑x1.length : Int)) = Bool.true then some (Bool.false) else Lr07_SameExprs_4 s k x0 x1 k (x0) (x1) (0))
theorem Lr07_SameExprs_4_eq (s : Fam) (k : Nat) (x0 : List TExpr) (x1 : List TExpr) : ∀ (j4 : Nat) (v0 : List TExpr) (v1 : List TExpr) (v2 : Int), (loopGo EE (sp s) h_r07_SameExprs co_r07_SameExprs [] k Tryd.f33 4 [] j4 ({ tmps := ofL AV.any [(0, AV.c (CV.d (DV.sl 71 v0))), (1, AV.c (CV.d (DV.sl 71 v1))), (5, AV.c (CV.d (DV.lit (Go.Value.int Go.IntKind.i64 v2))))], boxes := ofL Option.none [], objs := ofL Option.none [], fxs := ofL Option.none [] : AS II })).run = (Lr07_SameExprs_4 s k x0 x1 j4 v0 v1 v2).map rc_r07_SameExprs.enc := by
  intro j4
  induction j4 with
  | zero => intros; rfl
  | succ j4 ih =>
    intros
    simp only [Lr07_SameExprs_4, map_ite, map_bindO, map_someO, map_noneO, ← ih]
    kernel_rfl
theorem e_r07_SameExprs (s : Fam) (k : Nat) (x : a_r07_SameExprs) : (evFunC EE (sp s) h_r07_SameExprs co_r07_SameExprs k Tryd.f33 (c_r07_SameExprs.enc x)).run = (B_r07_SameExprs s k x.1 x.2.1).map rc_r07_SameExprs.enc := by
  simp only [B_r07_SameExprs, map_ite, map_bindO, map_someO, map_noneO, ← Lr07_SameExprs_4_eq]
  kernel_rfl
-- 17 nodes
def B_slices_Contains_string (s : Fam) (k : Nat) (x0 : List ByteArray) (x1 : ByteArray) : Option (Bool) := ((s.f_slices_Index_string (x0, x1, ())).bind fun t1 => some (decide (t1 ≥ 0)))
theorem e_slices_Contains_string (s : Fam) (k : Nat) (x : a_slices_Contains_string) : (evFunC EE (sp s) h_slices_Contains_string co_slices_Contains_string k Tryd.f37 (c_slices_Contains_string.enc x)).run = (B_slices_Contains_string s k x.1 x.2.1).map rc_slices_Contains_string.enc := by
  simp only [B_slices_Contains_string, map_ite, map_bindO, map_someO, map_noneO]
  kernel_rfl
-- 2 nodes
def Ltree_each_Rec_3 (s : Fam) (k : Nat) (x0 : List TRec) (x1 : Thing × Unit) : Nat → List TRec → Int → Int → List TRec → Thing → Option (List TRec × Thing × Unit)
  | 0, _, _, _, _, _ => none
  | j3 + 1, v0, v1, v2, v3, v4 => (if decide (v2 < v1) = Bool.true then (if 0 ≤ v2 then (if v2 < (↑v0.length : Int) then ((s.f_tree_mapper_rec ((v4, ()), v0.getD v2.toNat dd_TRec, ())).bind fun t5 => (if (v3 ++ [t5.fst]).length * 112 ≤ 140737488355328 then Ltree_each_Rec_3 s k x0 x1 j3 (v0) (v1) (Go.IntKind.i64.wrap (v2 + 1)) (v3 ++ [t5.fst]) (t5.snd.fst) else none)) else none) else none) else some ((v3, v4, ())))
def B_tree_each_Rec (s : Fam) (k : Nat) (x0 : List TRec) (x1 : Thing × Unit) : Option (List TRec × Thing × Unit) := Ltree_each_Rec_3 s k x0 x1 k (x0) ((↑x0.length : Int)) (0) ([]) (x1.fst)
theorem Ltree_each_Rec_3_eq (s : Fam) (k : Nat) (x0 : List TRec) (x1 : Thing × Unit) : ∀ (j3 : Nat) (v0 : List TRec) (v1 : Int) (v2 : Int) (v3 : List TRec) (v4 : Thing), (loopGo EE (sp s) h_tree_each_Rec co_tree_each_Rec (rootAs (unAs 1000004 (c_tree_each_Rec.enc (x0, x1, ()))).1) k Tryd.f40 3 [] j3 ({ tmps := ofL AV.any [(1, AV.c (CV.mth 41 [CV.fx 1000004])), (5, AV.c (CV.own 5 0)), (8, AV.c (CV.d (DV.sl 44 v0))), (9, AV.c (CV.d (DV.lit (Go.Value.int Go.IntKind.i64 v1)))), (10, AV.c (CV.d (DV.lit (Go.Value.int Go.IntKind.i64 v2))))], boxes := ofL Option.none [(1000004, Option.none)], objs := ofL Option.none [(5, Option.some { ver := 0, t := 44, xs := v3 : Obj II }), (8, Option.none)], fxs := ofL Option.none [(1000004, Option.some v4)] : AS II })).run = (Ltree_each_Rec_3 s k x0 x1 j3 v0 v1 v2 v3 v4).map rc_tree_each_Rec.enc := by
  intro j3
  induction j3 with
  | zero => intros; rfl
  | succ j3 ih =>
    intros
    simp only [Ltree_each_Rec_3, map_ite, map_bindO, map_someO, map_noneO, ← ih]
    kernel_rfl
theorem e_tree_each_Rec (s : Fam) (k : Nat) (x : a_tree_each_Rec) : (evFunC EE (sp s) h_tree_each_Rec co_tree_each_Rec k Tryd.f40 (c_tree_each_Rec.enc x)).run = (B_tree_each_Rec s k x.1 x.2.1).map rc_tree_each_Rec.enc := by
  simp only [B_tree_each_Rec, map_ite, map_bindO, map_someO, map_noneO, ← Ltree_each_Rec_3_eq]
  kernel_rfl
-- 11 nodes
def B_tree_mapper_rec (s : Fam) (k : Nat) (x0 : Thing × Unit) (x1 : TRec) : Option (TRec × Thing × Unit) := ((s.f_tree_mapper_marks ((x0.fst, ()), x1.sub_Marks, ())).bind fun t1 => ((s.f_tree_mapper_parts ((t1.snd.fst, ()), x1.Name, ())).bind fun t2 => ((s.f_tree_each_Field (x1.Fields, ((), (t2.snd.fst, ()), ()), ())).bind fun t3 => ((s.f_slices_Clone_string (x1.End, ())).bind fun t4 => some (({ Marks_Before := t1.fst.Before, Marks_Trail := t1.fst.Trail, Name := t2.fst, Fields := t3.fst, End := t4 : TRec }, t3.snd.fst, ()))))))
theorem e_tree_mapper_rec (s : Fam) (k : Nat) (x : a_tree_mapper_rec) : (evFunC EE (sp s) h_tree_mapper_rec co_tree_mapper_rec k Tryd.f41 (c_tree_mapper_rec.enc x)).run = (B_tree_mapper_rec s k x.1 x.2.1).map rc_tree_mapper_rec.enc := by
  simp only [B_tree_mapper_rec, map_ite, map_bindO, map_someO, map_noneO]
  kernel_rfl
-- 5 nodes
def Ltree_each_Var_3 (s : Fam) (k : Nat) (x0 : List TVar) (x1 : Thing × Unit) : Nat → List TVar → Int → Int → List TVar → Thing → Option (List TVar × Thing × Unit)
  | 0, _, _, _, _, _ => none
  | j3 + 1, v0, v1, v2, v3, v4 => (if decide (v2 < v1) = Bool.true then (if 0 ≤ v2 then (if v2 < (↑v0.length : Int) then ((s.f_tree_mapper_variable ((v4, ()), v0.getD v2.toNat dd_TVar, ())).bind fun t5 => (if (v3 ++ [t5.fst]).length * 96 ≤ 140737488355328 then Ltree_each_Var_3 s k x0 x1 j3 (v0) (v1) (Go.IntKind.i64.wrap (v2 + 1)) (v3 ++ [t5.fst]) (t5.snd.fst) else none)) else none) else none) else some ((v3, v4, ())))
def B_tree_each_Var (s : Fam) (k : Nat) (x0 : List TVar) (x1 : Thing × Unit) : Option (List TVar × Thing × Unit) := Ltree_each_Var_3 s k x0 x1 k (x0) ((↑x0.length : Int)) (0) ([]) (x1.fst)
theorem Ltree_each_Var_3_eq (s : Fam) (k : Nat) (x0 : List TVar) (x1 : Thing × Unit) : ∀ (j3 : Nat) (v0 : List TVar) (v1 : Int) (v2 : Int) (v3 : List TVar) (v4 : Thing), (loopGo EE (sp s) h_tree_each_Var co_tree_each_Var (rootAs (unAs 1000004 (c_tree_each_Var.enc (x0, x1, ()))).1) k Tryd.f42 3 [] j3 ({ tmps := ofL AV.any [(1, AV.c (CV.mth 43 [CV.fx 1000004])), (5, AV.c (CV.own 5 0)), (8, AV.c (CV.d (DV.sl 54 v0))), (9, AV.c (CV.d (DV.lit (Go.Value.int Go.IntKind.i64 v1)))), (10, AV.c (CV.d (DV.lit (Go.Value.int Go.IntKind.i64 v2))))], boxes := ofL Option.none [(1000004, Option.none)], objs := ofL Option.none [(5, Option.some { ver := 0, t := 54, xs := v3 : Obj II }), (8, Option.none)], fxs := ofL Option.none [(1000004, Option.some v4)] : AS II })).run = (Ltree_each_Var_3 s k x0 x1 j3 v0 v1 v2 v3 v4).map rc_tree_each_Var.enc := by
  intro j3
  induction j3 with
  | zero => intros; rfl
  | succ j3 ih =>
    intros
    simp only [Ltree_each_Var_3, map_ite, map_bindO, map_someO, map_noneO, ← ih]
    kernel_rfl
theorem e_tree_each_Var (s : Fam) (k : Nat) (x : a_tree_each_Var) : (evFunC EE (sp s) h_tree_each_Var co_tree_each_Var k Tryd.f42 (c_tree_each_Var.enc x)).run = (B_tree_each_Var s k x.1 x.2.1).map rc_tree_each_Var.enc := by
  simp only [B_tree_each_Var, map_ite, map_bindO, map_someO, map_noneO, ← Ltree_each_Var_3_eq]
  kernel_rfl
-- 11 nodes
def B_tree_mapper_variable (s : Fam) (k : Nat) (x0 : Thing × Unit) (x1 : TVar) : Option (TVar × Thing × Unit) := ((s.f_tree_mapper_marks ((x0.fst, ()), x1.sub_Marks, ())).bind fun t1 => ((s.f_tree_mapper_parts ((t1.snd.fst, ()), x1.Name, ())).bind fun t2 => ((s.f_tree_mapper_typ ((t2.snd.fst, ()), x1.sub_T, ())).bind fun t3 => some (({ Marks_Before := t1.fst.Before, Marks_Trail := t1.fst.Trail, Name := t2.fst, T_Kind := t3.fst.Kind, T_Size := t3.fst.Size, T_Name := t3.fst.Name : TVar }, t3.snd.fst, ())))))
theorem e_tree_mapper_variable (s : Fam) (k : Nat) (x : a_tree_mapper_variable) : (evFunC EE (sp s) h_tree_mapper_variable co_tree_mapper_variable k Tryd.f43 (c_tree_mapper_variable.enc x)).run = (B_tree_mapper_variable s k x.1 x.2.1).map rc_tree_mapper_variable.enc := by
  simp only [B_tree_mapper_variable, map_ite, map_bindO, map_someO, map_noneO]
  kernel_rfl
-- 4 nodes
def Ltree_each_Routine_3 (s : Fam) (k : Nat) (x0 : List TRoutine) (x1 : Thing × Unit) : Nat → List TRoutine → Int → Int → List TRoutine → Thing → Option (List TRoutine × Thing × Unit)
  | 0, _, _, _, _, _ => none
  | j3 + 1, v0, v1, v2, v3, v4 => (if decide (v2 < v1) = Bool.true then (if 0 ≤ v2 then (if v2 < (↑v0.length : Int) then ((s.f_tree_mapper_routine ((v4, ()), (v0.getD v2.toNat dd_TRoutine).re, ())).bind fun t5 => (if (v3 ++ [t5.fst.re]).length * 192 ≤ 140737488355328 then Ltree_each_Routine_3 s k x0 x1 j3 (v0) (v1) (Go.IntKind.i64.wrap (v2 + 1)) (v3 ++ [t5.fst.re]) (t5.snd.fst) else none)) else none) else none) else some ((v3, v4, ())))
def B_tree_each_Routine (s : Fam) (k : Nat) (x0 : List TRoutine) (x1 : Thing × Unit) : Option (List TRoutine × Thing × Unit) := Ltree_each_Routine_3 s k x0 x1 k (x0) ((↑x0.length : Int)) (0) ([]) (x1.fst)
theorem Ltree_each_Routine_3_eq (s : Fam) (k : Nat) (x0 : List TRoutine) (x1 : Thing × Unit) : ∀ (j3 : Nat) (v0 : List TRoutine) (v1 : Int) (v2 : Int) (v3 : List TRoutine) (v4 : Thing), (loopGo EE (sp s) h_tree_each_Routine co_tree_each_Routine (rootAs (unAs 1000004 (c_tree_each_Routine.enc (x0, x1, ()))).1) k Tryd.f44 3 [] j3 ({ tmps := ofL AV.any [(1, AV.c (CV.mth 45 [CV.fx 1000004])), (5, AV.c (CV.own 5 0)), (8, AV.c (CV.d (DV.sl 66 v0))), (9, AV.c (CV.d (DV.lit (Go.Value.int Go.IntKind.i64 v1)))), (10, AV.c (CV.d (DV.lit (Go.Value.int Go.IntKind.i64 v2))))], boxes := ofL Option.none [(1000004, Option.none)], objs := ofL Option.none [(5, Option.some { ver := 0, t := 66, xs := v3 : Obj II }), (8, Option.none)], fxs := ofL Option.none [(1000004, Option.some v4)] : AS II })).run = (Ltree_each_Routine_3 s k x0 x1 j3 v0 v1 v2 v3 v4).map rc_tree_each_Routine.enc := by
  intro j3
  induction j3 with
  | zero => intros; rfl
  | succ j3 ih =>
    intros
    simp only [Ltree_each_Routine_3, map_ite, map_bindO, map_someO, map_noneO, ← ih]
    kernel_rfl
theorem e_tree_each_Routine (s : Fam) (k : Nat) (x : a_tree_each_Routine) : (evFunC EE (sp s) h_tree_each_Routine co_tree_each_Routine k Tryd.f44 (c_tree_each_Routine.enc x)).run = (B_tree_each_Routine s k x.1 x.2.1).map rc_tree_each_Routine.enc := by
  simp only [B_tree_each_Routine, map_ite, map_bindO, map_someO, map_noneO, ← Ltree_each_Routine_3_eq]
  kernel_rfl
-- 11 nodes
def B_tree_mapper_routine (s : Fam) (k : Nat) (x0 : Thing × Unit) (x1 : TRoutine) : Option (TRoutine × Thing × Unit) := ((s.f_tree_mapper_marks ((x0.fst, ()), x1.sub_Marks, ())).bind fun t1 => ((s.f_tree_mapper_parts ((t1.snd.fst, ()), x1.Name, ())).bind fun t2 => ((s.f_tree_each_Param (x1.Params, ((), (t2.snd.fst, ()), ()), ())).bind fun t3 => ((s.f_tree_each_Var (x1.Vars, (t3.snd.fst, ()), ())).bind fun t4 => ((s.f_tree_each_Routine (x1.Inner, (t4.snd.fst, ()), ())).bind fun t5 => ((s.f_tree_each_Stmt (x1.Body, (t5.snd.fst, ()), ())).bind fun t6 => ((s.f_slices_Clone_string (x1.End, ())).bind fun t7 => some (({ Marks_Before := t1.fst.Before, Marks_Trail := t1.fst.Trail, Name := t2.fst, Result := x1.Result, Params := t3.fst, Vars := t4.fst, Inner := t5.fst, Body := t6.fst, End := t7 : TRoutine }, t6.snd.fst, ())))))))))
theorem e_tree_mapper_routine (s : Fam) (k : Nat) (x : a_tree_mapper_routine) : (evFunC EE (sp s) h_tree_mapper_routine co_tree_mapper_routine k Tryd.f45 (c_tree_mapper_routine.enc x)).run = (B_tree_mapper_routine s k x.1 x.2.1).map rc_tree_mapper_routine.enc := by
  simp only [B_tree_mapper_routine, map_ite, map_bindO, map_someO, map_noneO]
  kernel_rfl
-- 8 nodes
def Ltree_each_Stmt_3 (s : Fam) (k : Nat) (x0 : List TStmt) (x1 : Thing × Unit) : Nat → List TStmt → Int → Int → List TStmt → Thing → Option (List TStmt × Thing × Unit)
  | 0, _, _, _, _, _ => none
  | j3 + 1, v0, v1, v2, v3, v4 => (if decide (v2 < v1) = Bool.true then (if 0 ≤ v2 then (if v2 < (↑v0.length : Int) then ((s.f_tree_mapper_stmt ((v4, ()), (v0.getD v2.toNat dd_TStmt).re, ())).bind fun t5 => (if (v3 ++ [t5.fst.re]).length * 272 ≤ 140737488355328 then Ltree_each_Stmt_3 s k x0 x1 j3 (v0) (v1) (Go.IntKind.i64.wrap (v2 + 1)) (v3 ++ [t5.fst.re]) (t5.snd.fst) else none)) else none) else none) else some ((v3, v4, ())))
def B_tree_each_Stmt (s : Fam) (k : Nat) (x0 : List TStmt) (x1 : Thing × Unit) : Option (List TStmt × Thing × Unit) := Ltree_each_Stmt_3 s k x0 x1 k (x0) ((↑x0.length : Int)) (0) ([]) (x1.fst)
theorem Ltree_each_Stmt_3_eq (s : Fam) (k : Nat) (x0 : List TStmt) (x1 : Thing × Unit) : ∀ (j3 : Nat) (v0 : List TStmt) (v1 : Int) (v2 : Int) (v3 : List TStmt) (v4 : Thing), (loopGo EE (sp s) h_tree_each_Stmt co_tree_each_Stmt (rootAs (unAs 1000004 (c_tree_each_Stmt.enc (x0, x1, ()))).1) k Tryd.f46 3 [] j3 ({ tmps := ofL AV.any [(1, AV.c (CV.mth 47 [CV.fx 1000004])), (5, AV.c (CV.own 5 0)), (8, AV.c (CV.d (DV.sl 73 v0))), (9, AV.c (CV.d (DV.lit (Go.Value.int Go.IntKind.i64 v1)))), (10, AV.c (CV.d (DV.lit (Go.Value.int Go.IntKind.i64 v2))))], boxes := ofL Option.none [(1000004, Option.none)], objs := ofL Option.none [(5, Option.some { ver := 0, t := 73, xs := v3 : Obj II }), (8, Option.none)], fxs := ofL Option.none [(1000004, Option.some v4)] : AS II })).run = (Ltree_each_Stmt_3 s k x0 x1 j3 v0 v1 v2 v3 v4).map rc_tree_each_Stmt.enc := by
  intro j3
  induction j3 with
  | zero => intros; rfl
  | succ j3 ih =>
    intros
    simp only [Ltree_each_Stmt_3, map_ite, map_bindO, map_someO, map_noneO, ← ih]
    kernel_rfl
theorem e_tree_each_Stmt (s : Fam) (k : Nat) (x : a_tree_each_Stmt) : (evFunC EE (sp s) h_tree_each_Stmt co_tree_each_Stmt k Tryd.f46 (c_tree_each_Stmt.enc x)).run = (B_tree_each_Stmt s k x.1 x.2.1).map rc_tree_each_Stmt.enc := by
  simp only [B_tree_each_Stmt, map_ite, map_bindO, map_someO, map_noneO, ← Ltree_each_Stmt_3_eq]
  kernel_rfl
-- 11 nodes
def B_tree_mapper_stmt (s : Fam) (k : Nat) (x0 : Thing × Unit) (x1 : TStmt) : Option (TStmt × Thing × Unit) := ((s.f_tree_mapper_marks ((x0.fst, ()), x1.sub_Marks, ())).bind fun t1 => ((s.f_tree_mapper_parts ((t1.snd.fst, ()), x1.Name, ())).bind fun t2 => ((s.f_tree_mapper_expr ((t2.snd.fst, ()), x1.sub_P, ())).bind fun t3 => ((s.f_tree_each_Expr (x1.E, (t3.snd.fst, ()), ())).bind fun t4 => ((s.f_tree_each_Stmt (x1.Body, (t4.snd.fst, ()), ())).bind fun t5 => ((s.f_tree_each_Stmt (x1.Else, (t5.snd.fst, ()), ())).bind fun t6 => ((s.f_slices_Clone_string (x1.End, ())).bind fun t7 => ((s.f_slices_Clone_string (x1.End2, ())).bind fun t8 => some (({ Marks_Before := t1.fst.Before, Marks_Trail := t1.fst.Trail, Op := x1.Op, Name := t2.fst, P_Op := t3.fst.Op, P_N := t3.fst.N, P_Name := t3.fst.Name, P_Field := t3.fst.Field, P_L := t3.fst.L, E := t4.fst, Down := x1.Down, More := x1.More, Body := t5.fst, Else := t6.fst, End := t7, End2 := t8 : TStmt }, t6.snd.fst, ()))))))))))
theorem e_tree_mapper_stmt (s : Fam) (k : Nat) (x : a_tree_mapper_stmt) : (evFunC EE (sp s) h_tree_mapper_stmt co_tree_mapper_stmt k Tryd.f47 (c_tree_mapper_stmt.enc x)).run = (B_tree_mapper_stmt s k x.1 x.2.1).map rc_tree_mapper_stmt.enc := by
  simp only [B_tree_mapper_stmt, map_ite, map_bindO, map_someO, map_noneO]
  kernel_rfl
-- 9 nodes
def Lslices_Index_string_2 (s : Fam) (k : Nat) (x0 : List ByteArray) (x1 : ByteArray) : Nat → List ByteArray → ByteArray → Int → Int → Option (Int)
  | 0, _, _, _, _ => none
  | j2 + 1, v0, v1, v2, v3 => (if decide (v3 < v2) = Bool.true then (if 0 ≤ v3 then (if v3 < (↑v0.length : Int) then (if (v1.toList == (v0.getD v3.toNat { data := #[] : ByteArray }).toList) = Bool.true then some (v3) else Lslices_Index_string_2 s k x0 x1 j2 (v0) (v1) (v2) (Go.IntKind.i64.wrap (v3 + 1))) else none) else none) else some (-1))
def B_slices_Index_string (s : Fam) (k : Nat) (x0 : List ByteArray) (x1 : ByteArray) : Option (Int) := Lslices_Index_string_2 s k x0 x1 k (x0) (x1) ((↑x0.length : Int)) (0)
theorem Lslices_Index_string_2_eq (s : Fam) (k : Nat) (x0 : List ByteArray) (x1 : ByteArray) : ∀ (j2 : Nat) (v0 : List ByteArray) (v1 : ByteArray) (v2 : Int) (v3 : Int), (loopGo EE (sp s) h_slices_Index_string co_slices_Index_string [] k Tryd.f50 2 [] j2 ({ tmps := ofL AV.any [(0, AV.c (CV.d (DV.sl 9 v0))), (1, AV.c (CV.d (DV.lit (Go.Value.string v1)))), (7, AV.c (CV.d (DV.lit (Go.Value.int Go.IntKind.i64 v2)))), (8, AV.c (CV.d (DV.lit (Go.Value.int Go.IntKind.i64 v3))))], boxes := ofL Option.none [], objs := ofL Option.none [], fxs := ofL Option.none [] : AS II })).run = (Lslices_Index_string_2 s k x0 x1 j2 v0 v1 v2 v3).map rc_slices_Index_string.enc := by
  intro j2
  induction j2 with
  | zero => intros; rfl
  | succ j2 ih =>
    intros
    simp only [Lslices_Index_string_2, map_ite, map_bindO, map_someO, map_noneO, ← ih]
    kernel_rfl
theorem e_slices_Index_string (s : Fam) (k : Nat) (x : a_slices_Index_string) : (evFunC EE (sp s) h_slices_Index_string co_slices_Index_string k Tryd.f50 (c_slices_Index_string.enc x)).run = (B_slices_Index_string s k x.1 x.2.1).map rc_slices_Index_string.enc := by
  simp only [B_slices_Index_string, map_ite, map_bindO, map_someO, map_noneO, ← Lslices_Index_string_2_eq]
  kernel_rfl
-- 10 nodes
def B_tree_mapper_marks (s : Fam) (k : Nat) (x0 : Thing × Unit) (x1 : TMarks) : Option (TMarks × Thing × Unit) := ((s.f_slices_Clone_string (x1.Before, ())).bind fun t1 => ((s.f_slices_Clone_string (x1.Trail, ())).bind fun t2 => some (({ Before := t1, Trail := t2 : TMarks }, x0.fst, ()))))
theorem e_tree_mapper_marks (s : Fam) (k : Nat) (x : a_tree_mapper_marks) : (evFunC EE (sp s) h_tree_mapper_marks co_tree_mapper_marks k Tryd.f54 (c_tree_mapper_marks.enc x)).run = (B_tree_mapper_marks s k x.1 x.2.1).map rc_tree_mapper_marks.enc := by
  simp only [B_tree_mapper_marks, map_ite, map_bindO, map_someO, map_noneO]
  kernel_rfl
-- 3 nodes
def Ltree_each_Field_3 (s : Fam) (k : Nat) (x0 : List TField) (x1 : Unit × (Thing × Unit) × Unit) : Nat → List TField → Int → Int → List TField → Thing → Option (List TField × Thing × Unit)
  | 0, _, _, _, _, _ => none
  | j3 + 1, v0, v1, v2, v3, v4 => (if decide (v2 < v1) = Bool.true then (if 0 ≤ v2 then (if v2 < (↑v0.length : Int) then ((s.f_tree_mapper_rec_1 (v0.getD v2.toNat dd_TField, (v4, ()), ())).bind fun t5 => (if (v3 ++ [t5.fst]).length * 72 ≤ 140737488355328 then Ltree_each_Field_3 s k x0 x1 j3 (v0) (v1) (Go.IntKind.i64.wrap (v2 + 1)) (v3 ++ [t5.fst]) (t5.snd.fst) else none)) else none) else none) else some ((v3, v4, ())))
def B_tree_each_Field (s : Fam) (k : Nat) (x0 : List TField) (x1 : Unit × (Thing × Unit) × Unit) : Option (List TField × Thing × Unit) := Ltree_each_Field_3 s k x0 x1 k (x0) ((↑x0.length : Int)) (0) ([]) (x1.snd.fst.fst)
theorem Ltree_each_Field_3_eq (s : Fam) (k : Nat) (x0 : List TField) (x1 : Unit × (Thing × Unit) × Unit) : ∀ (j3 : Nat) (v0 : List TField) (v1 : Int) (v2 : Int) (v3 : List TField) (v4 : Thing), (loopGo EE (sp s) h_tree_each_Field co_tree_each_Field (rootAs (unAs 1000004 (c_tree_each_Field.enc (x0, x1, ()))).1) k Tryd.f55 3 [] j3 ({ tmps := ofL AV.any [(1, AV.c (CV.clo 56 [] [CV.rq [CV.fx 1000004] 0])), (5, AV.c (CV.own 5 0)), (8, AV.c (CV.d (DV.sl 46 v0))), (9, AV.c (CV.d (DV.lit (Go.Value.int Go.IntKind.i64 v1)))), (10, AV.c (CV.d (DV.lit (Go.Value.int Go.IntKind.i64 v2))))], boxes := ofL Option.none [(1000004, Option.none)], objs := ofL Option.none [(5, Option.some { ver := 0, t := 46, xs := v3 : Obj II }), (8, Option.none)], fxs := ofL Option.none [(1000004, Option.some v4)] : AS II })).run = (Ltree_each_Field_3 s k x0 x1 j3 v0 v1 v2 v3 v4).map rc_tree_each_Field.enc := by
  intro j3
  induction j3 with
  | zero => intros; rfl
  | succ j3 ih =>
    intros
    simp only [Ltree_each_Field_3, map_ite, map_bindO, map_someO, map_noneO, ← ih]
    kernel_rfl
theorem e_tree_each_Field (s : Fam) (k : Nat) (x : a_tree_each_Field) : (evFunC EE (sp s) h_tree_each_Field co_tree_each_Field k Tryd.f55 (c_tree_each_Field.enc x)).run = (B_tree_each_Field s k x.1 x.2.1).map rc_tree_each_Field.enc := by
  simp only [B_tree_each_Field, map_ite, map_bindO, map_someO, map_noneO, ← Ltree_each_Field_3_eq]
  kernel_rfl
-- 11 nodes
def B_tree_mapper_rec_1 (s : Fam) (k : Nat) (x0 : TField) (x1 : Thing × Unit) : Option (TField × Thing × Unit) := ((s.f_tree_mapper_marks ((x1.fst, ()), x0.sub_Marks, ())).bind fun t1 => ((s.f_tree_mapper_parts ((t1.snd.fst, ()), x0.Name, ())).bind fun t2 => some (({ Marks_Before := t1.fst.Before, Marks_Trail := t1.fst.Trail, Name := t2.fst, Kind := x0.Kind : TField }, t2.snd.fst, ()))))
theorem e_tree_mapper_rec_1 (s : Fam) (k : Nat) (x : a_tree_mapper_rec_1) : (evFunC EE (sp s) h_tree_mapper_rec_1 co_tree_mapper_rec_1 k Tryd.f56 (c_tree_mapper_rec_1.enc x)).run = (B_tree_mapper_rec_1 s k x.1 x.2.1).map rc_tree_mapper_rec_1.enc := by
  simp only [B_tree_mapper_rec_1, map_ite, map_bindO, map_someO, map_noneO]
  kernel_rfl
-- 3 nodes
def B_tree_mapper_typ (s : Fam) (k : Nat) (x0 : Thing × Unit) (x1 : TType) : Option (TType × Thing × Unit) := ((s.f_tree_mapper_parts ((x0.fst, ()), x1.Name, ())).bind fun t1 => some (({ Kind := x1.Kind, Size := x1.Size, Name := t1.fst : TType }, t1.snd.fst, ())))
theorem e_tree_mapper_typ (s : Fam) (k : Nat) (x : a_tree_mapper_typ) : (evFunC EE (sp s) h_tree_mapper_typ co_tree_mapper_typ k Tryd.f57 (c_tree_mapper_typ.enc x)).run = (B_tree_mapper_typ s k x.1 x.2.1).map rc_tree_mapper_typ.enc := by
  simp only [B_tree_mapper_typ, map_ite, map_bindO, map_someO, map_noneO]
  kernel_rfl
-- 2 nodes
def Ltree_each_Param_3 (s : Fam) (k : Nat) (x0 : List TParam) (x1 : Unit × (Thing × Unit) × Unit) : Nat → List TParam → Int → Int → List TParam → Thing → Option (List TParam × Thing × Unit)
  | 0, _, _, _, _, _ => none
  | j3 + 1, v0, v1, v2, v3, v4 => (if decide (v2 < v1) = Bool.true then (if 0 ≤ v2 then (if v2 < (↑v0.length : Int) then ((s.f_tree_mapper_routine_1 (v0.getD v2.toNat dd_TParam, (v4, ()), ())).bind fun t5 => (if (v3 ++ [t5.fst]).length * 56 ≤ 140737488355328 then Ltree_each_Param_3 s k x0 x1 j3 (v0) (v1) (Go.IntKind.i64.wrap (v2 + 1)) (v3 ++ [t5.fst]) (t5.snd.fst) else none)) else none) else none) else some ((v3, v4, ())))
def B_tree_each_Param (s : Fam) (k : Nat) (x0 : List TParam) (x1 : Unit × (Thing × Unit) × Unit) : Option (List TParam × Thing × Unit) := Ltree_each_Param_3 s k x0 x1 k (x0) ((↑x0.length : Int)) (0) ([]) (x1.snd.fst.fst)
theorem Ltree_each_Param_3_eq (s : Fam) (k : Nat) (x0 : List TParam) (x1 : Unit × (Thing × Unit) × Unit) : ∀ (j3 : Nat) (v0 : List TParam) (v1 : Int) (v2 : Int) (v3 : List TParam) (v4 : Thing), (loopGo EE (sp s) h_tree_each_Param co_tree_each_Param (rootAs (unAs 1000004 (c_tree_each_Param.enc (x0, x1, ()))).1) k Tryd.f58 3 [] j3 ({ tmps := ofL AV.any [(1, AV.c (CV.clo 59 [] [CV.rq [CV.fx 1000004] 0])), (5, AV.c (CV.own 5 0)), (8, AV.c (CV.d (DV.sl 68 v0))), (9, AV.c (CV.d (DV.lit (Go.Value.int Go.IntKind.i64 v1)))), (10, AV.c (CV.d (DV.lit (Go.Value.int Go.IntKind.i64 v2))))], boxes := ofL Option.none [(1000004, Option.none)], objs := ofL Option.none [(5, Option.some { ver := 0, t := 68, xs := v3 : Obj II }), (8, Option.none)], fxs := ofL Option.none [(1000004, Option.some v4)] : AS II })).run = (Ltree_each_Param_3 s k x0 x1 j3 v0 v1 v2 v3 v4).map rc_tree_each_Param.enc := by
  intro j3
  induction j3 with
  | zero => intros; rfl
  | succ j3 ih =>
    intros
    simp only [Ltree_each_Param_3, map_ite, map_bindO, map_someO, map_noneO, ← ih]
    kernel_rfl
theorem e_tree_each_Param (s : Fam) (k : Nat) (x : a_tree_each_Param) : (evFunC EE (sp s) h_tree_each_Param co_tree_each_Param k Tryd.f58 (c_tree_each_Param.enc x)).run = (B_tree_each_Param s k x.1 x.2.1).map rc_tree_each_Param.enc := by
  simp only [B_tree_each_Param, map_ite, map_bindO, map_someO, map_noneO, ← Ltree_each_Param_3_eq]
  kernel_rfl
-- 11 nodes
def B_tree_mapper_routine_1 (s : Fam) (k : Nat) (x0 : TParam) (x1 : Thing × Unit) : Option (TParam × Thing × Unit) := ((s.f_tree_mapper_parts ((x1.fst, ()), x0.Name, ())).bind fun t1 => ((s.f_tree_mapper_typ ((t1.snd.fst, ()), x0.sub_T, ())).bind fun t2 => some (({ Name := t1.fst, T_Kind := t2.fst.Kind, T_Size := t2.fst.Size, T_Name := t2.fst.Name, Mode := x0.Mode : TParam }, t2.snd.fst, ()))))
theorem e_tree_mapper_routine_1 (s : Fam) (k : Nat) (x : a_tree_mapper_routine_1) : (evFunC EE (sp s) h_tree_mapper_routine_1 co_tree_mapper_routine_1 k Tryd.f59 (c_tree_mapper_routine_1.enc x)).run = (B_tree_mapper_routine_1 s k x.1 x.2.1).map rc_tree_mapper_routine_1.enc := by
  simp only [B_tree_mapper_routine_1, map_ite, map_bindO, map_someO, map_noneO]
  kernel_rfl
-- 3 nodes
def B_tree_mapper_expr (s : Fam) (k : Nat) (x0 : Thing × Unit) (x1 : TExpr) : Option (TExpr × Thing × Unit) := ((s.f_tree_mapper_parts ((x0.fst, ()), x1.Name, ())).bind fun t1 => ((s.f_tree_mapper_parts ((t1.snd.fst, ()), x1.Field, ())).bind fun t2 => ((s.f_tree_each_Expr (x1.L, (t2.snd.fst, ()), ())).bind fun t3 => some (({ Op := x1.Op, N := x1.N, Name := t1.fst, Field := t2.fst, L := t3.fst : TExpr }, t3.snd.fst, ())))))
theorem e_tree_mapper_expr (s : Fam) (k : Nat) (x : a_tree_mapper_expr) : (evFunC EE (sp s) h_tree_mapper_expr co_tree_mapper_expr k Tryd.f60 (c_tree_mapper_expr.enc x)).run = (B_tree_mapper_expr s k x.1 x.2.1).map rc_tree_mapper_expr.enc := by
  simp only [B_tree_mapper_expr, map_ite, map_bindO, map_someO, map_noneO]
  kernel_rfl
-- 4 nodes
end Go.Ev
end
section
open Go Go.Proofs
namespace Go.Ev
set_option linter.unusedVariables false
set_option linter.unusedSimpArgs false
set_option maxHeartbeats 4000000
set_option maxRecDepth 100000
def Ltree_each_Expr_3 (s : Fam) (k : Nat) (x0 : List TExpr) (x1 : Thing × Unit) : Nat → List TExpr → Int → Int → List TExpr → Thing → Option (List TExpr × Thing × Unit)
  | 0, _, _, _, _, _ => none
  | j3 + 1, v0, v1, v2, v3, v4 => (if decide (v2 < v1) = Bool.true then (if 0 ≤ v2 then (if v2 < (↑v0.length : Int) then ((s.f_tree_mapper_expr ((v4, ()), (v0.getD v2.toNat dd_TExpr).re, ())).bind fun t5 => (if (v3 ++ [t5.fst.re]).length * 72 ≤ 140737488355328 then Ltree_each_Expr_3 s k x0 x1 j3 (v0) (v1) (Go.IntKind.i64.wrap (v2 + 1)) (v3 ++ [t5.fst.re]) (t5.snd.fst) else none)) else none) else none) else some ((v3, v4, ())))
def B_tree_each_Expr (s : Fam) (k : Nat) (x0 : List TExpr) (x1 : Thing × Unit) : Option (List TExpr × Thing × Unit) := Ltree_each_Expr_3 s k x0 x1 k (x0) ((↑x0.length : Int)) (0) ([]) (x1.fst)
theorem Ltree_each_Expr_3_eq (s : Fam) (k : Nat) (x0 : List TExpr) (x1 : Thing × Unit) : ∀ (j3 : Nat) (v0 : List TExpr) (v1 : Int) (v2 : Int) (v3 : List TExpr) (v4 : Thing), (loopGo EE (sp s) h_tree_each_Expr co_tree_each_Expr (rootAs (unAs 1000004 (c_tree_each_Expr.enc (x0, x1, ()))).1) k Tryd.f61 3 [] j3 ({ tmps := ofL AV.any [(1, AV.c (CV.mth 60 [CV.fx 1000004])), (5, AV.c (CV.own 5 0)), (8, AV.c (CV.d (DV.sl 71 v0))), (9, AV.c (CV.d (DV.lit (Go.Value.int Go.IntKind.i64 v1)))), (10, AV.c (CV.d (DV.lit (Go.Value.int Go.IntKind.i64 v2))))], boxes := ofL Option.none [(1000004, Option.none)], objs := ofL Option.none [(5, Option.some { ver := 0, t := 71, xs := v3 : Obj II }), (8, Option.none)], fxs := ofL Option.none [(1000004, Option.some v4)] : AS II })).run = (Ltree_each_Expr_3 s k x0 x1 j3 v0 v1 v2 v3 v4).map rc_tree_each_Expr.enc := by
  intro j3
  induction j3 with
  | zero => intros; rfl
  | succ j3 ih =>
    intros
    simp only [Ltree_each_Expr_3, map_ite, map_bindO, map_someO, map_noneO, ← ih]
    kernel_rfl
theorem e_tree_each_Expr (s : Fam) (k : Nat) (x : a_tree_each_Expr) : (evFunC EE (sp s) h_tree_each_Expr co_tree_each_Expr k Tryd.f61 (c_tree_each_Expr.enc x)).run = (B_tree_each_Expr s k x.1 x.2.1).map rc_tree_each_Expr.enc := by
  simp only [B_tree_each_Expr, map_ite, map_bindO, map_someO, map_noneO, ← Ltree_each_Expr_3_eq]
  kernel_rfl
-- 11 nodes
end Go.Ev
end
section
open Go
namespace Go.Ev
def sep36 : ByteArray := ⟨#[36]⟩
def cutD (s : ByteArray) : List ByteArray := Lib.splitB sep36 0 (Lib.countB s sep36) s
def joinD (l : List ByteArray) : ByteArray := ⟨(Lib.join (l.map (·.data.toList)) sep36.data.toList).toArray⟩
def stepT (x : a_by) : Option b_by := match x.1 with
  | .ren l => some ((match l.find? fun p => p.Old.toList == x.2.1.toList with | some p => p.New | none => x.2.1), .ren l, ())
  | .names l => if x.2.1.size ≤ maxLen then (if (l.any fun z => z.toList == x.2.1.toList) = true then some (x.2.1, .names l, ()) else if (l.length + 1) * 16 ≤ 140737488355328 then some (x.2.1, .names (l ++ [x.2.1]), ()) else none) else none
def partsT (s : Fam) (th : Thing) : List ByteArray → Option (List ByteArray × Thing)
  | [] => some ([], th)
  | p :: r => if p.size = 0 then (partsT s th r).map fun q => (p :: q.1, q.2) else (s.f_by (th, p, ())).bind fun t => (partsT s t.2.1 r).map fun q => (t.1 :: q.1, q.2)
def B_tree_mapper_parts (s : Fam) (_ : Nat) (m : Thing × Unit) (x : ByteArray) : Option b_tree_mapper_parts :=
  if x.size = 0 then some (ByteArray.empty, m.1, ()) else if 4294967280 < x.size then none else if 1000000000000 < (cutD x).length then none else
    (partsT s m.1 (cutD x)).bind fun q => if (Lib.join (q.1.map (·.data.toList)) sep36.data.toList).length ≤ 140737488355328 then some (joinD q.1, q.2, ()) else none
def B_tree_Names (s : Fam) (_ : Nat) (p : TProgram) : Option (List ByteArray) :=
  (s.f_tree_mapper_program ((.names [], ()), p, ())).bind fun r => match r.2.1 with
    | .names l => some l
    | _ => none
def B_tree_Rename (s : Fam) (_ : Nat) (p : TProgram) (l : List TPair) : Option TProgram := (s.f_tree_mapper_program ((.ren l, ()), p, ())).map (·.1)
def cutL : List UInt8 → List (List UInt8)
  | [] => [[]]
  | c :: r => if c = 36 then [] :: cutL r else match cutL r with
    | [] => [[c]]
    | p :: q => (c :: p) :: q
def cutP (s : ByteArray) : List ByteArray := (cutL s.data.toList).map fun l => ⟨l.toArray⟩
end Go.Ev
end
section
open Go Go.Proofs
namespace Go.Ev
set_option linter.unusedVariables false
set_option maxHeartbeats 4000000
set_option maxRecDepth 100000
def mkFam (h : Fam) (s : Fam) (k : Nat) : Fam where
  f_w16_RenameApart x := B_w16_RenameApart s k x.1 x.2.1
  f_w16_RenameTwice x := B_w16_RenameTwice s k x.1 x.2.1
  f_w16_RenameNone x := B_w16_RenameNone s k x.1 x.2.1
  f_r07_Names x := B_r07_Names s k x.1
  f_w16_awake x := B_w16_awake s k
  f_rename_Apply x := B_rename_Apply s k x.1 x.2.1
  f_r04_Is x := B_r04_Is s k x.1 x.2.1
  f_r07_Same x := B_r07_Same s k x.1 x.2.1
  f_r07_Parts x := B_r07_Parts s k x.1
  f_r07_varNames x := B_r07_varNames s k x.1
  f_r07_routineNames x := B_r07_routineNames s k x.1
  f_r07_stmtNames x := B_r07_stmtNames s k x.1
  f_r04_Among x := B_r04_Among s k x.1 x.2.1
  f_r16_SamePairs x := B_r16_SamePairs s k x.1 x.2.1
  f_rename_Table x := B_rename_Table s k x.1 x.2.1
  f_tree_Rename x := B_tree_Rename s k x.1 x.2.1
  f_r04_All x := B_r04_All s k x.1
  f_r01_SameTexts x := B_r01_SameTexts s k x.1 x.2.1
  f_r07_sameMarks x := B_r07_sameMarks s k x.1 x.2.1
  f_r07_sameVars x := B_r07_sameVars s k x.1 x.2.1
  f_r07_SameRoutines x := B_r07_SameRoutines s k x.1 x.2.1
  f_r07_SameStmts x := B_r07_SameStmts s k x.1 x.2.1
  f_r07_ExprNames x := B_r07_ExprNames s k x.1
  f_tree_Names x := B_tree_Names s k x.1
  f_slices_Clone_string := h.f_slices_Clone_string
  f_words_Clash := h.f_words_Clash
  f_words_Fresh x := B_words_Fresh s k x.1 x.2.1
  f_tree_Rename_1 x := B_tree_Rename_1 s k x.1 x.2.1
  f_tree_mapper_program x := B_tree_mapper_program s k x.1 x.2.1
  f_r07_SameExpr x := B_r07_SameExpr s k x.1 x.2.1
  f_r07_SameExprs x := B_r07_SameExprs s k x.1 x.2.1
  f_words_Is := h.f_words_Is
  f_slices_Contains_string x := B_slices_Contains_string s k x.1 x.2.1
  f_strconv_Itoa := h.f_strconv_Itoa
  f_tree_mapper_parts x := B_tree_mapper_parts s k x.1 x.2.1
  f_tree_each_Rec x := B_tree_each_Rec s k x.1 x.2.1
  f_tree_mapper_rec x := B_tree_mapper_rec s k x.1 x.2.1
  f_tree_each_Var x := B_tree_each_Var s k x.1 x.2.1
  f_tree_mapper_variable x := B_tree_mapper_variable s k x.1 x.2.1
  f_tree_each_Routine x := B_tree_each_Routine s k x.1 x.2.1
  f_tree_mapper_routine x := B_tree_mapper_routine s k x.1 x.2.1
  f_tree_each_Stmt x := B_tree_each_Stmt s k x.1 x.2.1
  f_tree_mapper_stmt x := B_tree_mapper_stmt s k x.1 x.2.1
  f_slices_Index_string x := B_slices_Index_string s k x.1 x.2.1
  f_tree_mapper_marks x := B_tree_mapper_marks s k x.1 x.2.1
  f_tree_each_Field x := B_tree_each_Field s k x.1 x.2.1
  f_tree_mapper_rec_1 x := B_tree_mapper_rec_1 s k x.1 x.2.1
  f_tree_mapper_typ x := B_tree_mapper_typ s k x.1 x.2.1
  f_tree_each_Param x := B_tree_each_Param s k x.1 x.2.1
  f_tree_mapper_routine_1 x := B_tree_mapper_routine_1 s k x.1 x.2.1
  f_tree_mapper_expr x := B_tree_mapper_expr s k x.1 x.2.1
  f_tree_each_Expr x := B_tree_each_Expr s k x.1 x.2.1
  f_by := h.f_by
def noFam (h : Fam) : Fam where
  f_w16_RenameApart _ := none
  f_w16_RenameTwice _ := none
  f_w16_RenameNone _ := none
  f_r07_Names _ := none
  f_w16_awake _ := none
  f_rename_Apply _ := none
  f_r04_Is _ := none
  f_r07_Same _ := none
  f_r07_Parts _ := none
  f_r07_varNames _ := none
  f_r07_routineNames _ := none
  f_r07_stmtNames _ := none
  f_r04_Among _ := none
  f_r16_SamePairs _ := none
  f_rename_Table _ := none
  f_tree_Rename _ := none
  f_r04_All _ := none
  f_r01_SameTexts _ := none
  f_r07_sameMarks _ := none
  f_r07_sameVars _ := none
  f_r07_SameRoutines _ := none
  f_r07_SameStmts _ := none
  f_r07_ExprNames _ := none
  f_tree_Names _ := none
  f_slices_Clone_string := h.f_slices_Clone_string
  f_words_Clash := h.f_words_Clash
  f_words_Fresh _ := none
  f_tree_Rename_1 _ := none
  f_tree_mapper_program _ := none
  f_r07_SameExpr _ := none
  f_r07_SameExprs _ := none
  f_words_Is := h.f_words_Is
  f_slices_Contains_string _ := none
  f_strconv_Itoa := h.f_strconv_Itoa
  f_tree_mapper_parts _ := none
  f_tree_each_Rec _ := none
  f_tree_mapper_rec _ := none
  f_tree_each_Var _ := none
  f_tree_mapper_variable _ := none
  f_tree_each_Routine _ := none
  f_tree_mapper_routine _ := none
  f_tree_each_Stmt _ := none
  f_tree_mapper_stmt _ := none
  f_slices_Index_string _ := none
  f_tree_mapper_marks _ := none
  f_tree_each_Field _ := none
  f_tree_mapper_rec_1 _ := none
  f_tree_mapper_typ _ := none
  f_tree_each_Param _ := none
  f_tree_mapper_routine_1 _ := none
  f_tree_mapper_expr _ := none
  f_tree_each_Expr _ := none
  f_by := h.f_by
def FF (h : Fam) : Nat → Fam
  | 0 => noFam h
  | k + 1 => mkFam h (FF h k) k
structure HandOK (h : Fam) : Prop where
  o_tree_Rename : ∀ (s : Fam) (k : Nat), (∀ f, SpecOK Tryd.prog EE (sp s) f) → SpecA Tryd.prog EE 18 (ansOf c_tree_Rename rc_tree_Rename.enc fun x => B_tree_Rename s k x.1 x.2.1)
  o_tree_Names : ∀ (s : Fam) (k : Nat), (∀ f, SpecOK Tryd.prog EE (sp s) f) → SpecA Tryd.prog EE 26 (ansOf c_tree_Names rc_tree_Names.enc fun x => B_tree_Names s k x.1)
  o_slices_Clone_string : SpecA Tryd.prog EE 27 (ansOf c_slices_Clone_string rc_slices_Clone_string.enc h.f_slices_Clone_string)
  o_words_Clash : SpecA Tryd.prog EE 28 (ansOf c_words_Clash rc_words_Clash.enc h.f_words_Clash)
  o_words_Is : SpecA Tryd.prog EE 36 (ansOf c_words_Is rc_words_Is.enc h.f_words_Is)
  o_strconv_Itoa : SpecA Tryd.prog EE 38 (ansOf c_strconv_Itoa rc_strconv_Itoa.enc h.f_strconv_Itoa)
  o_tree_mapper_parts : ∀ (s : Fam) (k : Nat), (∀ f, SpecOK Tryd.prog EE (sp s) f) → SpecA Tryd.prog EE 39 (ansOf c_tree_mapper_parts rc_tree_mapper_parts.enc fun x => B_tree_mapper_parts s k x.1 x.2.1)
  o_by : SpecA Tryd.prog EE 1000003 (ansOf c_by rc_by.enc h.f_by)
theorem hEE : EnvOK Tryd.prog EE := envOK EE rfl rfl rfl
def nilFam : Fam where
  f_w16_RenameApart _ := none
  f_w16_RenameTwice _ := none
  f_w16_RenameNone _ := none
  f_r07_Names _ := none
  f_w16_awake _ := none
  f_rename_Apply _ := none
  f_r04_Is _ := none
  f_r07_Same _ := none
  f_r07_Parts _ := none
  f_r07_varNames _ := none
  f_r07_routineNames _ := none
  f_r07_stmtNames _ := none
  f_r04_Among _ := none
  f_r16_SamePairs _ := none
  f_rename_Table _ := none
  f_tree_Rename _ := none
  f_r04_All _ := none
  f_r01_SameTexts _ := none
  f_r07_sameMarks _ := none
  f_r07_sameVars _ := none
  f_r07_SameRoutines _ := none
  f_r07_SameStmts _ := none
  f_r07_ExprNames _ := none
  f_tree_Names _ := none
  f_slices_Clone_string _ := none
  f_words_Clash _ := none
  f_words_Fresh _ := none
  f_tree_Rename_1 _ := none
  f_tree_mapper_program _ := none
  f_r07_SameExpr _ := none
  f_r07_SameExprs _ := none
  f_words_Is _ := none
  f_slices_Contains_string _ := none
  f_strconv_Itoa _ := none
  f_tree_mapper_parts _ := none
  f_tree_each_Rec _ := none
  f_tree_mapper_rec _ := none
  f_tree_each_Var _ := none
  f_tree_mapper_variable _ := none
  f_tree_each_Routine _ := none
  f_tree_mapper_routine _ := none
  f_tree_each_Stmt _ := none
  f_tree_mapper_stmt _ := none
  f_slices_Index_string _ := none
  f_tree_mapper_marks _ := none
  f_tree_each_Field _ := none
  f_tree_mapper_rec_1 _ := none
  f_tree_mapper_typ _ := none
  f_tree_each_Param _ := none
  f_tree_mapper_routine_1 _ := none
  f_tree_mapper_expr _ := none
  f_tree_each_Expr _ := none
  f_by _ := none
theorem nil_ok : AllA Tryd.prog EE (table nilFam) :=
  .cons (specA_none _ _) <|
  .cons (specA_none _ _) <|
  .cons (specA_none _ _) <|
  .cons (specA_none _ _) <|
  .cons (specA_none _ _) <|
  .cons (specA_none _ _) <|
  .cons (specA_none _ _) <|
  .cons (specA_none _ _) <|
  .cons (specA_none _ _) <|
  .cons (specA_none _ _) <|
  .cons (specA_none _ _) <|
  .cons (specA_none _ _) <|
  .cons (specA_none _ _) <|
  .cons (specA_none _ _) <|
  .cons (specA_none _ _) <|
  .cons (specA_none _ _) <|
  .cons (specA_none _ _) <|
  .cons (specA_none _ _) <|
  .cons (specA_none _ _) <|
  .cons (specA_none _ _) <|
  .cons (specA_none _ _) <|
  .cons (specA_none _ _) <|
  .cons (specA_none _ _) <|
  .cons (specA_none _ _) <|
  .cons (specA_none _ _) <|
  .cons (specA_none _ _) <|
  .cons (specA_none _ _) <|
  .cons (specA_none _ _) <|
  .cons (specA_none _ _) <|
  .cons (specA_none _ _) <|
  .cons (specA_none _ _) <|
  .cons (specA_none _ _) <|
  .cons (specA_none _ _) <|
  .cons (specA_none _ _) <|
  .cons (specA_none _ _) <|
  .cons (specA_none _ _) <|
  .cons (specA_none _ _) <|
  .cons (specA_none _ _) <|
  .cons (specA_none _ _) <|
  .cons (specA_none _ _) <|
  .cons (specA_none _ _) <|
  .cons (specA_none _ _) <|
  .cons (specA_none _ _) <|
  .cons (specA_none _ _) <|
  .cons (specA_none _ _) <|
  .cons (specA_none _ _) <|
  .cons (specA_none _ _) <|
  .cons (specA_none _ _) <|
  .cons (specA_none _ _) <|
  .cons (specA_none _ _) <|
  .cons (specA_none _ _) <|
  .cons (specA_none _ _) <|
  .cons (specA_none _ _) <|
  .nil
theorem specs0 {h : Fam} (hh : HandOK h) : AllA Tryd.prog EE (table (noFam h)) :=
  .cons (specA_none _ _) <|
  .cons (specA_none _ _) <|
  .cons (specA_none _ _) <|
  .cons (specA_none _ _) <|
  .cons (specA_none _ _) <|
  .cons (specA_none _ _) <|
  .cons (specA_none _ _) <|
  .cons (specA_none _ _) <|
  .cons (specA_none _ _) <|
  .cons (specA_none _ _) <|
  .cons (specA_none _ _) <|
  .cons (specA_none _ _) <|
  .cons (specA_none _ _) <|
  .cons (specA_none _ _) <|
  .cons (specA_none _ _) <|
  .cons (specA_none _ _) <|
  .cons (specA_none _ _) <|
  .cons (specA_none _ _) <|
  .cons (specA_none _ _) <|
  .cons (specA_none _ _) <|
  .cons (specA_none _ _) <|
  .cons (specA_none _ _) <|
  .cons (specA_none _ _) <|
  .cons (specA_none _ _) <|
  .cons (hh.o_slices_Clone_string) <|
  .cons (hh.o_words_Clash) <|
  .cons (specA_none _ _) <|
  .cons (specA_none _ _) <|
  .cons (specA_none _ _) <|
  .cons (specA_none _ _) <|
  .cons (specA_none _ _) <|
  .cons (hh.o_words_Is) <|
  .cons (specA_none _ _) <|
  .cons (hh.o_strconv_Itoa) <|
  .cons (specA_none _ _) <|
  .cons (specA_none _ _) <|
  .cons (specA_none _ _) <|
  .cons (specA_none _ _) <|
  .cons (specA_none _ _) <|
  .cons (specA_none _ _) <|
  .cons (specA_none _ _) <|
  .cons (specA_none _ _) <|
  .cons (specA_none _ _) <|
  .cons (specA_none _ _) <|
  .cons (specA_none _ _) <|
  .cons (specA_none _ _) <|
  .cons (specA_none _ _) <|
  .cons (specA_none _ _) <|
  .cons (specA_none _ _) <|
  .cons (specA_none _ _) <|
  .cons (specA_none _ _) <|
  .cons (specA_none _ _) <|
  .cons (hh.o_by) <|
  .nil
theorem specsS {h : Fam} (hh : HandOK h) (k : Nat) (ih : ∀ f, SpecOK Tryd.prog EE (sp (FF h k)) f) : AllA Tryd.prog EE (table (FF h (k + 1))) :=
  .cons (specA_of hEE ih Tryd.func3 (by kernel_rfl) (by decide) c_w16_RenameApart rc_w16_RenameApart.enc _ (fun x => e_w16_RenameApart (FF h k) k x)) <|
  .cons (specA_of hEE ih Tryd.func4 (by kernel_rfl) (by decide) c_w16_RenameTwice rc_w16_RenameTwice.enc _ (fun x => e_w16_RenameTwice (FF h k) k x)) <|
  .cons (specA_of hEE ih Tryd.func5 (by kernel_rfl) (by decide) c_w16_RenameNone rc_w16_RenameNone.enc _ (fun x => e_w16_RenameNone (FF h k) k x)) <|
  .cons (specA_of hEE ih Tryd.func6 (by kernel_rfl) (by decide) c_r07_Names rc_r07_Names.enc _ (fun x => e_r07_Names (FF h k) k x)) <|
  .cons (specA_of hEE ih Tryd.func7 (by kernel_rfl) (by decide) c_w16_awake rc_w16_awake.enc _ (fun x => e_w16_awake (FF h k) k x)) <|
  .cons (specA_of hEE ih Tryd.func8 (by kernel_rfl) (by decide) c_rename_Apply rc_rename_Apply.enc _ (fun x => e_rename_Apply (FF h k) k x)) <|
  .cons (specA_of hEE ih Tryd.func9 (by kernel_rfl) (by decide) c_r04_Is rc_r04_Is.enc _ (fun x => e_r04_Is (FF h k) k x)) <|
  .cons (specA_of hEE ih Tryd.func10 (by kernel_rfl) (by decide) c_r07_Same rc_r07_Same.enc _ (fun x => e_r07_Same (FF h k) k x)) <|
  .cons (specA_of hEE ih Tryd.func11 (by kernel_rfl) (by decide) c_r07_Parts rc_r07_Parts.enc _ (fun x => e_r07_Parts (FF h k) k x)) <|
  .cons (specA_of hEE ih Tryd.func12 (by kernel_rfl) (by decide) c_r07_varNames rc_r07_varNames.enc _ (fun x => e_r07_varNames (FF h k) k x)) <|
  .cons (specA_of hEE ih Tryd.func13 (by kernel_rfl) (by decide) c_r07_routineNames rc_r07_routineNames.enc _ (fun x => e_r07_routineNames (FF h k) k x)) <|
  .cons (specA_of hEE ih Tryd.func14 (by kernel_rfl) (by decide) c_r07_stmtNames rc_r07_stmtNames.enc _ (fun x => e_r07_stmtNames (FF h k) k x)) <|
  .cons (specA_of hEE ih Tryd.func15 (by kernel_rfl) (by decide) c_r04_Among rc_r04_Among.enc _ (fun x => e_r04_Among (FF h k) k x)) <|
  .cons (specA_of hEE ih Tryd.func16 (by kernel_rfl) (by decide) c_r16_SamePairs rc_r16_SamePairs.enc _ (fun x => e_r16_SamePairs (FF h k) k x)) <|
  .cons (specA_of hEE ih Tryd.func17 (by kernel_rfl) (by decide) c_rename_Table rc_rename_Table.enc _ (fun x => e_rename_Table (FF h k) k x)) <|
  .cons (hh.o_tree_Rename _ k ih) <|
  .cons (specA_of hEE ih Tryd.func19 (by kernel_rfl) (by decide) c_r04_All rc_r04_All.enc _ (fun x => e_r04_All (FF h k) k x)) <|
  .cons (specA_of hEE ih Tryd.func20 (by kernel_rfl) (by decide) c_r01_SameTexts rc_r01_SameTexts.enc _ (fun x => e_r01_SameTexts (FF h k) k x)) <|
  .cons (specA_of hEE ih Tryd.func21 (by kernel_rfl) (by decide) c_r07_sameMarks rc_r07_sameMarks.enc _ (fun x => e_r07_sameMarks (FF h k) k x)) <|
  .cons (specA_of hEE ih Tryd.func22 (by kernel_rfl) (by decide) c_r07_sameVars rc_r07_sameVars.enc _ (fun x => e_r07_sameVars (FF h k) k x)) <|
  .cons (specA_of hEE ih Tryd.func23 (by kernel_rfl) (by decide) c_r07_SameRoutines rc_r07_SameRoutines.enc _ (fun x => e_r07_SameRoutines (FF h k) k x)) <|
  .cons (specA_of hEE ih Tryd.func24 (by kernel_rfl) (by decide) c_r07_SameStmts rc_r07_SameStmts.enc _ (fun x => e_r07_SameStmts (FF h k) k x)) <|
  .cons (specA_of hEE ih Tryd.func25 (by kernel_rfl) (by decide) c_r07_ExprNames rc_r07_ExprNames.enc _ (fun x => e_r07_ExprNames (FF h k) k x)) <|
  .cons (hh.o_tree_Names _ k ih) <|
  .cons (hh.o_slices_Clone_string) <|
  .cons (hh.o_words_Clash) <|
  .cons (specA_of hEE ih Tryd.func29 (by kernel_rfl) (by decide) c_words_Fresh rc_words_Fresh.enc _ (fun x => e_words_Fresh (FF h k) k x)) <|
  .cons (specA_of hEE ih Tryd.func30 (by kernel_rfl) (by decide) c_tree_Rename_1 rc_tree_Rename_1.enc _ (fun x => e_tree_Rename_1 (FF h k) k x)) <|
  .cons (specA_of hEE ih Tryd.func31 (by kernel_rfl) (by decide) c_tree_mapper_program rc_tree_mapper_program.enc _ (fun x => e_tree_mapper_program (FF h k) k x)) <|
  .cons (specA_of hEE ih Tryd.func32 (by kernel_rfl) (by decide) c_r07_SameExpr rc_r07_SameExpr.enc _ (fun x => e_r07_SameExpr (FF h k) k x)) <|
  .cons (specA_of hEE ih Tryd.func33 (by kernel_rfl) (by decide) c_r07_SameExprs rc_r07_SameExprs.enc _ (fun x => e_r07_SameExprs (FF h k) k x)) <|
  .cons (hh.o_words_Is) <|
  .cons (specA_of hEE ih Tryd.func37 (by kernel_rfl) (by decide) c_slices_Contains_string rc_slices_Contains_string.enc _ (fun x => e_slices_Contains_string (FF h k) k x)) <|
  .cons (hh.o_strconv_Itoa) <|
  .cons (hh.o_tree_mapper_parts _ k ih) <|
  .cons (specA_of hEE ih Tryd.func40 (by kernel_rfl) (by decide) c_tree_each_Rec rc_tree_each_Rec.enc _ (fun x => e_tree_each_Rec (FF h k) k x)) <|
  .cons (specA_of hEE ih Tryd.func41 (by kernel_rfl) (by decide) c_tree_mapper_rec rc_tree_mapper_rec.enc _ (fun x => e_tree_mapper_rec (FF h k) k x)) <|
  .cons (specA_of hEE ih Tryd.func42 (by kernel_rfl) (by decide) c_tree_each_Var rc_tree_each_Var.enc _ (fun x => e_tree_each_Var (FF h k) k x)) <|
  .cons (specA_of hEE ih Tryd.func43 (by kernel_rfl) (by decide) c_tree_mapper_variable rc_tree_mapper_variable.enc _ (fun x => e_tree_mapper_variable (FF h k) k x)) <|
  .cons (specA_of hEE ih Tryd.func44 (by kernel_rfl) (by decide) c_tree_each_Routine rc_tree_each_Routine.enc _ (fun x => e_tree_each_Routine (FF h k) k x)) <|
  .cons (specA_of hEE ih Tryd.func45 (by kernel_rfl) (by decide) c_tree_mapper_routine rc_tree_mapper_routine.enc _ (fun x => e_tree_mapper_routine (FF h k) k x)) <|
  .cons (specA_of hEE ih Tryd.func46 (by kernel_rfl) (by decide) c_tree_each_Stmt rc_tree_each_Stmt.enc _ (fun x => e_tree_each_Stmt (FF h k) k x)) <|
  .cons (specA_of hEE ih Tryd.func47 (by kernel_rfl) (by decide) c_tree_mapper_stmt rc_tree_mapper_stmt.enc _ (fun x => e_tree_mapper_stmt (FF h k) k x)) <|
  .cons (specA_of hEE ih Tryd.func50 (by kernel_rfl) (by decide) c_slices_Index_string rc_slices_Index_string.enc _ (fun x => e_slices_Index_string (FF h k) k x)) <|
  .cons (specA_of hEE ih Tryd.func54 (by kernel_rfl) (by decide) c_tree_mapper_marks rc_tree_mapper_marks.enc _ (fun x => e_tree_mapper_marks (FF h k) k x)) <|
  .cons (specA_of hEE ih Tryd.func55 (by kernel_rfl) (by decide) c_tree_each_Field rc_tree_each_Field.enc _ (fun x => e_tree_each_Field (FF h k) k x)) <|
  .cons (specA_of hEE ih Tryd.func56 (by kernel_rfl) (by decide) c_tree_mapper_rec_1 rc_tree_mapper_rec_1.enc _ (fun x => e_tree_mapper_rec_1 (FF h k) k x)) <|
  .cons (specA_of hEE ih Tryd.func57 (by kernel_rfl) (by decide) c_tree_mapper_typ rc_tree_mapper_typ.enc _ (fun x => e_tree_mapper_typ (FF h k) k x)) <|
  .cons (specA_of hEE ih Tryd.func58 (by kernel_rfl) (by decide) c_tree_each_Param rc_tree_each_Param.enc _ (fun x => e_tree_each_Param (FF h k) k x)) <|
  .cons (specA_of hEE ih Tryd.func59 (by kernel_rfl) (by decide) c_tree_mapper_routine_1 rc_tree_mapper_routine_1.enc _ (fun x => e_tree_mapper_routine_1 (FF h k) k x)) <|
  .cons (specA_of hEE ih Tryd.func60 (by kernel_rfl) (by decide) c_tree_mapper_expr rc_tree_mapper_expr.enc _ (fun x => e_tree_mapper_expr (FF h k) k x)) <|
  .cons (specA_of hEE ih Tryd.func61 (by kernel_rfl) (by decide) c_tree_each_Expr rc_tree_each_Expr.enc _ (fun x => e_tree_each_Expr (FF h k) k x)) <|
  .cons (hh.o_by) <|
  .nil
theorem specs {h : Fam} (hh : HandOK h) : ∀ k f, SpecOK Tryd.prog EE (sp (FF h k)) f
  | 0 => look_ok (specs0 hh)
  | k + 1 => look_ok (specsS hh k (specs hh k))
end Go.Ev
end
section
open Go
namespace Go.Ev
theorem wrap_ok {n : Int} (h0 : -9223372036854775808 ≤ n) (h1 : n ≤ 9223372036854775807) : IntKind.i64.wrap n = n := by rw [IntKind.wrap_i64]; omega
theorem wrap_succ {i n : Nat} (h : i < n) (hn : n ≤ maxLen) : IntKind.i64.wrap ((i : Int) + 1) = ((i + 1 : Nat) : Int) := by
  simp only [maxLen] at hn
  rw [wrap_ok (by omega) (by omega)]
  rfl
theorem ba_beq (a b : ByteArray) : (a.toList == b.toList) = decide (a = b) := by
  rw [ByteArray.toList_eq, ByteArray.toList_eq]
  by_cases h : a = b
  · subst h; simp
  · have : a.data.toList ≠ b.data.toList := fun he => h (by cases a; cases b; simp at he; simp [he])
    have h2 : (a.data.toList == b.data.toList) = false := by simpa using this
    rw [h2, decide_eq_false h]
theorem up_ind {C : Nat → Nat → Prop} (n : Nat) (h0 : ∀ j, C (j + 1) n) (hs : ∀ j i, i < n → C j (i + 1) → C (j + 1) i) : ∀ j i, i ≤ n → n - i < j → C j i := by
  intro j
  induction j with
  | zero => intro i _ h; omega
  | succ j ih =>
    intro i hi hj
    rcases Nat.lt_or_ge i n with h | h
    · exact hs j i h (ih (i + 1) (by omega) (by omega))
    · have : i = n := by omega
      subst this
      exact h0 j
end Go.Ev
end
section
namespace Go.Ev
open Go.RowKit
variable {I : Nat → Type}
inductive KD where
  | bool | str | int (k : IntKind) | sl (e : Nat) | no
  deriving DecidableEq
def kd : DV I → KD
  | .lit (.bool _) => .bool
  | .lit (.string _) => .str
  | .lit (.int k _) => .int k
  | .sl e _ => .sl e
  | _ => .no
theorem kd_bool {d : DV I} (h : kd d = .bool) : ∃ b, d = .lit (.bool b) := by
  unfold kd at h
  split at h <;> first | exact ⟨_, rfl⟩ | cases h
theorem kd_str {d : DV I} (h : kd d = .str) : ∃ b, d = .lit (.string b) := by
  unfold kd at h
  split at h <;> first | exact ⟨_, rfl⟩ | cases h
theorem kd_int {d : DV I} {k : IntKind} (h : kd d = .int k) : ∃ b, d = .lit (.int k b) := by
  unfold kd at h
  split at h <;> first | (injection h with h; subst h; exact ⟨_, rfl⟩) | cases h
theorem kd_sl {d : DV I} {e : Nat} (h : kd d = .sl e) : ∃ b, d = .sl e b := by
  unfold kd at h
  split at h <;> first | (injection h with h; subst h; exact ⟨_, rfl⟩) | cases h
def flatK (ty : Nat → Option TI) : Nat → Nat → Option (List KD)
  | 0, _ => none
  | n + 1, t => match ty t with
    | none => none
    | some ti => match ti.td with
      | .bool => some [.bool]
      | .string => some [.str]
      | .int k => some [.int k]
      | .slice e => some [.sl e]
      | .struct fs => (fs.mapM fun p => flatK ty n p.2).map List.flatten
      | _ => none
def contig (ty : Nat → Option TI) : Nat → List (Nat × Nat) → Option Nat
  | o, [] => some o
  | o, (off, t) :: r => match Nat.beq off o, ty t with
    | true, some ti => contig ty (o + ti.size) r
    | _, _ => none
def contigOk (ty : Nat → Option TI) (p : Nat × TI) : Bool := match p.2.td with
  | .struct fs => match contig ty 0 fs with
    | some o => Nat.beq o p.2.size
    | none => false
  | .slice e => match ty e with
    | some ei => Nat.blt 0 ei.size && Nat.beq p.2.size 1
    | none => false
  | .bool | .string | .int _ => Nat.beq p.2.size 1
  | _ => true
def QD (Q : (t : Nat) → I t → Prop) : DV I → Prop
  | .sl t xs => xs.length ≤ maxLen ∧ ∀ x ∈ xs, Q t x
  | .lit (.string s) => s.size ≤ maxLen
  | .lit (.int k n) => (Lit.int k n).wf = true
  | _ => True
def bkD (bk : (t : Nat) → I t → Nat) : DV I → Nat
  | .sl t xs => (xs.map (bk t)).sum + 1
  | .lit (.string s) => s.size + 1
  | _ => 1
section
variable {P : Program} {E : Env I} {H : Type} {enc : TypeId × Value → H} {w : World} {base : Nat} {spare : Nat → Bool} {held : Bool}
def allS (w : World) : Nat → Nat → Prop := fun g _ => g < w.heap.size
inductive DReps (E : Env I) (Sl : Nat → Nat → Prop) (w : World) : List Value → List (DV I) → Prop
  | nil : DReps E Sl w [] []
  | cons {v : Value} {vs : List Value} {x : DV I} {xs : List (DV I)} (h : DRep E Sl w v x) (hs : DReps E Sl w vs xs) : DReps E Sl w (v :: vs) (x :: xs)
theorem DReps.append {Sl : Nat → Nat → Prop} {us vs : List Value} {xs ys : List (DV I)} (h : DReps E Sl w us xs) (k : DReps E Sl w vs ys) : DReps E Sl w (us ++ vs) (xs ++ ys) := by
  induction h with
  | nil => exact k
  | cons h _ ih => exact .cons h ih
theorem DReps.len {Sl : Nat → Nat → Prop} {us : List Value} {xs : List (DV I)} (h : DReps E Sl w us xs) : us.length = xs.length := by
  induction h with
  | nil => rfl
  | cons _ _ ih => simp [ih]
theorem DReps.get {Sl : Nat → Nat → Prop} {us : List Value} {xs : List (DV I)} (h : DReps E Sl w us xs) : ∀ (j : Nat) (y : DV I), xs[j]? = some y → ∃ u, us[j]? = some u ∧ DRep E Sl w u y := by
  induction h with
  | nil => intro j y h; simp at h
  | cons h _ ih =>
    intro j y hj
    cases j with
    | zero => simp at hj; subst hj; exact ⟨_, by simp, h⟩
    | succ j => simp at hj; simpa using ih j y hj
theorem DReps.preps {Sl : Nat → Nat → Prop} {X0 : Nat → Prop} {B0 : Nat} {us : List Value} {xs : List (DV I)} (h : DReps E Sl w us xs) : PReps E Sl w X0 B0 us (xs.map .d) [] [] := by
  induction h with
  | nil => exact .nil
  | cons h _ ih => exact .cons _ _ _ _ [] [] [] [] (.d _ _ h) ih
structure Meas (E : Env I) (Q : (t : Nat) → I t → Prop) (bk : (t : Nat) → I t → Nat) (ub : DataW H → Nat) (rows : List Nat) : Prop where
  contig : ∀ t ti, E.ty t = some ti → contigOk E.ty (t, ti) = true
  rowsIn : ∀ t ti e, E.ty t = some ti → ti.td = .slice e → flatK E.ty 9 t ≠ none → e ∈ rows
  rowsK : ∀ e ∈ rows, ∃ l, flatK E.ty 9 e = some l
  full : ∀ e ∈ rows, ∀ ds, flatK E.ty 9 e = some (ds.map kd) → ∃ x : I e, E.row e x = ds
  q : ∀ e ∈ rows, ∀ (x : I e), (∀ d ∈ E.row e x, QD Q d) → Q e x
  b : ∀ e ∈ rows, ∀ (x : I e) ti, E.ty e = some ti → bk e x ≤ ((E.row e x).map (bkD bk)).sum + (match ti.td with | .struct _ => 1 | _ => 0)
  nil : 1 ≤ ub .nil
  lit : ∀ l, 1 ≤ ub (.lit l)
  str : ∀ l, l.length + 1 ≤ ub (.lit (.string l))
  sl : ∀ a b, (a.map ub).sum + 1 ≤ ub (.slice a b)
  agg : ∀ a, (a.map ub).sum + 1 ≤ ub (.agg a)
theorem mapM_mono {α β : Type} {f g : α → Option β} : ∀ {l : List α} {r : List β}, l.mapM f = some r → (∀ a ∈ l, ∀ b, f a = some b → g a = some b) → l.mapM g = some r
  | [], r, h, _ => by simpa using h
  | a :: l, r, h, hg => by
    simp only [List.mapM_cons, Option.bind_eq_bind, Option.pure_def] at h ⊢
    obtain ⟨b, h1, h⟩ := Option.bind_eq_some_iff.1 h
    obtain ⟨bs, h2, h3⟩ := Option.bind_eq_some_iff.1 h
    rw [hg a List.mem_cons_self b h1, mapM_mono h2 (fun x hx => hg x (List.mem_cons_of_mem _ hx))]
    exact h3
theorem flatK_mono {ty : Nat → Option TI} : ∀ (n t : Nat) (l : List KD), flatK ty n t = some l → flatK ty (n + 1) t = some l
  | 0, t, l, h => by cases h
  | n + 1, t, l, h => by
    unfold flatK at h ⊢
    cases ht : ty t with
    | none => rw [ht] at h; cases h
    | some ti =>
      rw [ht] at h
      simp only at h ⊢
      cases htd : ti.td with
      | struct fs =>
        rw [htd] at h
        simp only at h ⊢
        obtain ⟨ls, h1, h2⟩ := Option.map_eq_some_iff.1 h
        rw [mapM_mono h1 (fun p _ b hb => flatK_mono n p.2 b hb)]
        simp [h2]
      | _ => rw [htd] at h; exact h
theorem cellsOf_size (hE : EnvOK P E) {t : Nat} {ti : TI} (h : E.ty t = some ti) : P.cellsOf t = ti.size := by
  have := hE.size h
  unfold Program.cellsOf
  cases hq : P.info? t with
  | none => rw [hq] at this; cases this
  | some i => rw [hq] at this; simpa using this
def Rdd (E : Env I) (Q : (t : Nat) → I t → Prop) (bk : (t : Nat) → I t → Nat) (w : World) (cs : List Value) (n : Nat) (l : List KD) : Prop :=
  ∃ ds, DReps E (allS w) w cs ds ∧ ds.map kd = l ∧ (∀ d ∈ ds, QD Q d) ∧ (ds.map (bkD bk)).sum ≤ n
theorem rd_fields (hE : EnvOK P E) {Q : (t : Nat) → I t → Prop} {bk : (t : Nat) → I t → Nat} {ub : DataW H → Nat}
    (f : Nat → List Value → Option (DataW H × List MemPlace)) (hf : ∀ t ti cs y l, E.ty t = some ti → flatK E.ty 9 t = some l → f t cs = some y → Rdd E Q bk w cs (ub y.1) l) :
    ∀ (fs : List (Nat × Nat)) (o : Nat) (cs : List Value) (ys : List (DataW H × List MemPlace)) (ls : List (List KD)) (e : Nat), contig E.ty o fs = some e → cs.length = e →
      fs.mapM (fun p => f p.2 ((cs.drop p.1).take (P.cellsOf p.2))) = some ys → fs.mapM (fun p => flatK E.ty 9 p.2) = some ls → Rdd E Q bk w (cs.drop o) ((ys.map fun y => ub y.1).sum) ls.flatten
  | [], o, cs, ys, ls, e, hc, hl, h1, h2 => by
    simp only [contig, Option.some.injEq] at hc
    simp only [List.mapM_nil, Option.pure_def, Option.some.injEq] at h1 h2
    subst h1; subst h2
    refine ⟨[], ?_, rfl, fun d hd => (by cases hd), Nat.le_refl _⟩
    rw [List.drop_eq_nil_of_le (by omega)]
    exact .nil
  | (off, t) :: fs, o, cs, ys, ls, e, hc, hl, h1, h2 => by
    simp only [contig] at hc
    split at hc
    · rename_i ti hoff ht
      have hoff := Nat.eq_of_beq_eq_true hoff
      subst hoff
      simp only [List.mapM_cons, Option.bind_eq_bind, Option.pure_def] at h1 h2
      obtain ⟨y, h11, h1⟩ := Option.bind_eq_some_iff.1 h1
      obtain ⟨ys', h12, h13⟩ := Option.bind_eq_some_iff.1 h1
      obtain ⟨l, h21, h2⟩ := Option.bind_eq_some_iff.1 h2
      obtain ⟨ls', h22, h23⟩ := Option.bind_eq_some_iff.1 h2
      injection h13 with h13
      injection h23 with h23
      subst h13; subst h23
      obtain ⟨ds, a1, a2, a3, a4⟩ := hf t ti _ y l ht h21 h11
      obtain ⟨es, b1, b2, b3, b4⟩ := rd_fields hE f hf fs (off + ti.size) cs ys' ls' e hc hl h12 h22
      rw [cellsOf_size hE ht] at a1
      refine ⟨ds ++ es, ?_, by simp [a2, b2], fun d hd => ?_, ?_⟩
      · have := a1.append b1
        rwa [← List.drop_drop, List.take_append_drop] at this
      · rcases List.mem_append.1 hd with hd | hd
        · exact a3 d hd
        · exact b3 d hd
      · simp only [List.map_append, List.sum_append, List.map_cons, List.sum_cons]
        omega
    · cases hc
theorem trod_bool {t : TypeId} {fuel : Nat} {cs : List Value} {x : DataW H × List MemPlace} (ht : P.underlying t = some .bool) (h : DataW.trod enc P w base spare held fuel t cs = some x) : ∃ b, cs = [.bool b] ∧ x = (.lit (.bool b), []) := by
  cases fuel with
  | zero => simp [DataW.trod] at h
  | succ n =>
    unfold DataW.trod at h
    rw [ht] at h
    split at h <;> simp_all
theorem trod_struct {t : TypeId} {fuel : Nat} {fs : Array Field} {cs : List Value} {x : DataW H × List MemPlace} (ht : P.underlying t = some (.struct fs)) (h : DataW.trod enc P w base spare held fuel t cs = some x) :
    ∃ n xs, fuel = n + 1 ∧ cs.length = P.cellsOf t ∧ (fs.toList.mapM fun f => DataW.trod enc P w base spare held n f.type ((cs.drop f.offset).take (P.cellsOf f.type))) = some xs ∧ x.1 = .agg (xs.map (·.1)) := by
  cases fuel with
  | zero => simp [DataW.trod] at h
  | succ n =>
    unfold DataW.trod at h
    rw [ht] at h
    simp only at h
    split at h
    · rename_i hl
      obtain ⟨xs, h1, h2⟩ := Option.map_eq_some_iff.1 h
      exact ⟨n, xs, rfl, hl, h1, by rw [← h2]⟩
    · cases h
theorem add_spot {a : Addr} {u : Value} (h : w.cell? a = some u) : a = ⟨a.block, a.off, none⟩ := by
  obtain ⟨b, o, sp⟩ := a
  cases sp with
  | none => rfl
  | some q =>
    exfalso
    unfold World.cell? at h
    split at h
    · simp at h
    · cases h
theorem rd (hE : EnvOK P E) {Q : (t : Nat) → I t → Prop} {bk : (t : Nat) → I t → Nat} {ub : DataW H → Nat} {rows : List Nat} (m : Meas E Q bk ub rows) :
    ∀ (n t : Nat) (ti : TI) (cs : List Value) (y : DataW H × List MemPlace) (l : List KD), E.ty t = some ti → flatK E.ty 9 t = some l → DataW.trod enc P w base spare held n t cs = some y →
      Rdd E Q bk w cs (ub y.1 - (match ti.td with | .struct _ => 1 | _ => 0)) l ∧ (match ti.td with | .struct _ => 1 | _ => 0) ≤ ub y.1 ∧ cs.length = ti.size
  | 0, t, ti, cs, y, l, ht, hl, h => by simp [DataW.trod] at h
  | n + 1, t, ti, cs, y, l, ht, hl, h => by
    obtain ⟨d, hd, hdt⟩ := hE.desc ht
    have hcont := m.contig t ti ht
    have hl0 := hl
    unfold flatK at hl
    rw [ht] at hl
    simp only at hl
    have one : ∀ {v : Value} {x : DV I}, cs = [v] → DRep E (allS w) w v x → QD Q x → bkD bk x ≤ ub y.1 → l = [kd x] → ti.size = 1 → Rdd E Q bk w cs (ub y.1 - 0) l ∧ 0 ≤ ub y.1 ∧ cs.length = ti.size := by
      intro v x hcs hr hq hb hk hs
      refine ⟨⟨[x], ?_, ?_, ?_, ?_⟩, Nat.zero_le _, ?_⟩
      · rw [hcs]; exact .cons hr .nil
      · rw [hk]; rfl
      · intro d hd; rw [List.mem_singleton] at hd; rw [hd]; exact hq
      · simpa using hb
      · rw [hcs, hs]; rfl
    cases htd : ti.td with
    | bool =>
      rw [htd] at hl hdt
      simp only [Option.some.injEq] at hl
      have hsz : ti.size = 1 := by simp only [contigOk, htd] at hcont; exact Nat.eq_of_beq_eq_true hcont
      have hd' : P.underlying t = some .bool := by rw [hd]; cases d <;> simp [tdOf] at hdt; rfl
      obtain ⟨b, rfl, rfl⟩ := trod_bool hd' h
      exact one (x := .lit (.bool b)) rfl (.lit _ rfl) trivial (m.lit _) hl.symm hsz
    | string =>
      rw [htd] at hl hdt
      simp only [Option.some.injEq] at hl
      have hsz : ti.size = 1 := by simp only [contigOk, htd] at hcont; exact Nat.eq_of_beq_eq_true hcont
      have hd' : P.underlying t = some .string := by rw [hd]; cases d <;> simp [tdOf] at hdt; rfl
      obtain ⟨b, rfl, rfl, hb⟩ := DataW.trod_string hd' h
      exact one (x := .lit (.string b)) rfl (.lit _ rfl) hb (by have := m.str b.data.toList; simpa [bkD] using this) hl.symm hsz
    | int k =>
      rw [htd] at hl hdt
      simp only [Option.some.injEq] at hl
      have hsz : ti.size = 1 := by simp only [contigOk, htd] at hcont; exact Nat.eq_of_beq_eq_true hcont
      have hd' : P.underlying t = some (.int k) := by
        rw [hd]
        cases d <;> simp [tdOf] at hdt
        rw [hdt]
      obtain ⟨b, rfl, rfl, hb⟩ := DataW.trod_int hd' h
      exact one (x := .lit (.int k b)) rfl (.lit _ rfl) hb (m.lit _) hl.symm hsz
    | other => rw [htd] at hl; cases hl
    | array a b => rw [htd] at hl; cases hl
    | struct fs =>
      rw [htd] at hl hdt
      simp only at hl
      obtain ⟨ls, h1, h2⟩ := Option.map_eq_some_iff.1 hl
      have : ∃ fa : Array Field, d = .struct fa ∧ fa.toList.map (fun f => (f.offset, f.type)) = fs := by
        cases d <;> simp [tdOf] at hdt
        exact ⟨_, rfl, hdt⟩
      obtain ⟨fa, rfl, hfs⟩ := this
      obtain ⟨n', xs, hn, hcl, hm, hy⟩ := trod_struct hd h
      have hn : n = n' := by omega
      subst hn
      rw [cellsOf_size hE ht] at hcl
      simp only [contigOk, htd] at hcont
      split at hcont
      · rename_i e he
        have he' := Nat.eq_of_beq_eq_true hcont
        have hmm : fs.mapM (fun p => (fun t cs => DataW.trod enc P w base spare held n t cs) p.2 ((cs.drop p.1).take (P.cellsOf p.2))) = some xs := by
          rw [← hfs, List.mapM_map]
          exact hm
        have h9 : fs.mapM (fun p => flatK E.ty 9 p.2) = some ls := mapM_mono h1 fun p _ b hb => flatK_mono 8 p.2 b hb
        have key := rd_fields (Q := Q) (bk := bk) (ub := ub) (w := w) hE (fun t cs => DataW.trod enc P w base spare held n t cs) (fun t ti cs y l ht hl h => by
          obtain ⟨⟨ds, a1, a2, a3, a4⟩, _, _⟩ := rd hE m n t ti cs y l ht hl h
          exact ⟨ds, a1, a2, a3, by omega⟩) fs 0 cs xs ls e he (by rw [hcl, he']) hmm h9
        obtain ⟨ds, b1, b2, b3, b4⟩ := key
        have hub := m.agg (xs.map (·.1))
        rw [List.map_map] at hub
        rw [hy]
        refine ⟨⟨ds, by simpa using b1, by rw [b2, h2], b3, ?_⟩, by simp only; omega, hcl⟩
        have : (xs.map (ub ∘ fun x => x.1)) = xs.map fun y => ub y.1 := rfl
        rw [this] at hub
        simp only
        omega
      · cases hcont
    | slice e =>
      rw [htd] at hl hdt
      simp only [Option.some.injEq] at hl
      have hd' : P.underlying t = some (.slice e) := by
        rw [hd]
        cases d <;> simp [tdOf] at hdt
        rw [hdt]
      have her : e ∈ rows := m.rowsIn t ti e ht htd (by rw [hl0]; simp)
      obtain ⟨le, hle⟩ := m.rowsK e her
      simp only [contigOk, htd] at hcont
      split at hcont
      · rename_i ei hei
        rw [Bool.and_eq_true] at hcont
        have hpos : 0 < ei.size := by have := hcont.1; simp [Nat.blt] at this; omega
        have hcof := cellsOf_size hE hei
        have hsz : ti.size = 1 := Nat.eq_of_beq_eq_true hcont.2
        rcases DataW.trod_slice hd' h with ⟨rfl, rfl⟩ | ⟨a, len, cap, elems, rest, n', hn, rfl, rfl, hb, hlc, hcm, hel, hget, _, _⟩
        · exact one (x := .sl e []) rfl (.sl e [] none 0 0 0 0 (fun _ => undef) rfl (Nat.le_refl _) (by omega) (by omega) (by simp) (by simp)) ⟨Nat.zero_le _, by simp⟩ (by simpa [bkD] using m.nil) hl.symm hsz
        · have hn : n = n' := by omega
          subst hn
          have each : ∀ i, i < len → ∃ (x : I e) (cs' : List Value), DReps E (allS w) w cs' (E.row e x) ∧ Q e x ∧ cs'.length = ei.size ∧ (∀ j u, cs'[j]? = some u → w.cell? (a.add (i * ei.size + j)) = some u) ∧ ∃ y', elems[i]? = some y' ∧ bk e x ≤ ub y'.1 := by
            intro i hi
            have h1 := hget i hi
            rw [List.getElem?_eq_getElem (by omega)] at h1
            obtain ⟨cs', hc, ht'⟩ := Option.bind_eq_some_iff.1 h1
            obtain ⟨⟨ds, a1, a2, a3, a4⟩, a5, a6⟩ := rd hE m n e ei cs' _ le hei hle ht'
            obtain ⟨x, hx⟩ := m.full e her ds (by rw [hle, a2])
            obtain ⟨_, hcl, hcell⟩ := World.cells?_some hc
            refine ⟨x, cs', by rw [hx]; exact a1, m.q e her x (by rw [hx]; exact a3), a6, fun j u hu => ?_, _, List.getElem?_eq_getElem (by omega), ?_⟩
            · have hj : j < P.cellsOf e := by rw [← hcl]; exact (List.getElem?_eq_some_iff.1 hu).1
              rw [← hu, ← hcell j hj, Addr.add_add, hcof]
            · have := m.b e her x ei hei
              rw [hx] at this
              omega
          have pick : ∀ q, q ≤ len → ∃ xs : List (I e), xs.length = q ∧ (∀ x ∈ xs, Q e x) ∧ (xs.map (bk e)).sum ≤ ((elems.take q).map fun y => ub y.1).sum ∧
              ∀ i x, xs[i]? = some x → ∃ cs', DReps E (allS w) w cs' (E.row e x) ∧ cs'.length = ei.size ∧ ∀ j u, cs'[j]? = some u → w.cell? (a.add (i * ei.size + j)) = some u := by
            intro q
            induction q with
            | zero => intro _; exact ⟨[], rfl, by simp, by simp, fun j p hj => by simp at hj⟩
            | succ q ih =>
              intro hq
              obtain ⟨xs, hxl, hxo, hxs, hx⟩ := ih (by omega)
              obtain ⟨x, cs', k1, k2, k3, k4, y', k5, k6⟩ := each q (by omega)
              refine ⟨xs ++ [x], by simp [hxl], ?_, ?_, fun j p hj => ?_⟩
              · intro z hz
                rcases List.mem_append.1 hz with hz | hz
                · exact hxo z hz
                · rw [List.mem_singleton.1 hz]; exact k2
              · rw [List.take_add_one, k5]
                simp only [Option.toList_some, List.map_append, List.sum_append, List.map_cons, List.map_nil, List.sum_cons, List.sum_nil]
                omega
              · rcases Nat.lt_or_ge j xs.length with hlt | hge
                · rw [List.getElem?_append_left hlt] at hj
                  exact hx j p hj
                · have hj' : j = xs.length := by
                    have := (List.getElem?_eq_some_iff.1 hj).1
                    rw [List.length_append, List.length_singleton] at this
                    omega
                  subst hj'
                  have : x = p := by simpa using hj
                  subst this
                  rw [hxl]
                  exact ⟨cs', k1, k3, k4⟩
          obtain ⟨xs, hxl, hxo, hxs, hx⟩ := pick len (Nat.le_refl _)
          have htk : elems.take len = elems := List.take_of_length_le (by omega)
          rw [htk] at hxs
          have hsp : 0 < len → a = ⟨a.block, a.off, none⟩ := by
            intro h0
            obtain ⟨x, cs', _, _, k3, k4, _⟩ := each 0 h0
            have : 0 < cs'.length := by rw [k3]; exact hpos
            have h0 := k4 0 cs'[0] (List.getElem?_eq_getElem this)
            rw [Nat.zero_mul, Nat.zero_add] at h0
            exact add_spot (by simpa [Addr.add] using h0)
          have cellAt : ∀ i x j y, xs[i]? = some x → (E.row e x)[j]? = some y → ∃ u, w.cell? ⟨a.block, a.off + (i * (E.row e x).length + j), none⟩ = some u ∧ DRep E (allS w) w u y := by
            intro i x j y hi hj
            obtain ⟨cs', k1, k2, k3⟩ := hx i x hi
            obtain ⟨u, hu, hr⟩ := k1.get j y hj
            have h0 : 0 < len := by have := (List.getElem?_eq_some_iff.1 hi).1; omega
            have hc := k3 j u hu
            rw [hsp h0, add_at] at hc
            refine ⟨u, ?_, hr⟩
            rw [← k1.len, k2]
            exact hc
          refine one (x := .sl e xs) rfl (.sl e xs (some a) len cap a.block a.off (fun q => (w.cell? ⟨a.block, a.off + q, none⟩).getD undef) hxl hlc (by simp only [maxLen] at hcm; omega) (fun h0 => by rw [← hsp h0]) (fun i x j y hi hj => ?_) (fun i x j y hi hj => ?_)) ⟨by omega, hxo⟩ ?_ hl.symm hsz
          · obtain ⟨u, hu, _⟩ := cellAt i x j y hi hj
            exact ⟨by rw [hu]; rfl, cell_block hu⟩
          · obtain ⟨u, hu, hr⟩ := cellAt i x j y hi hj
            simp only [hu, Option.getD_some]
            exact hr
          · have := m.sl (elems.map (·.1)) (rest.map (·.1))
            rw [List.map_map] at this
            simp only [bkD]
            have h2 : (elems.map (ub ∘ fun x => x.1)) = elems.map fun y => ub y.1 := rfl
            rw [h2] at this
            omega
      · cases hcont
end
end Go.Ev
end
section
open Go Go.Proofs
namespace Go.Ev
set_option maxRecDepth 100000
set_option maxHeartbeats 4000000
set_option linter.unusedVariables false
def bk_v9 (x : ByteArray) : Nat := (x.size + 1) + 0
def ft_v9 (x : ByteArray) : Prop := x.size ≤ maxLen
def bks_v9 : List ByteArray → Nat
  | [] => 0
  | x :: r => bk_v9 x + bks_v9 r
def fts_v9 : List ByteArray → Prop
  | [] => True
  | x :: r => ft_v9 x ∧ fts_v9 r
theorem bks_v9_eq : ∀ l : List ByteArray, bks_v9 l = (l.map bk_v9).sum
  | [] => rfl
  | x :: r => by simp [bks_v9, bks_v9_eq r]
theorem fts_v9_iff : ∀ l : List ByteArray, fts_v9 l ↔ ∀ x ∈ l, ft_v9 x
  | [] => by simp [fts_v9]
  | x :: r => by simp [fts_v9, fts_v9_iff r]
def bk_TPair : TPair → Nat
  | ⟨x0, x1⟩ => (x0.size + 1) + ((x1.size + 1) + 0 ) + 1
def ft_TPair : TPair → Prop
  | ⟨x0, x1⟩ => x0.size ≤ maxLen ∧ x1.size ≤ maxLen
def bk_TField : TField → Nat
  | ⟨x0, x1, x2, x3⟩ => (bks_v9 x0 + 1) + ((bks_v9 x1 + 1) + ((x2.size + 1) + (1 + 0 ))) + 1
def bks_TField : List TField → Nat
  | [] => 0
  | x :: r => bk_TField x + bks_TField r
def ft_TField : TField → Prop
  | ⟨x0, x1, x2, x3⟩ => (x0.length ≤ maxLen ∧ fts_v9 x0) ∧ (x1.length ≤ maxLen ∧ fts_v9 x1) ∧ x2.size ≤ maxLen ∧ (Lit.int .i64 x3).wf = true
def fts_TField : List TField → Prop
  | [] => True
  | x :: r => ft_TField x ∧ fts_TField r
theorem bks_TField_eq : ∀ l : List TField, bks_TField l = (l.map bk_TField).sum
  | [] => rfl
  | x :: r => by simp [bks_TField, bks_TField_eq r]
theorem fts_TField_iff : ∀ l : List TField, fts_TField l ↔ ∀ x ∈ l, ft_TField x
  | [] => by simp [fts_TField]
  | x :: r => by simp [fts_TField, fts_TField_iff r]
def bk_TVar : TVar → Nat
  | ⟨x0, x1, x2, x3, x4, x5⟩ => (bks_v9 x0 + 1) + ((bks_v9 x1 + 1) + ((x2.size + 1) + (1 + (1 + ((x5.size + 1) + 0 ))))) + 1
def bks_TVar : List TVar → Nat
  | [] => 0
  | x :: r => bk_TVar x + bks_TVar r
def ft_TVar : TVar → Prop
  | ⟨x0, x1, x2, x3, x4, x5⟩ => (x0.length ≤ maxLen ∧ fts_v9 x0) ∧ (x1.length ≤ maxLen ∧ fts_v9 x1) ∧ x2.size ≤ maxLen ∧ (Lit.int .i64 x3).wf = true ∧ (Lit.int .i64 x4).wf = true ∧ x5.size ≤ maxLen
def fts_TVar : List TVar → Prop
  | [] => True
  | x :: r => ft_TVar x ∧ fts_TVar r
theorem bks_TVar_eq : ∀ l : List TVar, bks_TVar l = (l.map bk_TVar).sum
  | [] => rfl
  | x :: r => by simp [bks_TVar, bks_TVar_eq r]
theorem fts_TVar_iff : ∀ l : List TVar, fts_TVar l ↔ ∀ x ∈ l, ft_TVar x
  | [] => by simp [fts_TVar]
  | x :: r => by simp [fts_TVar, fts_TVar_iff r]
def bk_TParam : TParam → Nat
  | ⟨x0, x1, x2, x3, x4⟩ => (x0.size + 1) + (1 + (1 + ((x3.size + 1) + (1 + 0 )))) + 1
def bks_TParam : List TParam → Nat
  | [] => 0
  | x :: r => bk_TParam x + bks_TParam r
def ft_TParam : TParam → Prop
  | ⟨x0, x1, x2, x3, x4⟩ => x0.size ≤ maxLen ∧ (Lit.int .i64 x1).wf = true ∧ (Lit.int .i64 x2).wf = true ∧ x3.size ≤ maxLen ∧ (Lit.int .i64 x4).wf = true
def fts_TParam : List TParam → Prop
  | [] => True
  | x :: r => ft_TParam x ∧ fts_TParam r
theorem bks_TParam_eq : ∀ l : List TParam, bks_TParam l = (l.map bk_TParam).sum
  | [] => rfl
  | x :: r => by simp [bks_TParam, bks_TParam_eq r]
theorem fts_TParam_iff : ∀ l : List TParam, fts_TParam l ↔ ∀ x ∈ l, ft_TParam x
  | [] => by simp [fts_TParam]
  | x :: r => by simp [fts_TParam, fts_TParam_iff r]
mutual
def bk_TExpr : TExpr → Nat
  | ⟨x0, x1, x2, x3, x4⟩ => 1 + (1 + ((x2.size + 1) + ((x3.size + 1) + ((bks_TExpr x4 + 1) + 0 )))) + 1
def bks_TExpr : List TExpr → Nat
  | [] => 0
  | x :: r => bk_TExpr x + bks_TExpr r
end
mutual
def ft_TExpr : TExpr → Prop
  | ⟨x0, x1, x2, x3, x4⟩ => (Lit.int .i64 x0).wf = true ∧ (Lit.int .i64 x1).wf = true ∧ x2.size ≤ maxLen ∧ x3.size ≤ maxLen ∧ (x4.length ≤ maxLen ∧ fts_TExpr x4)
def fts_TExpr : List TExpr → Prop
  | [] => True
  | x :: r => ft_TExpr x ∧ fts_TExpr r
end
theorem bks_TExpr_eq : ∀ l : List TExpr, bks_TExpr l = (l.map bk_TExpr).sum
  | [] => rfl
  | x :: r => by simp [bks_TExpr, bks_TExpr_eq r]
theorem fts_TExpr_iff : ∀ l : List TExpr, fts_TExpr l ↔ ∀ x ∈ l, ft_TExpr x
  | [] => by simp [fts_TExpr]
  | x :: r => by simp [fts_TExpr, fts_TExpr_iff r]
mutual
def bk_TStmt : TStmt → Nat
  | ⟨x0, x1, x2, x3, x4, x5, x6, x7, x8, x9, x10, x11, x12, x13, x14, x15⟩ => (bks_v9 x0 + 1) + ((bks_v9 x1 + 1) + (1 + ((x3.size + 1) + (1 + (1 + ((x6.size + 1) + ((x7.size + 1) + ((bks_TExpr x8 + 1) + ((bks_TExpr x9 + 1) + (1 + (1 + ((bks_TStmt x12 + 1) + ((bks_TStmt x13 + 1) + ((bks_v9 x14 + 1) + ((bks_v9 x15 + 1) + 0 ))))))))))))))) + 1
def bks_TStmt : List TStmt → Nat
  | [] => 0
  | x :: r => bk_TStmt x + bks_TStmt r
end
mutual
def ft_TStmt : TStmt → Prop
  | ⟨x0, x1, x2, x3, x4, x5, x6, x7, x8, x9, x10, x11, x12, x13, x14, x15⟩ => (x0.length ≤ maxLen ∧ fts_v9 x0) ∧ (x1.length ≤ maxLen ∧ fts_v9 x1) ∧ (Lit.int .i64 x2).wf = true ∧ x3.size ≤ maxLen ∧ (Lit.int .i64 x4).wf = true ∧ (Lit.int .i64 x5).wf = true ∧ x6.size ≤ maxLen ∧ x7.size ≤ maxLen ∧ (x8.length ≤ maxLen ∧ fts_TExpr x8) ∧ (x9.length ≤ maxLen ∧ fts_TExpr x9) ∧ True ∧ True ∧ (x12.length ≤ maxLen ∧ fts_TStmt x12) ∧ (x13.length ≤ maxLen ∧ fts_TStmt x13) ∧ (x14.length ≤ maxLen ∧ fts_v9 x14) ∧ (x15.length ≤ maxLen ∧ fts_v9 x15)
def fts_TStmt : List TStmt → Prop
  | [] => True
  | x :: r => ft_TStmt x ∧ fts_TStmt r
end
theorem bks_TStmt_eq : ∀ l : List TStmt, bks_TStmt l = (l.map bk_TStmt).sum
  | [] => rfl
  | x :: r => by simp [bks_TStmt, bks_TStmt_eq r]
theorem fts_TStmt_iff : ∀ l : List TStmt, fts_TStmt l ↔ ∀ x ∈ l, ft_TStmt x
  | [] => by simp [fts_TStmt]
  | x :: r => by simp [fts_TStmt, fts_TStmt_iff r]
def bk_TRec : TRec → Nat
  | ⟨x0, x1, x2, x3, x4⟩ => (bks_v9 x0 + 1) + ((bks_v9 x1 + 1) + ((x2.size + 1) + ((bks_TField x3 + 1) + ((bks_v9 x4 + 1) + 0 )))) + 1
def bks_TRec : List TRec → Nat
  | [] => 0
  | x :: r => bk_TRec x + bks_TRec r
def ft_TRec : TRec → Prop
  | ⟨x0, x1, x2, x3, x4⟩ => (x0.length ≤ maxLen ∧ fts_v9 x0) ∧ (x1.length ≤ maxLen ∧ fts_v9 x1) ∧ x2.size ≤ maxLen ∧ (x3.length ≤ maxLen ∧ fts_TField x3) ∧ (x4.length ≤ maxLen ∧ fts_v9 x4)
def fts_TRec : List TRec → Prop
  | [] => True
  | x :: r => ft_TRec x ∧ fts_TRec r
theorem bks_TRec_eq : ∀ l : List TRec, bks_TRec l = (l.map bk_TRec).sum
  | [] => rfl
  | x :: r => by simp [bks_TRec, bks_TRec_eq r]
theorem fts_TRec_iff : ∀ l : List TRec, fts_TRec l ↔ ∀ x ∈ l, ft_TRec x
  | [] => by simp [fts_TRec]
  | x :: r => by simp [fts_TRec, fts_TRec_iff r]
mutual
def bk_TRoutine : TRoutine → Nat
  | ⟨x0, x1, x2, x3, x4, x5, x6, x7, x8⟩ => (bks_v9 x0 + 1) + ((bks_v9 x1 + 1) + ((x2.size + 1) + (1 + ((bks_TParam x4 + 1) + ((bks_TVar x5 + 1) + ((bks_TRoutine x6 + 1) + ((bks_TStmt x7 + 1) + ((bks_v9 x8 + 1) + 0 )))))))) + 1
def bks_TRoutine : List TRoutine → Nat
  | [] => 0
  | x :: r => bk_TRoutine x + bks_TRoutine r
end
mutual
def ft_TRoutine : TRoutine → Prop
  | ⟨x0, x1, x2, x3, x4, x5, x6, x7, x8⟩ => (x0.length ≤ maxLen ∧ fts_v9 x0) ∧ (x1.length ≤ maxLen ∧ fts_v9 x1) ∧ x2.size ≤ maxLen ∧ (Lit.int .i64 x3).wf = true ∧ (x4.length ≤ maxLen ∧ fts_TParam x4) ∧ (x5.length ≤ maxLen ∧ fts_TVar x5) ∧ (x6.length ≤ maxLen ∧ fts_TRoutine x6) ∧ (x7.length ≤ maxLen ∧ fts_TStmt x7) ∧ (x8.length ≤ maxLen ∧ fts_v9 x8)
def fts_TRoutine : List TRoutine → Prop
  | [] => True
  | x :: r => ft_TRoutine x ∧ fts_TRoutine r
end
theorem bks_TRoutine_eq : ∀ l : List TRoutine, bks_TRoutine l = (l.map bk_TRoutine).sum
  | [] => rfl
  | x :: r => by simp [bks_TRoutine, bks_TRoutine_eq r]
theorem fts_TRoutine_iff : ∀ l : List TRoutine, fts_TRoutine l ↔ ∀ x ∈ l, ft_TRoutine x
  | [] => by simp [fts_TRoutine]
  | x :: r => by simp [fts_TRoutine, fts_TRoutine_iff r]
def bk_TProgram : TProgram → Nat
  | ⟨x0, x1, x2, x3, x4, x5, x6, x7, x8⟩ => (x0.size + 1) + ((bks_v9 x1 + 1) + ((bks_v9 x2 + 1) + ((bks_v9 x3 + 1) + ((bks_TRec x4 + 1) + ((bks_TVar x5 + 1) + ((bks_TRoutine x6 + 1) + ((bks_TStmt x7 + 1) + ((bks_v9 x8 + 1) + 0 )))))))) + 1
def ft_TProgram : TProgram → Prop
  | ⟨x0, x1, x2, x3, x4, x5, x6, x7, x8⟩ => x0.size ≤ maxLen ∧ (x1.length ≤ maxLen ∧ fts_v9 x1) ∧ (x2.length ≤ maxLen ∧ fts_v9 x2) ∧ (x3.length ≤ maxLen ∧ fts_v9 x3) ∧ (x4.length ≤ maxLen ∧ fts_TRec x4) ∧ (x5.length ≤ maxLen ∧ fts_TVar x5) ∧ (x6.length ≤ maxLen ∧ fts_TRoutine x6) ∧ (x7.length ≤ maxLen ∧ fts_TStmt x7) ∧ (x8.length ≤ maxLen ∧ fts_v9 x8)
def bkk : (t : Nat) → II t → Nat
  | 9, x => bk_v9 x
  | 36, x => bk_TPair x
  | 44, x => bk_TRec x
  | 46, x => bk_TField x
  | 54, x => bk_TVar x
  | 66, x => bk_TRoutine x
  | 68, x => bk_TParam x
  | 71, x => bk_TExpr x
  | 73, x => bk_TStmt x
  | _, _ => 0
def ftt : (t : Nat) → II t → Prop
  | 9, x => ft_v9 x
  | 36, x => ft_TPair x
  | 44, x => ft_TRec x
  | 46, x => ft_TField x
  | 54, x => ft_TVar x
  | 66, x => ft_TRoutine x
  | 68, x => ft_TParam x
  | 71, x => ft_TExpr x
  | 73, x => ft_TStmt x
  | _, _ => True
def rowsL : List Nat := [9, 36, 44, 46, 54, 66, 68, 71, 73]
theorem full_v9 (ds : List (DV II)) (h : some [.str] = some (ds.map kd)) : ∃ x : ByteArray, row_v9 x = ds := by
  injection h with h
  symm at h
  obtain ⟨d0, ds, rfl, e0, h⟩ := List.map_eq_cons_iff.1 h
  obtain rfl := List.map_eq_nil_iff.1 h
  obtain ⟨y0, rfl⟩ := kd_str e0
  exact ⟨y0, rfl⟩
theorem full_TPair (ds : List (DV II)) (h : some [.str, .str] = some (ds.map kd)) : ∃ x : TPair, row_TPair x = ds := by
  injection h with h
  symm at h
  obtain ⟨d0, ds, rfl, e0, h⟩ := List.map_eq_cons_iff.1 h
  obtain ⟨d1, ds, rfl, e1, h⟩ := List.map_eq_cons_iff.1 h
  obtain rfl := List.map_eq_nil_iff.1 h
  obtain ⟨y0, rfl⟩ := kd_str e0
  obtain ⟨y1, rfl⟩ := kd_str e1
  exact ⟨⟨y0, y1⟩, rfl⟩
theorem full_TRec (ds : List (DV II)) (h : some [.sl 9, .sl 9, .str, .sl 46, .sl 9] = some (ds.map kd)) : ∃ x : TRec, row_TRec x = ds := by
  injection h with h
  symm at h
  obtain ⟨d0, ds, rfl, e0, h⟩ := List.map_eq_cons_iff.1 h
  obtain ⟨d1, ds, rfl, e1, h⟩ := List.map_eq_cons_iff.1 h
  obtain ⟨d2, ds, rfl, e2, h⟩ := List.map_eq_cons_iff.1 h
  obtain ⟨d3, ds, rfl, e3, h⟩ := List.map_eq_cons_iff.1 h
  obtain ⟨d4, ds, rfl, e4, h⟩ := List.map_eq_cons_iff.1 h
  obtain rfl := List.map_eq_nil_iff.1 h
  obtain ⟨y0, rfl⟩ := kd_sl e0
  obtain ⟨y1, rfl⟩ := kd_sl e1
  obtain ⟨y2, rfl⟩ := kd_str e2
  obtain ⟨y3, rfl⟩ := kd_sl e3
  obtain ⟨y4, rfl⟩ := kd_sl e4
  exact ⟨⟨y0, y1, y2, y3, y4⟩, rfl⟩
theorem full_TField (ds : List (DV II)) (h : some [.sl 9, .sl 9, .str, .int .i64] = some (ds.map kd)) : ∃ x : TField, row_TField x = ds := by
  injection h with h
  symm at h
  obtain ⟨d0, ds, rfl, e0, h⟩ := List.map_eq_cons_iff.1 h
  obtain ⟨d1, ds, rfl, e1, h⟩ := List.map_eq_cons_iff.1 h
  obtain ⟨d2, ds, rfl, e2, h⟩ := List.map_eq_cons_iff.1 h
  obtain ⟨d3, ds, rfl, e3, h⟩ := List.map_eq_cons_iff.1 h
  obtain rfl := List.map_eq_nil_iff.1 h
  obtain ⟨y0, rfl⟩ := kd_sl e0
  obtain ⟨y1, rfl⟩ := kd_sl e1
  obtain ⟨y2, rfl⟩ := kd_str e2
  obtain ⟨y3, rfl⟩ := kd_int e3
  exact ⟨⟨y0, y1, y2, y3⟩, rfl⟩
theorem full_TVar (ds : List (DV II)) (h : some [.sl 9, .sl 9, .str, .int .i64, .int .i64, .str] = some (ds.map kd)) : ∃ x : TVar, row_TVar x = ds := by
  injection h with h
  symm at h
  obtain ⟨d0, ds, rfl, e0, h⟩ := List.map_eq_cons_iff.1 h
  obtain ⟨d1, ds, rfl, e1, h⟩ := List.map_eq_cons_iff.1 h
  obtain ⟨d2, ds, rfl, e2, h⟩ := List.map_eq_cons_iff.1 h
  obtain ⟨d3, ds, rfl, e3, h⟩ := List.map_eq_cons_iff.1 h
  obtain ⟨d4, ds, rfl, e4, h⟩ := List.map_eq_cons_iff.1 h
  obtain ⟨d5, ds, rfl, e5, h⟩ := List.map_eq_cons_iff.1 h
  obtain rfl := List.map_eq_nil_iff.1 h
  obtain ⟨y0, rfl⟩ := kd_sl e0
  obtain ⟨y1, rfl⟩ := kd_sl e1
  obtain ⟨y2, rfl⟩ := kd_str e2
  obtain ⟨y3, rfl⟩ := kd_int e3
  obtain ⟨y4, rfl⟩ := kd_int e4
  obtain ⟨y5, rfl⟩ := kd_str e5
  exact ⟨⟨y0, y1, y2, y3, y4, y5⟩, rfl⟩
theorem full_TRoutine (ds : List (DV II)) (h : some [.sl 9, .sl 9, .str, .int .i64, .sl 68, .sl 54, .sl 66, .sl 73, .sl 9] = some (ds.map kd)) : ∃ x : TRoutine, row_TRoutine x = ds := by
  injection h with h
  symm at h
  obtain ⟨d0, ds, rfl, e0, h⟩ := List.map_eq_cons_iff.1 h
  obtain ⟨d1, ds, rfl, e1, h⟩ := List.map_eq_cons_iff.1 h
  obtain ⟨d2, ds, rfl, e2, h⟩ := List.map_eq_cons_iff.1 h
  obtain ⟨d3, ds, rfl, e3, h⟩ := List.map_eq_cons_iff.1 h
  obtain ⟨d4, ds, rfl, e4, h⟩ := List.map_eq_cons_iff.1 h
  obtain ⟨d5, ds, rfl, e5, h⟩ := List.map_eq_cons_iff.1 h
  obtain ⟨d6, ds, rfl, e6, h⟩ := List.map_eq_cons_iff.1 h
  obtain ⟨d7, ds, rfl, e7, h⟩ := List.map_eq_cons_iff.1 h
  obtain ⟨d8, ds, rfl, e8, h⟩ := List.map_eq_cons_iff.1 h
  obtain rfl := List.map_eq_nil_iff.1 h
  obtain ⟨y0, rfl⟩ := kd_sl e0
  obtain ⟨y1, rfl⟩ := kd_sl e1
  obtain ⟨y2, rfl⟩ := kd_str e2
  obtain ⟨y3, rfl⟩ := kd_int e3
  obtain ⟨y4, rfl⟩ := kd_sl e4
  obtain ⟨y5, rfl⟩ := kd_sl e5
  obtain ⟨y6, rfl⟩ := kd_sl e6
  obtain ⟨y7, rfl⟩ := kd_sl e7
  obtain ⟨y8, rfl⟩ := kd_sl e8
  exact ⟨⟨y0, y1, y2, y3, y4, y5, y6, y7, y8⟩, rfl⟩
theorem full_TParam (ds : List (DV II)) (h : some [.str, .int .i64, .int .i64, .str, .int .i64] = some (ds.map kd)) : ∃ x : TParam, row_TParam x = ds := by
  injection h with h
  symm at h
  obtain ⟨d0, ds, rfl, e0, h⟩ := List.map_eq_cons_iff.1 h
  obtain ⟨d1, ds, rfl, e1, h⟩ := List.map_eq_cons_iff.1 h
  obtain ⟨d2, ds, rfl, e2, h⟩ := List.map_eq_cons_iff.1 h
  obtain ⟨d3, ds, rfl, e3, h⟩ := List.map_eq_cons_iff.1 h
  obtain ⟨d4, ds, rfl, e4, h⟩ := List.map_eq_cons_iff.1 h
  obtain rfl := List.map_eq_nil_iff.1 h
  obtain ⟨y0, rfl⟩ := kd_str e0
  obtain ⟨y1, rfl⟩ := kd_int e1
  obtain ⟨y2, rfl⟩ := kd_int e2
  obtain ⟨y3, rfl⟩ := kd_str e3
  obtain ⟨y4, rfl⟩ := kd_int e4
  exact ⟨⟨y0, y1, y2, y3, y4⟩, rfl⟩
theorem full_TExpr (ds : List (DV II)) (h : some [.int .i64, .int .i64, .str, .str, .sl 71] = some (ds.map kd)) : ∃ x : TExpr, row_TExpr x = ds := by
  injection h with h
  symm at h
  obtain ⟨d0, ds, rfl, e0, h⟩ := List.map_eq_cons_iff.1 h
  obtain ⟨d1, ds, rfl, e1, h⟩ := List.map_eq_cons_iff.1 h
  obtain ⟨d2, ds, rfl, e2, h⟩ := List.map_eq_cons_iff.1 h
  obtain ⟨d3, ds, rfl, e3, h⟩ := List.map_eq_cons_iff.1 h
  obtain ⟨d4, ds, rfl, e4, h⟩ := List.map_eq_cons_iff.1 h
  obtain rfl := List.map_eq_nil_iff.1 h
  obtain ⟨y0, rfl⟩ := kd_int e0
  obtain ⟨y1, rfl⟩ := kd_int e1
  obtain ⟨y2, rfl⟩ := kd_str e2
  obtain ⟨y3, rfl⟩ := kd_str e3
  obtain ⟨y4, rfl⟩ := kd_sl e4
  exact ⟨⟨y0, y1, y2, y3, y4⟩, rfl⟩
theorem full_TStmt (ds : List (DV II)) (h : some [.sl 9, .sl 9, .int .i64, .str, .int .i64, .int .i64, .str, .str, .sl 71, .sl 71, .bool, .bool, .sl 73, .sl 73, .sl 9, .sl 9] = some (ds.map kd)) : ∃ x : TStmt, row_TStmt x = ds := by
  injection h with h
  symm at h
  obtain ⟨d0, ds, rfl, e0, h⟩ := List.map_eq_cons_iff.1 h
  obtain ⟨d1, ds, rfl, e1, h⟩ := List.map_eq_cons_iff.1 h
  obtain ⟨d2, ds, rfl, e2, h⟩ := List.map_eq_cons_iff.1 h
  obtain ⟨d3, ds, rfl, e3, h⟩ := List.map_eq_cons_iff.1 h
  obtain ⟨d4, ds, rfl, e4, h⟩ := List.map_eq_cons_iff.1 h
  obtain ⟨d5, ds, rfl, e5, h⟩ := List.map_eq_cons_iff.1 h
  obtain ⟨d6, ds, rfl, e6, h⟩ := List.map_eq_cons_iff.1 h
  obtain ⟨d7, ds, rfl, e7, h⟩ := List.map_eq_cons_iff.1 h
  obtain ⟨d8, ds, rfl, e8, h⟩ := List.map_eq_cons_iff.1 h
  obtain ⟨d9, ds, rfl, e9, h⟩ := List.map_eq_cons_iff.1 h
  obtain ⟨d10, ds, rfl, e10, h⟩ := List.map_eq_cons_iff.1 h
  obtain ⟨d11, ds, rfl, e11, h⟩ := List.map_eq_cons_iff.1 h
  obtain ⟨d12, ds, rfl, e12, h⟩ := List.map_eq_cons_iff.1 h
  obtain ⟨d13, ds, rfl, e13, h⟩ := List.map_eq_cons_iff.1 h
  obtain ⟨d14, ds, rfl, e14, h⟩ := List.map_eq_cons_iff.1 h
  obtain ⟨d15, ds, rfl, e15, h⟩ := List.map_eq_cons_iff.1 h
  obtain rfl := List.map_eq_nil_iff.1 h
  obtain ⟨y0, rfl⟩ := kd_sl e0
  obtain ⟨y1, rfl⟩ := kd_sl e1
  obtain ⟨y2, rfl⟩ := kd_int e2
  obtain ⟨y3, rfl⟩ := kd_str e3
  obtain ⟨y4, rfl⟩ := kd_int e4
  obtain ⟨y5, rfl⟩ := kd_int e5
  obtain ⟨y6, rfl⟩ := kd_str e6
  obtain ⟨y7, rfl⟩ := kd_str e7
  obtain ⟨y8, rfl⟩ := kd_sl e8
  obtain ⟨y9, rfl⟩ := kd_sl e9
  obtain ⟨y10, rfl⟩ := kd_bool e10
  obtain ⟨y11, rfl⟩ := kd_bool e11
  obtain ⟨y12, rfl⟩ := kd_sl e12
  obtain ⟨y13, rfl⟩ := kd_sl e13
  obtain ⟨y14, rfl⟩ := kd_sl e14
  obtain ⟨y15, rfl⟩ := kd_sl e15
  exact ⟨⟨y0, y1, y2, y3, y4, y5, y6, y7, y8, y9, y10, y11, y12, y13, y14, y15⟩, rfl⟩
theorem bkk_v9 : bkk 9 = bk_v9 := rfl
theorem bkk_TField : bkk 46 = bk_TField := rfl
theorem bkk_TVar : bkk 54 = bk_TVar := rfl
theorem bkk_TRoutine : bkk 66 = bk_TRoutine := rfl
theorem bkk_TParam : bkk 68 = bk_TParam := rfl
theorem bkk_TExpr : bkk 71 = bk_TExpr := rfl
theorem bkk_TStmt : bkk 73 = bk_TStmt := rfl
theorem meas (E : Env II) (h1 : E.ty = tyy) (h2 : E.row = roww) {H : Type} (ub : DataW H → Nat) (nil : 1 ≤ ub .nil) (lit : ∀ l, 1 ≤ ub (.lit l)) (str : ∀ l, l.length + 1 ≤ ub (.lit (.string l))) (sl : ∀ a b, (a.map ub).sum + 1 ≤ ub (.slice a b)) (agg : ∀ a, (a.map ub).sum + 1 ≤ ub (.agg a)) : Meas E ftt bkk ub rowsL where
  contig t ti ht := by
    rw [h1] at ht ⊢
    exact List.all_eq_true.1 (show (tyL.all (contigOk tyy)) = true by kernel_rfl) (t, ti) (tyOf_mem tyL t ti ht)
  rowsIn t ti e ht hs hk := by
    rw [h1] at ht hk
    have := List.all_eq_true.1 (show (tyL.all fun p => match p.2.td with | .slice e => rowsL.contains e | _ => true) = true by kernel_rfl) (t, ti) (tyOf_mem tyL t ti ht)
    rw [hs] at this
    simpa using this
  rowsK e he := by
    rw [h1]
    have := List.all_eq_true.1 (show (rowsL.all fun e => (flatK tyy 9 e).isSome) = true by kernel_rfl) e he
    exact Option.isSome_iff_exists.1 this
  full e he ds hk := by
    rw [h1] at hk
    rw [h2]
    simp only [rowsL, List.mem_cons, List.not_mem_nil, or_false] at he
    rcases he with rfl | rfl | rfl | rfl | rfl | rfl | rfl | rfl | rfl
    · exact full_v9 ds hk
    · exact full_TPair ds hk
    · exact full_TRec ds hk
    · exact full_TField ds hk
    · exact full_TVar ds hk
    · exact full_TRoutine ds hk
    · exact full_TParam ds hk
    · exact full_TExpr ds hk
    · exact full_TStmt ds hk
  q e he x hx := by
    rw [h2] at hx
    simp only [rowsL, List.mem_cons, List.not_mem_nil, or_false] at he
    rcases he with rfl | rfl | rfl | rfl | rfl | rfl | rfl | rfl | rfl
    · simp [roww, row_v9, QD, ftt, ft_v9] at hx ⊢; exact hx
    · cases x; simp [roww, row_TPair, QD, ftt, ft_TPair] at hx ⊢; exact hx
    · cases x; simp [roww, row_TRec, QD, ftt, ft_TRec, fts_v9_iff, fts_TField_iff] at hx ⊢; exact hx
    · cases x; simp [roww, row_TField, QD, ftt, ft_TField, fts_v9_iff] at hx ⊢; exact hx
    · cases x; simp [roww, row_TVar, QD, ftt, ft_TVar, fts_v9_iff] at hx ⊢; exact hx
    · cases x; simp [roww, row_TRoutine, QD, ftt, ft_TRoutine, fts_v9_iff, fts_TVar_iff, fts_TRoutine_iff, fts_TParam_iff, fts_TStmt_iff] at hx ⊢; exact hx
    · cases x; simp [roww, row_TParam, QD, ftt, ft_TParam] at hx ⊢; exact hx
    · cases x; simp [roww, row_TExpr, QD, ftt, ft_TExpr, fts_TExpr_iff] at hx ⊢; exact hx
    · cases x; simp [roww, row_TStmt, QD, ftt, ft_TStmt, fts_v9_iff, fts_TExpr_iff, fts_TStmt_iff] at hx ⊢; exact hx
  b e he x ti ht := by
    rw [h1] at ht
    rw [h2]
    simp only [rowsL, List.mem_cons, List.not_mem_nil, or_false] at he
    rcases he with rfl | rfl | rfl | rfl | rfl | rfl | rfl | rfl | rfl
    · have : tyy 9 = some _ := rfl
      rw [this] at ht; injection ht with ht; subst ht
      simp [roww, row_v9, bkD, bkk, bk_v9]
    · have : tyy 36 = some _ := rfl
      rw [this] at ht; injection ht with ht; subst ht
      cases x; simp [roww, row_TPair, bkD, bkk, bk_TPair]
    · have : tyy 44 = some _ := rfl
      rw [this] at ht; injection ht with ht; subst ht
      cases x; simp [roww, row_TRec, bkD, bkk, bk_TRec, bks_v9_eq, bkk_v9, bks_TField_eq, bkk_TField]
    · have : tyy 46 = some _ := rfl
      rw [this] at ht; injection ht with ht; subst ht
      cases x; simp [roww, row_TField, bkD, bkk, bk_TField, bks_v9_eq, bkk_v9]
    · have : tyy 54 = some _ := rfl
      rw [this] at ht; injection ht with ht; subst ht
      cases x; simp [roww, row_TVar, bkD, bkk, bk_TVar, bks_v9_eq, bkk_v9]
    · have : tyy 66 = some _ := rfl
      rw [this] at ht; injection ht with ht; subst ht
      cases x; simp [roww, row_TRoutine, bkD, bkk, bk_TRoutine, bks_v9_eq, bkk_v9, bks_TVar_eq, bkk_TVar, bks_TRoutine_eq, bkk_TRoutine, bks_TParam_eq, bkk_TParam, bks_TStmt_eq, bkk_TStmt]
    · have : tyy 68 = some _ := rfl
      rw [this] at ht; injection ht with ht; subst ht
      cases x; simp [roww, row_TParam, bkD, bkk, bk_TParam]
    · have : tyy 71 = some _ := rfl
      rw [this] at ht; injection ht with ht; subst ht
      cases x; simp [roww, row_TExpr, bkD, bkk, bk_TExpr, bks_TExpr_eq, bkk_TExpr]
    · have : tyy 73 = some _ := rfl
      rw [this] at ht; injection ht with ht; subst ht
      cases x; simp [roww, row_TStmt, bkD, bkk, bk_TStmt, bks_v9_eq, bkk_v9, bks_TExpr_eq, bkk_TExpr, bks_TStmt_eq, bkk_TStmt]
  nil := nil
  lit := lit
  str := str
  sl := sl
  agg := agg
end Go.Ev
end
section
open Go
namespace Go.Ev
set_option maxRecDepth 100000
set_option linter.unusedVariables false
variable {h : Fam}
noncomputable def dc (p : Prop) : Bool := @decide p (Classical.propDecidable p)
theorem dc_iff (p : Prop) : dc p = true ↔ p := by unfold dc; exact @decide_eq_true_iff p (Classical.propDecidable p)
theorem dc_true {p : Prop} (h : p) : dc p = true := (dc_iff p).2 h
theorem dc_false {p : Prop} (h : ¬ p) : dc p = false := by
  cases hd : dc p with
  | false => rfl
  | true => exact absurd ((dc_iff p).1 hd) h
theorem dc_dec (p : Prop) [Decidable p] : dc p = decide p := by
  by_cases h : p
  · rw [dc_true h, decide_eq_true h]
  · rw [dc_false h, decide_eq_false h]
theorem ba_dc (a b : ByteArray) : (a.toList == b.toList) = dc (a = b) := by rw [ba_beq, ← dc_dec]
end Go.Ev
end
section
open Go
namespace Go.Ev
set_option maxRecDepth 100000
set_option maxHeartbeats 4000000
set_option linter.unusedVariables false
set_option linter.unusedSimpArgs false
variable (h : Fam)
theorem len_sum {α : Type} (f : α → Nat) (hf : ∀ x, 1 ≤ f x) : ∀ l : List α, l.length ≤ (l.map f).sum
  | [] => Nat.le_refl _
  | x :: l => by
    have := hf x; have := len_sum f hf l
    simp only [List.length_cons, List.map_cons, List.sum_cons]; omega
theorem mem_sum {α : Type} (f : α → Nat) : ∀ (l : List α) (i : Nat) (hi : i < l.length), f l[i] ≤ (l.map f).sum
  | [], i, hi => by simp at hi
  | x :: l, 0, hi => by simp
  | x :: l, i + 1, hi => by
    have := mem_sum f l i (by simpa using hi)
    simp only [List.getElem_cons_succ, List.map_cons, List.sum_cons]; omega
theorem bk_Expr_pos (x : TExpr) : 1 ≤ bk_TExpr x := by cases x; simp [bk_TExpr]; 
theorem bks_Expr_len (l : List TExpr) : l.length ≤ bks_TExpr l := by rw [bks_TExpr_eq]; exact len_sum _ bk_Expr_pos l
theorem bks_Expr_mem (l : List TExpr) (i : Nat) (hi : i < l.length) : bk_TExpr l[i] ≤ bks_TExpr l := by rw [bks_TExpr_eq]; exact mem_sum _ l i hi
end Go.Ev
end
section
open Go
namespace Go.Ev
set_option maxRecDepth 100000
set_option maxHeartbeats 4000000
set_option linter.unusedVariables false
set_option linter.unusedSimpArgs false
variable (h : Fam)
theorem getD_at {α : Type} (l : List α) (i : Nat) (d : α) (hi : i < l.length) : l.getD (i : Int).toNat d = l[i] := by
  simp [List.getD_eq_getElem?_getD, List.getElem?_eq_getElem hi]
theorem bk_v9_pos (x : ByteArray) : 1 ≤ bk_v9 x := by simp [bk_v9]
theorem bks_v9_len (l : List ByteArray) : l.length ≤ bks_v9 l := by rw [bks_v9_eq]; exact len_sum _ bk_v9_pos l
theorem bk_Stmt_pos (x : TStmt) : 1 ≤ bk_TStmt x := by cases x; simp [bk_TStmt]
theorem bks_Stmt_len (l : List TStmt) : l.length ≤ bks_TStmt l := by rw [bks_TStmt_eq]; exact len_sum _ bk_Stmt_pos l
theorem bks_Stmt_mem (l : List TStmt) (i : Nat) (hi : i < l.length) : bk_TStmt l[i] ≤ bks_TStmt l := by rw [bks_TStmt_eq]; exact mem_sum _ l i hi
end Go.Ev
end

/- A part of the proof of RenameTablesUpto (what the names of any program become in a dialect is what the document says; all else stays, and so does what was handed in): a reckoner of the code over data, shown right, and what it gives; conditions stand with each theorem. -/
import Derived.Test.YtlepjafokfhnfaaGreatDoorA1
import Derived.Shelf.Strings.Builder1
import Derived.Shelf.Strings.Builder2
import Derived.Shelf.Strings.OnBuilder
import Derived.Shelf.Strings.BuilderF
import Derived.Shelf.Strings.BuilderK
import Derived.Shelf.Utf8.RuneCount
import Derived.Shelf.Strconv.Itoa0
import Derived.Shelf.Strconv.Itoa1
import Derived.Shelf.LaysM
import Derived.Shelf.Strconv.Itoa2
import Derived.Shelf.Strconv.Itoa3
import Derived.Shelf.Strings.Search1
import Derived.Shelf.Strings.Search2
import Derived.Shelf.Strings.Search3
import Derived.Shelf.Strings.Count
import Derived.Shelf.Strings.Shaped
import Derived.Shelf.Strings.Split
import Derived.Shelf.Strings.Fields
import Derived.Shelf.Strings.SplitShaped
import Derived.Shelf.Unicode.Latin
import Derived.Shelf.Unicode.Decode
import Derived.Shelf.Strings.RuneCount
import Derived.Shelf.Strings.Explode
import Derived.Shelf.Unicode.DecodeSlow
import Derived.Shelf.Unicode.DecodeAny
import Derived.Shelf.Unicode.Is16White
import Derived.Shelf.Unicode.IsSpaceAny
import Derived.Shelf.Unicode.Is16WhiteD
import Derived.Shelf.Unicode.IsSpaceAnyD
import Derived.Shelf.Strings.FieldsAny
import Derived.Shelf.Strings.FieldsFuncAny
import Derived.Shelf.Unicode.Is16Any
import Derived.Shelf.Unicode.Is32Any
import Derived.Shelf.Unicode.ExclAny
import Derived.Ground.Names2Prog
import Derived.Shelf.Slices.Clone
import Derived.Ground.SlgnProg
import Derived.Shelf.SlicesE.Clone
import Derived.Test.YtlepjafokfhnfaaGreatDoorProg
import Derived.Maps.OwnSet
import Derived.Maps.Keyed
import Derived.StringKeys
import Derived.Lib.SplitLaws
import Derived.IntWalk
import Derived.ChangeArms
import Derived.ChangeSame
import Derived.DataReads
import Derived.DataElems
import Derived.ProofKit
section
/-
  DERIVED: THE SHELF's CONTRACTS AT THIS DUMP, IN PLAIN WORDS (tools/lay-plain.mjs out of 'TryzShelf.lean', which tools/lay-shelf.mjs wrote): THE SAME DECLARATIONS UNDER THE SAME NAMES: 'import', 'namespace', 'open', 'def', 'theorem' AND NOTHING ELSE: no command of the shelf's: FOR A HAND-IN. Each laying: the table of numbers ('.._ren') and one theorem, a field a fact of the dump's own or the kernel's comparison; each contract: ONE APPLICATION.
-/
namespace Go.Proofs
open Go.Shelf
def Tryz.lays156_ren : Go.Shelf.Ren := ⟨fun | 156 => 96 | 165 => 113 | 166 => 114 | 169 => 115 | 240 => 125 | 241 => 126 | 276 => 138 | 277 => 139 | n => n, fun | 31 => 22 | 9 => 9 | 3 => 3 | 4 => 4 | 0 => 0 | 20 => 20 | 72 => 167 | 76 => 170 | 70 => 164 | 37 => 165 | 75 => 169 | 127 => 186 | 164 => 207 | 5 => 5 | 80 => 172 | n => n, fun | n => n⟩
theorem Tryz.lays156 : Go.Proofs.Lays.n156 Tryz.prog Tryz.lays156_ren := {
  mixed := by kernel_rfl
  f156 := Tryz.func96.trans (congrArg some (by kernel_rfl))
  f165 := Tryz.func113.trans (congrArg some (by kernel_rfl))
  f166 := Tryz.func114.trans (congrArg some (by kernel_rfl))
  f169 := Tryz.func115.trans (congrArg some (by kernel_rfl))
  f240 := Tryz.func125.trans (congrArg some (by kernel_rfl))
  f241 := Tryz.func126.trans (congrArg some (by kernel_rfl))
  f276 := Tryz.func138.trans (congrArg some (by kernel_rfl))
  f277 := Tryz.func139.trans (congrArg some (by kernel_rfl))
  t0 := Tryz.underlying0
  a0 := Tryz.isAgg0
  z0 := Tryz.sizeOf0
  v0 := Tryz.zeroValue0
  t3 := Tryz.underlying3
  a3 := Tryz.isAgg3
  z3 := Tryz.sizeOf3
  v3 := Tryz.zeroValue3
  t4 := Tryz.underlying4
  a4 := Tryz.isAgg4
  z4 := Tryz.sizeOf4
  v4 := Tryz.zeroValue4
  t9 := Tryz.underlying9
  a9 := Tryz.isAgg9
  z9 := Tryz.sizeOf9
  v9 := Tryz.zeroValue9
  t20 := Tryz.underlying20
  a20 := Tryz.isAgg20
  z20 := Tryz.sizeOf20
  v20 := Tryz.zeroValue20
  t31 := Tryz.underlying22
  a31 := Tryz.isAgg22
  z31 := Tryz.sizeOf22
  v31 := Tryz.zeroValue22
  t37 := Tryz.underlying165
  a37 := Tryz.isAgg165
  z37 := Tryz.sizeOf165
  v37 := Tryz.zeroValue165
  t70 := Tryz.underlying164
  a70 := Tryz.isAgg164
  z70 := Tryz.sizeOf164
  v70 := Tryz.zeroValue164
  t72 := Tryz.underlying167
  a72 := Tryz.isAgg167
  z72 := Tryz.sizeOf167
  v72 := Tryz.zeroValue167
  t75 := Tryz.underlying169
  a75 := Tryz.isAgg169
  z75 := Tryz.sizeOf169
  v75 := Tryz.zeroValue169
  t76 := Tryz.underlying170
  a76 := Tryz.isAgg170
  z76 := Tryz.sizeOf170
  v76 := Tryz.zeroValue170
  t127 := Tryz.underlying186
  a127 := Tryz.isAgg186
  z127 := Tryz.sizeOf186
  v127 := Tryz.zeroValue186
  t164 := Tryz.underlying207
  a164 := Tryz.isAgg207
  z164 := Tryz.sizeOf207
  v164 := Tryz.zeroValue207 }
theorem Tryz.Builder_Extra_156 : Builder.Extra Tryz.prog Tryz.lays156_ren := {
  sizeBuilder := by kernel_rfl
  liesBuilder := by kernel_rfl
  t5 := Tryz.underlying5
  a5 := Tryz.isAgg5
  z5 := Tryz.sizeOf5
  v5 := Tryz.zeroValue5
  infoByte := by kernel_rfl
  cellsByte := by kernel_rfl
  sizeByte := by kernel_rfl
  neB5 := by decide }
open Go.RowKit in
theorem Tryz.strings_Join (bk o c : Nat) (xs : List ByteArray) (sep : ByteArray) (w : World) (hcells : ∀ (j : Nat) x, xs[j]? = some x → w.cell? ⟨bk, o + j, none⟩ = some (.string x)) (hbk : bk < w.heap.size) (hN : xs.length ≤ 140737488355328) (hcap : xs.length ≤ c) (hlen : (Lib.join (xs.map (·.data.toList)) sep.data.toList).length ≤ 140737488355328) :
    Calls Tryz.prog 96 #[.slice (some ⟨bk, o, none⟩) xs.length c, .string sep] w fun e w' => e = .returned (.string ⟨(Lib.join (xs.map (·.data.toList)) sep.data.toList).toArray⟩) ∧ Below w.heap.size w w' := Any.strings_Join Tryz.lays156 Tryz.Builder_Extra_156 bk o c xs sep w hcells hbk hN hcap hlen
def Tryz.laysM246_ren : Go.Shelf.Ren := ⟨fun | 246 => 109 | 283 => 118 | 284 => 119 | 285 => 120 | 286 => 121 | 129 => 130 | 317 => 129 | 318 => 131 | 319 => 132 | 320 => 133 | 337 => 140 | 338 => 141 | n => n, fun | 2 => 2 | 3 => 3 | 9 => 9 | 4 => 4 | 171 => 179 | 0 => 0 | 53 => 139 | 37 => 165 | 5 => 5 | 173 => 182 | 212 => 200 | 51 => 176 | 20 => 20 | 213 => 201 | 46 => 157 | 232 => 213 | 233 => 214 | n => n, fun | 17 => 2 | 18 => 4 | 19 => 5 | n => n⟩
def Tryz.laysM243_ren : Go.Shelf.Ren := ⟨fun | 243 => 87 | 246 => 109 | 283 => 118 | 284 => 119 | 285 => 120 | 286 => 121 | 129 => 130 | 317 => 129 | 318 => 131 | 319 => 132 | 320 => 133 | 337 => 140 | 338 => 141 | n => n, fun | 3 => 3 | 9 => 9 | 2 => 2 | 4 => 4 | 171 => 179 | 0 => 0 | 53 => 139 | 37 => 165 | 5 => 5 | 173 => 182 | 212 => 200 | 51 => 176 | 20 => 20 | 213 => 201 | 46 => 157 | 232 => 213 | 233 => 214 | n => n, fun | 17 => 2 | 18 => 4 | 19 => 5 | n => n⟩
def Tryz.laysM171_ren : Go.Shelf.Ren := ⟨fun | 171 => 54 | 243 => 87 | 246 => 109 | 283 => 118 | 284 => 119 | 285 => 120 | 286 => 121 | 129 => 130 | 317 => 129 | 318 => 131 | 319 => 132 | 320 => 133 | 337 => 140 | 338 => 141 | n => n, fun | 3 => 3 | 9 => 9 | 2 => 2 | 4 => 4 | 171 => 179 | 0 => 0 | 53 => 139 | 37 => 165 | 5 => 5 | 173 => 182 | 212 => 200 | 51 => 176 | 20 => 20 | 213 => 201 | 46 => 157 | 232 => 213 | 233 => 214 | n => n, fun | 17 => 2 | 18 => 4 | 19 => 5 | n => n⟩
theorem Tryz.laysM171 : Go.Proofs.LaysM.n171 Tryz.prog Tryz.laysM171_ren := {
  mixed := by kernel_rfl
  f129 := Tryz.func130.trans (congrArg some (by kernel_rfl))
  f171 := Tryz.func54.trans (congrArg some (by kernel_rfl))
  f243 := Tryz.func87.trans (congrArg some (by kernel_rfl))
  f246 := Tryz.func109.trans (congrArg some (by kernel_rfl))
  f283 := Tryz.func118.trans (congrArg some (by kernel_rfl))
  f284 := Tryz.func119.trans (congrArg some (by kernel_rfl))
  f285 := Tryz.func120.trans (congrArg some (by kernel_rfl))
  f286 := Tryz.func121.trans (congrArg some (by kernel_rfl))
  f317 := Tryz.func129.trans (congrArg some (by kernel_rfl))
  f318 := Tryz.func131.trans (congrArg some (by kernel_rfl))
  f319 := Tryz.func132.trans (congrArg some (by kernel_rfl))
  f320 := Tryz.func133.trans (congrArg some (by kernel_rfl))
  f337 := Tryz.func140.trans (congrArg some (by kernel_rfl))
  f338 := Tryz.func141.trans (congrArg some (by kernel_rfl))
  t0 := Tryz.underlying0
  a0 := Tryz.isAgg0
  z0 := Tryz.sizeOf0
  v0 := Tryz.zeroValue0
  t2 := Tryz.underlying2
  a2 := Tryz.isAgg2
  z2 := Tryz.sizeOf2
  v2 := Tryz.zeroValue2
  t3 := Tryz.underlying3
  a3 := Tryz.isAgg3
  z3 := Tryz.sizeOf3
  v3 := Tryz.zeroValue3
  t4 := Tryz.underlying4
  a4 := Tryz.isAgg4
  z4 := Tryz.sizeOf4
  v4 := Tryz.zeroValue4
  t5 := Tryz.underlying5
  a5 := Tryz.isAgg5
  z5 := Tryz.sizeOf5
  v5 := Tryz.zeroValue5
  t9 := Tryz.underlying9
  a9 := Tryz.isAgg9
  z9 := Tryz.sizeOf9
  v9 := Tryz.zeroValue9
  t20 := Tryz.underlying20
  a20 := Tryz.isAgg20
  z20 := Tryz.sizeOf20
  v20 := Tryz.zeroValue20
  t37 := Tryz.underlying165
  a37 := Tryz.isAgg165
  z37 := Tryz.sizeOf165
  v37 := Tryz.zeroValue165
  t46 := Tryz.underlying157
  a46 := Tryz.isAgg157
  z46 := Tryz.sizeOf157
  v46 := Tryz.zeroValue157
  t51 := Tryz.underlying176
  a51 := Tryz.isAgg176
  z51 := Tryz.sizeOf176
  v51 := Tryz.zeroValue176
  t53 := Tryz.underlying139
  a53 := Tryz.isAgg139
  z53 := Tryz.sizeOf139
  v53 := Tryz.zeroValue139
  t171 := Tryz.underlying179
  a171 := Tryz.isAgg179
  z171 := Tryz.sizeOf179
  v171 := Tryz.zeroValue179
  t173 := Tryz.underlying182
  a173 := Tryz.isAgg182
  z173 := Tryz.sizeOf182
  v173 := Tryz.zeroValue182
  t212 := Tryz.underlying200
  a212 := Tryz.isAgg200
  z212 := Tryz.sizeOf200
  v212 := Tryz.zeroValue200
  t213 := Tryz.underlying201
  a213 := Tryz.isAgg201
  z213 := Tryz.sizeOf201
  t232 := Tryz.underlying213
  a232 := Tryz.isAgg213
  z232 := Tryz.sizeOf213
  v232 := Tryz.zeroValue213
  t233 := Tryz.underlying214
  a233 := Tryz.isAgg214
  z233 := Tryz.sizeOf214
  v233 := Tryz.zeroValue214
  g17 := by kernel_rfl
  g18 := by kernel_rfl
  g19 := by kernel_rfl
  i0 := by kernel_rfl
  i2 := by kernel_rfl
  i3 := by kernel_rfl
  i4 := by kernel_rfl
  i5 := by kernel_rfl
  i9 := by kernel_rfl
  i20 := by kernel_rfl
  i37 := by kernel_rfl
  i46 := by kernel_rfl
  i51 := by kernel_rfl
  i53 := by kernel_rfl
  i171 := by kernel_rfl
  i173 := by kernel_rfl
  i212 := by kernel_rfl
  i232 := by kernel_rfl
  i233 := by kernel_rfl
  m17 := by kernel_rfl
  m18 := by kernel_rfl
  m19 := by kernel_rfl }
open Go.RowKit Go.Sort Go.Lib in
theorem Tryz.strconv_Itoa (n : Int) (h0 : -9223372036854775808 ≤ n) (h1 : n ≤ 9223372036854775807) (w : World) (htab : Lib.TabIs Tryz.prog w "internal/strconv.uint64pow10" .u64 Lib.pow10Tab) :
    Calls Tryz.prog 54 #[.int .i64 n] w fun e w' => e = .returned (.string ⟨(Lib.itoa n).toArray⟩) ∧ ∃ k os, w' = grow (w.drewN k) os := Any.strconv_Itoa Tryz.laysM171 n h0 h1 w htab
def Tryz.lays221_ren : Go.Shelf.Ren := ⟨fun | 221 => 112 | 268 => 122 | 138 => 123 | 143 => 124 | 195 => 134 | 197 => 135 | 218 => 136 | 219 => 137 | 260 => 142 | 217 => 143 | 225 => 144 | 224 => 145 | 267 => 146 | 266 => 147 | 314 => 148 | n => n, fun | 9 => 9 | 3 => 3 | 31 => 22 | 4 => 4 | 0 => 0 | 105 => 204 | 21 => 21 | 5 => 5 | 46 => 157 | 119 => 154 | 139 => 217 | 138 => 216 | 146 => 218 | 51 => 176 | n => n, fun | 1 => 3 | 3 => 6 | 4 => 7 | n => n⟩
def Tryz.lays146_ren : Go.Shelf.Ren := ⟨fun | 146 => 95 | 221 => 112 | 268 => 122 | 138 => 123 | 143 => 124 | 195 => 134 | 197 => 135 | 218 => 136 | 219 => 137 | 260 => 142 | 217 => 143 | 225 => 144 | 224 => 145 | 267 => 146 | 266 => 147 | 314 => 148 | n => n, fun | 9 => 9 | 31 => 22 | 3 => 3 | 4 => 4 | 0 => 0 | 105 => 204 | 21 => 21 | 5 => 5 | 46 => 157 | 119 => 154 | 139 => 217 | 138 => 216 | 146 => 218 | 51 => 176 | n => n, fun | 1 => 3 | 3 => 6 | 4 => 7 | n => n⟩
theorem Tryz.lays146 : Go.Proofs.Lays.n146 Tryz.prog Tryz.lays146_ren := {
  mixed := by kernel_rfl
  f138 := Tryz.func123.trans (congrArg some (by kernel_rfl))
  f143 := Tryz.func124.trans (congrArg some (by kernel_rfl))
  f146 := Tryz.func95.trans (congrArg some (by kernel_rfl))
  f195 := Tryz.func134.trans (congrArg some (by kernel_rfl))
  f197 := Tryz.func135.trans (congrArg some (by kernel_rfl))
  f217 := Tryz.func143.trans (congrArg some (by kernel_rfl))
  f218 := Tryz.func136.trans (congrArg some (by kernel_rfl))
  f219 := Tryz.func137.trans (congrArg some (by kernel_rfl))
  f221 := Tryz.func112.trans (congrArg some (by kernel_rfl))
  f224 := Tryz.func145.trans (congrArg some (by kernel_rfl))
  f225 := Tryz.func144.trans (congrArg some (by kernel_rfl))
  f260 := Tryz.func142.trans (congrArg some (by kernel_rfl))
  f266 := Tryz.func147.trans (congrArg some (by kernel_rfl))
  f267 := Tryz.func146.trans (congrArg some (by kernel_rfl))
  f268 := Tryz.func122.trans (congrArg some (by kernel_rfl))
  f314 := Tryz.func148.trans (congrArg some (by kernel_rfl))
  t0 := Tryz.underlying0
  a0 := Tryz.isAgg0
  z0 := Tryz.sizeOf0
  v0 := Tryz.zeroValue0
  t3 := Tryz.underlying3
  a3 := Tryz.isAgg3
  z3 := Tryz.sizeOf3
  v3 := Tryz.zeroValue3
  t4 := Tryz.underlying4
  a4 := Tryz.isAgg4
  z4 := Tryz.sizeOf4
  v4 := Tryz.zeroValue4
  t5 := Tryz.underlying5
  a5 := Tryz.isAgg5
  z5 := Tryz.sizeOf5
  v5 := Tryz.zeroValue5
  t9 := Tryz.underlying9
  a9 := Tryz.isAgg9
  z9 := Tryz.sizeOf9
  v9 := Tryz.zeroValue9
  t21 := Tryz.underlying21
  a21 := Tryz.isAgg21
  z21 := Tryz.sizeOf21
  v21 := Tryz.zeroValue21
  t31 := Tryz.underlying22
  a31 := Tryz.isAgg22
  z31 := Tryz.sizeOf22
  v31 := Tryz.zeroValue22
  t46 := Tryz.underlying157
  a46 := Tryz.isAgg157
  z46 := Tryz.sizeOf157
  v46 := Tryz.zeroValue157
  t51 := Tryz.underlying176
  a51 := Tryz.isAgg176
  z51 := Tryz.sizeOf176
  v51 := Tryz.zeroValue176
  t105 := Tryz.underlying204
  a105 := Tryz.isAgg204
  z105 := Tryz.sizeOf204
  v105 := Tryz.zeroValue204
  t119 := Tryz.underlying154
  a119 := Tryz.isAgg154
  z119 := Tryz.sizeOf154
  t138 := Tryz.underlying216
  a138 := Tryz.isAgg216
  z138 := Tryz.sizeOf216
  v138 := Tryz.zeroValue216
  t139 := Tryz.underlying217
  a139 := Tryz.isAgg217
  z139 := Tryz.sizeOf217
  v139 := Tryz.zeroValue217
  t146 := Tryz.underlying218
  a146 := Tryz.isAgg218
  z146 := Tryz.sizeOf218
  v146 := Tryz.zeroValue218
  g1 := by kernel_rfl
  g3 := by kernel_rfl
  g4 := by kernel_rfl }
open Go.RowKit Go.Lib in
theorem Tryz.strings_Split (s sep : ByteArray) (m : Int) (w : World) (hs : s.size < 4294967281) (hm : w.cell? ⟨3, 0, none⟩ = some (.int .i64 m)) (h1 : 1 ≤ sep.size) :
    Calls Tryz.prog 95 #[.string s, .string sep] w fun e w' =>
      e = .returned (.slice (some ⟨w.heap.size, 0, none⟩) (Lib.countB s sep + 1) (Lib.countB s sep + 1)) ∧ w' = w.alloc (.cells ((Lib.splitB sep 0 (Lib.countB s sep) s).map Value.string).toArray 9) := Any.strings_Split Tryz.lays146 (by kernel_rfl) s sep m w hs hm h1
def Tryz.lays157_ren : Go.Shelf.Ren := ⟨fun | 157 => 84 | 229 => 105 | 199 => 106 | 261 => 116 | 311 => 127 | 312 => 128 | n => n, fun | 9 => 9 | 31 => 22 | 3 => 3 | 5 => 5 | 4 => 4 | 119 => 154 | 0 => 0 | 40 => 156 | 152 => 173 | 21 => 21 | 154 => 175 | 51 => 176 | 141 => 178 | 196 => 190 | 193 => 187 | 198 => 193 | 49 => 191 | 194 => 188 | 201 => 196 | 226 => 210 | 46 => 157 | 227 => 211 | n => n, fun | 0 => 0 | 6 => 1 | n => n⟩
theorem Tryz.lays157 : Go.Proofs.Lays.n157 Tryz.prog Tryz.lays157_ren := {
  mixed := by kernel_rfl
  f157 := Tryz.func84.trans (congrArg some (by kernel_rfl))
  f199 := Tryz.func106.trans (congrArg some (by kernel_rfl))
  f229 := Tryz.func105.trans (congrArg some (by kernel_rfl))
  f261 := Tryz.func116.trans (congrArg some (by kernel_rfl))
  f311 := Tryz.func127.trans (congrArg some (by kernel_rfl))
  f312 := Tryz.func128.trans (congrArg some (by kernel_rfl))
  t0 := Tryz.underlying0
  a0 := Tryz.isAgg0
  z0 := Tryz.sizeOf0
  v0 := Tryz.zeroValue0
  t3 := Tryz.underlying3
  a3 := Tryz.isAgg3
  z3 := Tryz.sizeOf3
  v3 := Tryz.zeroValue3
  t4 := Tryz.underlying4
  a4 := Tryz.isAgg4
  z4 := Tryz.sizeOf4
  v4 := Tryz.zeroValue4
  t5 := Tryz.underlying5
  a5 := Tryz.isAgg5
  z5 := Tryz.sizeOf5
  v5 := Tryz.zeroValue5
  t9 := Tryz.underlying9
  a9 := Tryz.isAgg9
  z9 := Tryz.sizeOf9
  v9 := Tryz.zeroValue9
  t21 := Tryz.underlying21
  a21 := Tryz.isAgg21
  z21 := Tryz.sizeOf21
  v21 := Tryz.zeroValue21
  t31 := Tryz.underlying22
  a31 := Tryz.isAgg22
  z31 := Tryz.sizeOf22
  v31 := Tryz.zeroValue22
  t40 := Tryz.underlying156
  a40 := Tryz.isAgg156
  z40 := Tryz.sizeOf156
  v40 := Tryz.zeroValue156
  t46 := Tryz.underlying157
  a46 := Tryz.isAgg157
  z46 := Tryz.sizeOf157
  v46 := Tryz.zeroValue157
  t49 := Tryz.underlying191
  a49 := Tryz.isAgg191
  z49 := Tryz.sizeOf191
  v49 := Tryz.zeroValue191
  t51 := Tryz.underlying176
  a51 := Tryz.isAgg176
  z51 := Tryz.sizeOf176
  v51 := Tryz.zeroValue176
  t119 := Tryz.underlying154
  a119 := Tryz.isAgg154
  z119 := Tryz.sizeOf154
  t141 := Tryz.underlying178
  a141 := Tryz.isAgg178
  z141 := Tryz.sizeOf178
  v141 := Tryz.zeroValue178
  t152 := Tryz.underlying173
  a152 := Tryz.isAgg173
  z152 := Tryz.sizeOf173
  v152 := Tryz.zeroValue173
  t154 := Tryz.underlying175
  a154 := Tryz.isAgg175
  z154 := Tryz.sizeOf175
  v154 := Tryz.zeroValue175
  t193 := Tryz.underlying187
  a193 := Tryz.isAgg187
  z193 := Tryz.sizeOf187
  v193 := Tryz.zeroValue187
  t194 := Tryz.underlying188
  a194 := Tryz.isAgg188
  z194 := Tryz.sizeOf188
  v194 := Tryz.zeroValue188
  t196 := Tryz.underlying190
  a196 := Tryz.isAgg190
  z196 := Tryz.sizeOf190
  v196 := Tryz.zeroValue190
  t198 := Tryz.underlying193
  a198 := Tryz.isAgg193
  z198 := Tryz.sizeOf193
  v198 := Tryz.zeroValue193
  t201 := Tryz.underlying196
  a201 := Tryz.isAgg196
  z201 := Tryz.sizeOf196
  v201 := Tryz.zeroValue196
  t226 := Tryz.underlying210
  a226 := Tryz.isAgg210
  z226 := Tryz.sizeOf210
  v226 := Tryz.zeroValue210
  t227 := Tryz.underlying211
  a227 := Tryz.isAgg211
  z227 := Tryz.sizeOf211
  v227 := Tryz.zeroValue211
  g0 := by kernel_rfl
  g6 := by kernel_rfl }
open Go.RowKit Go.Lib in
theorem Tryz.strings_Fields (s : ByteArray) (w : World) (hs : s.size < 4294967281) (hascii : ∀ (j : Nat) b, s.data.toList[j]? = some b → b.toNat < 128) (htab : Lib.TabIs Tryz.prog w "strings.asciiSpace" .u8 Lib.asciiSpaceTab) :
    Calls Tryz.prog 84 #[.string s] w fun e w' =>
      e = .returned (.slice (some ⟨w.heap.size, 0, none⟩) (Lib.fields s.data.toList).length (Lib.fields s.data.toList).length) ∧ w' = w.alloc (.cells ((Lib.fields s.data.toList).map fun l => Value.string ⟨l.toArray⟩).toArray 9) := Any.strings_Fields Tryz.lays157 (by kernel_rfl) (by kernel_rfl) s w hs hascii htab
def Tryz.laysM146_ren : Go.Shelf.Ren := ⟨fun | 146 => 95 | 221 => 112 | 268 => 122 | 138 => 123 | 143 => 124 | 195 => 134 | 197 => 135 | 218 => 136 | 219 => 137 | 260 => 142 | 217 => 143 | 225 => 144 | 224 => 145 | 267 => 146 | 266 => 147 | 314 => 148 | n => n, fun | 9 => 9 | 31 => 22 | 3 => 3 | 4 => 4 | 0 => 0 | 105 => 204 | 21 => 21 | 5 => 5 | 46 => 157 | 119 => 154 | 139 => 217 | 138 => 216 | 146 => 218 | 51 => 176 | n => n, fun | 1 => 3 | 3 => 6 | 4 => 7 | n => n⟩
theorem Tryz.laysM146 : Go.Proofs.LaysM.n146 Tryz.prog Tryz.laysM146_ren := {
  mixed := by kernel_rfl
  f138 := Tryz.func123.trans (congrArg some (by kernel_rfl))
  f143 := Tryz.func124.trans (congrArg some (by kernel_rfl))
  f146 := Tryz.func95.trans (congrArg some (by kernel_rfl))
  f195 := Tryz.func134.trans (congrArg some (by kernel_rfl))
  f197 := Tryz.func135.trans (congrArg some (by kernel_rfl))
  f217 := Tryz.func143.trans (congrArg some (by kernel_rfl))
  f218 := Tryz.func136.trans (congrArg some (by kernel_rfl))
  f219 := Tryz.func137.trans (congrArg some (by kernel_rfl))
  f221 := Tryz.func112.trans (congrArg some (by kernel_rfl))
  f224 := Tryz.func145.trans (congrArg some (by kernel_rfl))
  f225 := Tryz.func144.trans (congrArg some (by kernel_rfl))
  f260 := Tryz.func142.trans (congrArg some (by kernel_rfl))
  f266 := Tryz.func147.trans (congrArg some (by kernel_rfl))
  f267 := Tryz.func146.trans (congrArg some (by kernel_rfl))
  f268 := Tryz.func122.trans (congrArg some (by kernel_rfl))
  f314 := Tryz.func148.trans (congrArg some (by kernel_rfl))
  t0 := Tryz.underlying0
  a0 := Tryz.isAgg0
  z0 := Tryz.sizeOf0
  v0 := Tryz.zeroValue0
  t3 := Tryz.underlying3
  a3 := Tryz.isAgg3
  z3 := Tryz.sizeOf3
  v3 := Tryz.zeroValue3
  t4 := Tryz.underlying4
  a4 := Tryz.isAgg4
  z4 := Tryz.sizeOf4
  v4 := Tryz.zeroValue4
  t5 := Tryz.underlying5
  a5 := Tryz.isAgg5
  z5 := Tryz.sizeOf5
  v5 := Tryz.zeroValue5
  t9 := Tryz.underlying9
  a9 := Tryz.isAgg9
  z9 := Tryz.sizeOf9
  v9 := Tryz.zeroValue9
  t21 := Tryz.underlying21
  a21 := Tryz.isAgg21
  z21 := Tryz.sizeOf21
  v21 := Tryz.zeroValue21
  t31 := Tryz.underlying22
  a31 := Tryz.isAgg22
  z31 := Tryz.sizeOf22
  v31 := Tryz.zeroValue22
  t46 := Tryz.underlying157
  a46 := Tryz.isAgg157
  z46 := Tryz.sizeOf157
  v46 := Tryz.zeroValue157
  t51 := Tryz.underlying176
  a51 := Tryz.isAgg176
  z51 := Tryz.sizeOf176
  v51 := Tryz.zeroValue176
  t105 := Tryz.underlying204
  a105 := Tryz.isAgg204
  z105 := Tryz.sizeOf204
  v105 := Tryz.zeroValue204
  t119 := Tryz.underlying154
  a119 := Tryz.isAgg154
  z119 := Tryz.sizeOf154
  t138 := Tryz.underlying216
  a138 := Tryz.isAgg216
  z138 := Tryz.sizeOf216
  v138 := Tryz.zeroValue216
  t139 := Tryz.underlying217
  a139 := Tryz.isAgg217
  z139 := Tryz.sizeOf217
  v139 := Tryz.zeroValue217
  t146 := Tryz.underlying218
  a146 := Tryz.isAgg218
  z146 := Tryz.sizeOf218
  v146 := Tryz.zeroValue218
  g1 := by kernel_rfl
  g3 := by kernel_rfl
  g4 := by kernel_rfl
  i0 := by kernel_rfl
  i3 := by kernel_rfl
  i4 := by kernel_rfl
  i5 := by kernel_rfl
  i9 := by kernel_rfl
  i21 := by kernel_rfl
  i31 := by kernel_rfl
  i46 := by kernel_rfl
  i51 := by kernel_rfl
  i105 := by kernel_rfl
  i138 := by kernel_rfl
  i139 := by kernel_rfl
  i146 := by kernel_rfl
  m1 := by kernel_rfl
  s1_3 := fun w h => Go.Proofs.cell_of_shapedOpen_int (zero := #[.int .i64 0]) (t := 3) h (of_decide_eq_true (by kernel_rfl)) (by kernel_rfl) rfl (by kernel_rfl) (by kernel_rfl) Tryz.underlying3
  m3 := by kernel_rfl
  m4 := by kernel_rfl }
def Tryz.laysNm216_ren : Go.Shelf.Ren := ⟨fun | 16 => 25 | n => n, fun | 24 => 22 | 9 => 9 | 4 => 4 | n => n, fun | n => n⟩
theorem Tryz.laysNm216 : Go.Proofs.Lays2.n16 Tryz.prog Tryz.laysNm216_ren := {
  mixed := by kernel_rfl
  f16 := Tryz.func25.trans (congrArg some (by kernel_rfl))
  t4 := Tryz.underlying4
  a4 := Tryz.isAgg4
  z4 := Tryz.sizeOf4
  v4 := Tryz.zeroValue4
  t9 := Tryz.underlying9
  a9 := Tryz.isAgg9
  z9 := Tryz.sizeOf9
  v9 := Tryz.zeroValue9
  t24 := Tryz.underlying22
  a24 := Tryz.isAgg22
  z24 := Tryz.sizeOf22
  v24 := Tryz.zeroValue22
  i9 := by kernel_rfl }
open Go.RowKit Go.Lib in
theorem Tryz.slices_Clone_string (b off n c : Nat) (zs : List ByteArray) (w : World) (hz : n ≤ zs.length) (hbig : n * 16 ≤ 140737488355328) (hc : ∀ j, j < zs.length → w.cell? ⟨b, off + j, none⟩ = some (.string (zs.getD j ByteArray.empty))) :
    Calls Tryz.prog 25 #[.slice (some ⟨b, off, none⟩) n c] w fun e w' => ∃ v', e = .returned v' ∧ w'.ownsRow w.heap.size 9 1 v' n ((zs.take n).map (Value.string)) ∧ v' ≠ .slice none 0 0 ∧ Below w.heap.size w w' := Any.slices_Clone_string Tryz.laysNm216 b off n c zs w hz hbig hc
open Go.RowKit Go.Lib in
theorem Tryz.slices_Clone_string_nil (n c : Nat) (w : World) :
    Calls Tryz.prog 25 #[.slice none n c] w fun e w' => e = .returned (.slice none 0 0) ∧ w' = w := Any.slices_Clone_string_nil Tryz.laysNm216 n c w
open Go.RowKit Go.Lib in
theorem Tryz.slices_Clone_string_zero (a : Addr) (c : Nat) (w : World) :
    Calls Tryz.prog 25 #[.slice (some a) 0 c] w fun e w' => ∃ v', e = .returned v' ∧ w'.ownsRow w.heap.size 9 1 v' 0 [] ∧ v' ≠ .slice none 0 0 ∧ Below w.heap.size w w' := Any.slices_Clone_string_zero Tryz.laysNm216 a c w
end Go.Proofs
end
section
open Go Go.Proofs
namespace Go.Ev
open Go.Maps Go.ChangeMaps Go.WideMaps
set_option linter.unusedVariables false
set_option linter.unusedSimpArgs false
def MapAt (w : World) (b n : Nat) (L : ByteArray → Bool) : Prop := ∃ D : DataW Unit, w.ownsMap Tryz.prog 9 (plainElem Tryz.prog 4) b n D ∧ ∀ s : ByteArray, s.size ≤ maxLen → D.atKey (.string s.data.toList) (.lit (.bool false)) = .lit (.bool (L s))
theorem MapAt.same {w w' : World} {b n : Nat} {L : ByteArray → Bool} (h : MapAt w b n L) (hb : w'.heap[b]? = w.heap[b]?) : MapAt w' b n L := by
  obtain ⟨D, ⟨es, clock, h1, h2⟩, hL⟩ := h
  exact ⟨D, ⟨es, clock, hb.trans h1, h2⟩, hL⟩
theorem owns_same {w w' : World} {B e size n : Nat} {v : Value} {xs : List Value} (h : w.ownsRow B e size v n xs) (hb : ∀ k, v.ownBlock = some k → w'.heap[k]? = w.heap[k]?) : w'.ownsRow B e size v n xs := by
  obtain ⟨h1, h2 | ⟨g, cap, cur, rfl, h3, h4, h5⟩⟩ := h
  · exact ⟨h1, .inl h2⟩
  · exact ⟨h1, .inr ⟨g, cap, cur, rfl, h3, (hb g rfl).trans h4, h5⟩⟩
def FrepT (x : II 1000003) (S : Nat → Nat → Prop) (w : World) (v : Value) (fp : List Nat) : Prop :=
  match (x : Thing) with
  | .ren l => ∃ g sv, v = .func (.func 55) #[] #[.pointer (some ⟨g, 0, none⟩)] ∧ fp = [g] ∧ w.heap[g]? = some (.cells #[sv] 32 (0, 0)) ∧ DRep EE0 S w sv (.sl 58 l)
  | .names l => ∃ gs gm go sv n, v = .func (.func 49) #[] #[.pointer (some ⟨gs, 0, none⟩), .pointer (some ⟨go, 0, none⟩)] ∧ fp = gs :: gm :: go :: sv.ownBlock.toList ∧ n ≤ l.length ∧
      w.heap[gs]? = some (.cells #[.map (some gm)] 100 (0, 0)) ∧ MapAt w gm n (fun y => l.any fun z => z.toList == y.toList) ∧ w.heap[go]? = some (.cells #[sv] 22 (0, 0)) ∧ w.ownsRow 0 9 1 sv l.length (l.map Value.string)
theorem frameT (x : II 1000003) (S S' : Nat → Nat → Prop) (w w' : World) (v : Value) (fp : List Nat) (h : FrepT x S w v fp) (hS : ∀ g o, S g o → S' g o)
    (hc : ∀ g o u, S g o → w.cell? ⟨g, o, none⟩ = some u → w'.cell? ⟨g, o, none⟩ = some u) (hk : ∀ k ∈ fp, w'.heap[k]? = w.heap[k]?) : FrepT x S' w' v fp := by
  unfold FrepT at h ⊢
  cases x with
  | ren l =>
    obtain ⟨g, sv, rfl, rfl, h1, h2⟩ := h
    exact ⟨g, sv, rfl, rfl, (hk g (by simp)).trans h1, h2.move hS hc⟩
  | names l =>
    obtain ⟨gs, gm, go, sv, n, rfl, rfl, hn, h1, h2, h3, h4⟩ := h
    exact ⟨gs, gm, go, sv, n, rfl, rfl, hn, (hk gs (by simp)).trans h1, h2.same (hk gm (by simp)), (hk go (by simp)).trans h3, owns_same h4 fun k e => hk k (by simp [e])⟩
def InvT (w : World) : Prop := Lib.TabIs Tryz.prog w "strings.asciiSpace" .u8 Lib.asciiSpaceTab ∧ (∃ m, w.cell? ⟨3, 0, none⟩ = some (.int .i64 m)) ∧ Lib.TabIs Tryz.prog w "internal/strconv.uint64pow10" .u64 Lib.pow10Tab
theorem cell_lt {w : World} {a : Addr} {v : Value} (h : w.cell? a = some v) : a.block < w.heap.size := by
  unfold World.cell? at h
  split at h
  · rename_i hb; exact (Array.getElem?_eq_some_iff.1 hb).1
  · cases h
theorem tab_same {w w' : World} {n : String} {g : Nat} {k : IntKind} {t : List Int} (hgn : Tryz.prog.globalNamed n = some g) (h : Lib.TabIs Tryz.prog w n k t) (h0 : w'.heap[g]? = w.heap[g]?) : Lib.TabIs Tryz.prog w' n k t := by
  unfold Lib.TabIs World.var? at h ⊢
  rw [hgn] at h ⊢
  simp only [Option.bind_some] at h ⊢
  rw [h0]; exact h
theorem tab_lt {w : World} {n : String} {g : Nat} {k : IntKind} {t : List Int} (hgn : Tryz.prog.globalNamed n = some g) (h : Lib.TabIs Tryz.prog w n k t) : g < w.heap.size := by
  unfold Lib.TabIs World.var? at h
  rw [hgn] at h
  simp only [Option.bind_some] at h
  rcases Nat.lt_or_ge g w.heap.size with h' | h'
  · exact h'
  · simp [Array.getElem?_eq_none h'] at h
theorem gn_ascii : Tryz.prog.globalNamed "strings.asciiSpace" = some 0 := by kernel_rfl
theorem gn_pow : Tryz.prog.globalNamed "internal/strconv.uint64pow10" = some 2 := by kernel_rfl
def EE : Env II := { EE0 with
  io := fun f => match f with | 42 | 43 | 44 | 45 | 66 | 68 | 70 | 72 | 73 | 74 | 94 => true | _ => false
  frep := FrepT
  frame := frameT
  glob := fun k => k = 0 ∨ k = 3 ∨ k = 2
  inv := InvT
  invLt := by
    rintro w k ⟨h1, ⟨m, h2⟩, h3⟩ (rfl | rfl | rfl)
    · exact tab_lt gn_ascii h1
    · exact cell_lt h2
    · exact tab_lt gn_pow h3
  invKeep := by
    rintro w w' ⟨h1, ⟨m, h2⟩, h3⟩ hk
    refine ⟨tab_same gn_ascii h1 (hk 0 (.inl rfl)), ⟨m, ?_⟩, tab_same gn_pow h3 (hk 2 (.inr (.inr rfl)))⟩
    rw [← h2]
    simp only [World.cell?, hk 3 (.inr (.inl rfl))] }
end Go.Ev
end
section
open Go Go.Proofs
namespace Go.Ev
set_option maxRecDepth 100000
set_option maxHeartbeats 4000000
def cT : CodC EE Thing := cellT some (fun x => x) fun x a h => by injection h with h; exact h.symm
def c_TExpr : Cod EE TExpr := codS mk_TExpr row_TExpr fun _ _ => mk_TExpr_le
def c_TField : Cod EE TField := codS mk_TField row_TField fun _ _ => mk_TField_le
def c_TMarks : Cod EE TMarks := codS mk_TMarks row_TMarks fun _ _ => mk_TMarks_le
def c_TParam : Cod EE TParam := codS mk_TParam row_TParam fun _ _ => mk_TParam_le
def c_TProgram : Cod EE TProgram := codS mk_TProgram row_TProgram fun _ _ => mk_TProgram_le
def c_TRec : Cod EE TRec := codS mk_TRec row_TRec fun _ _ => mk_TRec_le
def c_TRoutine : Cod EE TRoutine := codS mk_TRoutine row_TRoutine fun _ _ => mk_TRoutine_le
def c_TStmt : Cod EE TStmt := codS mk_TStmt row_TStmt fun _ _ => mk_TStmt_le
def c_TType : Cod EE TType := codS mk_TType row_TType fun _ _ => mk_TType_le
def c_TVar : Cod EE TVar := codS mk_TVar row_TVar fun _ _ => mk_TVar_le
abbrev a_w16_RenameTables : Type := Int × TProgram × Unit
abbrev b_w16_RenameTables : Type := Bool
def c_w16_RenameTables : CodL EE a_w16_RenameTables := .cons (cInt .i64) (.cons c_TProgram .nil)
def rc_w16_RenameTables : RC EE b_w16_RenameTables := RC.one cBool
def co_w16_RenameTables : Co := { res := [[.any]] }
abbrev a_r07_Names : Type := TProgram × Unit
abbrev b_r07_Names : Type := (List ByteArray)
def c_r07_Names : CodL EE a_r07_Names := .cons c_TProgram .nil
def rc_r07_Names : RC EE b_r07_Names := RC.one (cSl 9)
def co_r07_Names : Co := { res := [[.sl 9]] }
abbrev a_w16_awake : Type := Unit
abbrev b_w16_awake : Type := Bool
def c_w16_awake : CodL EE a_w16_awake := .nil
def rc_w16_awake : RC EE b_w16_awake := RC.one cBool
def co_w16_awake : Co := { res := [[.any]] }
abbrev a_r07_Rename : Type := TProgram × (List TPair) × Unit
abbrev b_r07_Rename : Type := TProgram
def c_r07_Rename : CodL EE a_r07_Rename := .cons c_TProgram (.cons (cSl 58) .nil)
def rc_r07_Rename : RC EE b_r07_Rename := RC.one c_TProgram
def co_r07_Rename : Co := { res := [[.any, .sl 9, .sl 9, .sl 9, .sl 46, .sl 56, .sl 90, .sl 97, .sl 9]] }
abbrev a_rename_Table : Type := Int × TProgram × Unit
abbrev b_rename_Table : Type := (List TPair)
def c_rename_Table : CodL EE a_rename_Table := .cons (cInt .i64) (.cons c_TProgram .nil)
def rc_rename_Table : RC EE b_rename_Table := RC.one (cSl 58)
def co_rename_Table : Co := { res := [[.sl 58]] }
abbrev a_rename_Apply : Type := Int × TProgram × Unit
abbrev b_rename_Apply : Type := TProgram × (List TPair) × Unit
def c_rename_Apply : CodL EE a_rename_Apply := .cons (cInt .i64) (.cons c_TProgram .nil)
def rc_rename_Apply : RC EE b_rename_Apply := RC.many (.cons c_TProgram (.cons (cSl 58) .nil))
def co_rename_Apply : Co := { res := [[.any, .sl 9, .sl 9, .sl 9, .sl 46, .sl 56, .sl 90, .sl 97, .sl 9], [.sl 58]] }
abbrev a_r16_Table : Type := Int × TProgram × Unit
abbrev b_r16_Table : Type := (List TPair)
def c_r16_Table : CodL EE a_r16_Table := .cons (cInt .i64) (.cons c_TProgram .nil)
def rc_r16_Table : RC EE b_r16_Table := RC.one (cSl 58)
def co_r16_Table : Co := { res := [[.sl 58]] }
abbrev a_r16_SamePairs : Type := (List TPair) × (List TPair) × Unit
abbrev b_r16_SamePairs : Type := Bool
def c_r16_SamePairs : CodL EE a_r16_SamePairs := .cons (cSl 58) (.cons (cSl 58) .nil)
def rc_r16_SamePairs : RC EE b_r16_SamePairs := RC.one cBool
def co_r16_SamePairs : Co := { res := [[.any]] }
abbrev a_r07_Same : Type := TProgram × TProgram × Unit
abbrev b_r07_Same : Type := Bool
def c_r07_Same : CodL EE a_r07_Same := .cons c_TProgram (.cons c_TProgram .nil)
def rc_r07_Same : RC EE b_r07_Same := RC.one cBool
def co_r07_Same : Co := { res := [[.any]] }
abbrev a_r07_Parts : Type := ByteArray × Unit
abbrev b_r07_Parts : Type := (List ByteArray)
def c_r07_Parts : CodL EE a_r07_Parts := .cons cStr .nil
def rc_r07_Parts : RC EE b_r07_Parts := RC.one (Cod.c (cellO 9))
def co_r07_Parts : Co := { res := [[.ow 9]] }
abbrev a_r07_varNames : Type := (List TVar) × Unit
abbrev b_r07_varNames : Type := (List ByteArray)
def c_r07_varNames : CodL EE a_r07_varNames := .cons (cSl 56) .nil
def rc_r07_varNames : RC EE b_r07_varNames := RC.one (cSl 9)
def co_r07_varNames : Co := { res := [[.sl 9]] }
abbrev a_r07_routineNames : Type := (List TRoutine) × Unit
abbrev b_r07_routineNames : Type := (List ByteArray)
def c_r07_routineNames : CodL EE a_r07_routineNames := .cons (cSl 90) .nil
def rc_r07_routineNames : RC EE b_r07_routineNames := RC.one (cSl 9)
def co_r07_routineNames : Co := { res := [[.sl 9]] }
abbrev a_r07_stmtNames : Type := (List TStmt) × Unit
abbrev b_r07_stmtNames : Type := (List ByteArray)
def c_r07_stmtNames : CodL EE a_r07_stmtNames := .cons (cSl 97) .nil
def rc_r07_stmtNames : RC EE b_r07_stmtNames := RC.one (cSl 9)
def co_r07_stmtNames : Co := { res := [[.sl 9]] }
abbrev a_r04_Among : Type := (List ByteArray) × ByteArray × Unit
abbrev b_r04_Among : Type := Bool
def c_r04_Among : CodL EE a_r04_Among := .cons (cSl 9) (.cons cStr .nil)
def rc_r04_Among : RC EE b_r04_Among := RC.one cBool
def co_r04_Among : Co := { res := [[.any]] }
abbrev a_r07_Turned : Type := ByteArray × (List TPair) × Unit
abbrev b_r07_Turned : Type := ByteArray
def c_r07_Turned : CodL EE a_r07_Turned := .cons cStr (.cons (cSl 58) .nil)
def rc_r07_Turned : RC EE b_r07_Turned := RC.one cStr
def co_r07_Turned : Co := { res := [[.any]] }
abbrev a_r07_turnVars : Type := (List TVar) × (List TPair) × Unit
abbrev b_r07_turnVars : Type := (List TVar)
def c_r07_turnVars : CodL EE a_r07_turnVars := .cons (cSl 56) (.cons (cSl 58) .nil)
def rc_r07_turnVars : RC EE b_r07_turnVars := RC.one (cSl 56)
def co_r07_turnVars : Co := { res := [[.sl 56]] }
abbrev a_r07_turnRoutines : Type := (List TRoutine) × (List TPair) × Unit
abbrev b_r07_turnRoutines : Type := (List TRoutine)
def c_r07_turnRoutines : CodL EE a_r07_turnRoutines := .cons (cSl 90) (.cons (cSl 58) .nil)
def rc_r07_turnRoutines : RC EE b_r07_turnRoutines := RC.one (cSl 90)
def co_r07_turnRoutines : Co := { res := [[.sl 90]] }
abbrev a_r07_turnStmts : Type := (List TStmt) × (List TPair) × Unit
abbrev b_r07_turnStmts : Type := (List TStmt)
def c_r07_turnStmts : CodL EE a_r07_turnStmts := .cons (cSl 97) (.cons (cSl 58) .nil)
def rc_r07_turnStmts : RC EE b_r07_turnStmts := RC.one (cSl 97)
def co_r07_turnStmts : Co := { res := [[.sl 97]] }
abbrev a_tree_Names : Type := TProgram × Unit
abbrev b_tree_Names : Type := (List ByteArray)
def c_tree_Names : CodL EE a_tree_Names := .cons c_TProgram .nil
def rc_tree_Names : RC EE b_tree_Names := RC.one (cSl 9)
abbrev a_slices_Clone_string : Type := (List ByteArray) × Unit
abbrev b_slices_Clone_string : Type := (List ByteArray)
def c_slices_Clone_string : CodL EE a_slices_Clone_string := .cons (cSl 9) .nil
def rc_slices_Clone_string : RC EE b_slices_Clone_string := RC.one (Cod.c (cellO 9))
abbrev a_words_Clash : Type := Int × (List ByteArray) × Unit
abbrev b_words_Clash : Type := (List ByteArray)
def c_words_Clash : CodL EE a_words_Clash := .cons (cInt .i64) (.cons (cSl 9) .nil)
def rc_words_Clash : RC EE b_words_Clash := RC.one (Cod.c (cellO 9))
abbrev a_words_Fresh : Type := ByteArray × (List ByteArray) × Unit
abbrev b_words_Fresh : Type := ByteArray
def c_words_Fresh : CodL EE a_words_Fresh := .cons cStr (.cons (cSl 9) .nil)
def rc_words_Fresh : RC EE b_words_Fresh := RC.one cStr
def co_words_Fresh : Co := { res := [[.any]] }
abbrev a_tree_Rename : Type := TProgram × (List TPair) × Unit
abbrev b_tree_Rename : Type := TProgram
def c_tree_Rename : CodL EE a_tree_Rename := .cons c_TProgram (.cons (cSl 58) .nil)
def rc_tree_Rename : RC EE b_tree_Rename := RC.one c_TProgram
abbrev a_r04_Is : Type := Int × ByteArray × Unit
abbrev b_r04_Is : Type := Bool
def c_r04_Is : CodL EE a_r04_Is := .cons (cInt .i64) (.cons cStr .nil)
def rc_r04_Is : RC EE b_r04_Is := RC.one cBool
def co_r04_Is : Co := { res := [[.any]] }
abbrev a_r04_Fresh : Type := ByteArray × (List ByteArray) × Unit
abbrev b_r04_Fresh : Type := ByteArray
def c_r04_Fresh : CodL EE a_r04_Fresh := .cons cStr (.cons (cSl 9) .nil)
def rc_r04_Fresh : RC EE b_r04_Fresh := RC.one cStr
def co_r04_Fresh : Co := { res := [[.any]] }
abbrev a_r01_SameTexts : Type := (List ByteArray) × (List ByteArray) × Unit
abbrev b_r01_SameTexts : Type := Bool
def c_r01_SameTexts : CodL EE a_r01_SameTexts := .cons (cSl 9) (.cons (cSl 9) .nil)
def rc_r01_SameTexts : RC EE b_r01_SameTexts := RC.one cBool
def co_r01_SameTexts : Co := { res := [[.any]] }
abbrev a_r07_sameMarks : Type := TMarks × TMarks × Unit
abbrev b_r07_sameMarks : Type := Bool
def c_r07_sameMarks : CodL EE a_r07_sameMarks := .cons c_TMarks (.cons c_TMarks .nil)
def rc_r07_sameMarks : RC EE b_r07_sameMarks := RC.one cBool
def co_r07_sameMarks : Co := { res := [[.any]] }
abbrev a_r07_sameVars : Type := (List TVar) × (List TVar) × Unit
abbrev b_r07_sameVars : Type := Bool
def c_r07_sameVars : CodL EE a_r07_sameVars := .cons (cSl 56) (.cons (cSl 56) .nil)
def rc_r07_sameVars : RC EE b_r07_sameVars := RC.one cBool
def co_r07_sameVars : Co := { res := [[.any]] }
abbrev a_r07_SameRoutines : Type := (List TRoutine) × (List TRoutine) × Unit
abbrev b_r07_SameRoutines : Type := Bool
def c_r07_SameRoutines : CodL EE a_r07_SameRoutines := .cons (cSl 90) (.cons (cSl 90) .nil)
def rc_r07_SameRoutines : RC EE b_r07_SameRoutines := RC.one cBool
def co_r07_SameRoutines : Co := { res := [[.any]] }
abbrev a_r07_SameStmts : Type := (List TStmt) × (List TStmt) × Unit
abbrev b_r07_SameStmts : Type := Bool
def c_r07_SameStmts : CodL EE a_r07_SameStmts := .cons (cSl 97) (.cons (cSl 97) .nil)
def rc_r07_SameStmts : RC EE b_r07_SameStmts := RC.one cBool
def co_r07_SameStmts : Co := { res := [[.any]] }
abbrev a_r07_ExprNames : Type := TExpr × Unit
abbrev b_r07_ExprNames : Type := (List ByteArray)
def c_r07_ExprNames : CodL EE a_r07_ExprNames := .cons c_TExpr .nil
def rc_r07_ExprNames : RC EE b_r07_ExprNames := RC.one (cSl 9)
def co_r07_ExprNames : Co := { res := [[.sl 9]] }
abbrev a_r07_turnExpr : Type := TExpr × (List TPair) × Unit
abbrev b_r07_turnExpr : Type := TExpr
def c_r07_turnExpr : CodL EE a_r07_turnExpr := .cons c_TExpr (.cons (cSl 58) .nil)
def rc_r07_turnExpr : RC EE b_r07_turnExpr := RC.one c_TExpr
def co_r07_turnExpr : Co := { res := [[.any, .any, .any, .any, .sl 95]] }
abbrev a_tree_mapper_program : Type := (Thing × Unit) × TProgram × Unit
abbrev b_tree_mapper_program : Type := TProgram × (Thing × Unit)
def c_tree_mapper_program : CodL EE a_tree_mapper_program := .cons (.agg (.cons cT .nil)) (.cons c_TProgram .nil)
def rc_tree_mapper_program : RC EE b_tree_mapper_program := RC.oneR c_TProgram (.cons cT .nil)
def co_tree_mapper_program : Co := { res := [[.any, .sl 9, .sl 9, .sl 9, .sl 46, .sl 56, .sl 90, .sl 97, .sl 9]] }
abbrev a_words_Is : Type := Int × ByteArray × Unit
abbrev b_words_Is : Type := Bool
def c_words_Is : CodL EE a_words_Is := .cons (cInt .i64) (.cons cStr .nil)
def rc_words_Is : RC EE b_words_Is := RC.one cBool
abbrev a_slices_Contains_string : Type := (List ByteArray) × ByteArray × Unit
abbrev b_slices_Contains_string : Type := Bool
def c_slices_Contains_string : CodL EE a_slices_Contains_string := .cons (cSl 9) (.cons cStr .nil)
def rc_slices_Contains_string : RC EE b_slices_Contains_string := RC.one cBool
def co_slices_Contains_string : Co := { res := [[.any]] }
abbrev a_strconv_Itoa : Type := Int × Unit
abbrev b_strconv_Itoa : Type := ByteArray
def c_strconv_Itoa : CodL EE a_strconv_Itoa := .cons (cInt .i64) .nil
def rc_strconv_Itoa : RC EE b_strconv_Itoa := RC.one cStr
abbrev a_tree_Rename_1 : Type := ByteArray × (List TPair) × Unit
abbrev b_tree_Rename_1 : Type := ByteArray
def c_tree_Rename_1 : CodL EE a_tree_Rename_1 := .cons cStr (.cons (.c (cellRPL 58)) .nil)
def rc_tree_Rename_1 : RC EE b_tree_Rename_1 := RC.one cStr
def co_tree_Rename_1 : Co := { res := [[.any]] }
abbrev a_r04_All : Type := Int × Unit
abbrev b_r04_All : Type := (List ByteArray)
def c_r04_All : CodL EE a_r04_All := .cons (cInt .i64) .nil
def rc_r04_All : RC EE b_r04_All := RC.one (cSl 9)
def co_r04_All : Co := { res := [[.sl 9]] }
abbrev a_r01_Digits : Type := Int × Unit
abbrev b_r01_Digits : Type := ByteArray
def c_r01_Digits : CodL EE a_r01_Digits := .cons (cInt .i64) .nil
def rc_r01_Digits : RC EE b_r01_Digits := RC.one cStr
def co_r01_Digits : Co := { res := [[.any]] }
abbrev a_r07_SameExpr : Type := TExpr × TExpr × Unit
abbrev b_r07_SameExpr : Type := Bool
def c_r07_SameExpr : CodL EE a_r07_SameExpr := .cons c_TExpr (.cons c_TExpr .nil)
def rc_r07_SameExpr : RC EE b_r07_SameExpr := RC.one cBool
def co_r07_SameExpr : Co := { res := [[.any]] }
abbrev a_r07_SameExprs : Type := (List TExpr) × (List TExpr) × Unit
abbrev b_r07_SameExprs : Type := Bool
def c_r07_SameExprs : CodL EE a_r07_SameExprs := .cons (cSl 95) (.cons (cSl 95) .nil)
def rc_r07_SameExprs : RC EE b_r07_SameExprs := RC.one cBool
def co_r07_SameExprs : Co := { res := [[.any]] }
abbrev a_tree_mapper_parts : Type := (Thing × Unit) × ByteArray × Unit
abbrev b_tree_mapper_parts : Type := ByteArray × (Thing × Unit)
def c_tree_mapper_parts : CodL EE a_tree_mapper_parts := .cons (.agg (.cons cT .nil)) (.cons cStr .nil)
def rc_tree_mapper_parts : RC EE b_tree_mapper_parts := RC.oneR cStr (.cons cT .nil)
abbrev a_tree_each_Rec : Type := (List TRec) × (Thing × Unit) × Unit
abbrev b_tree_each_Rec : Type := (List TRec) × (Thing × Unit)
def c_tree_each_Rec : CodL EE a_tree_each_Rec := .cons (cSl 46) (.cons (.c (cellMth 77 (.cons cT .nil))) .nil)
def rc_tree_each_Rec : RC EE b_tree_each_Rec := RC.oneR (cSl 46) (.cons cT .nil)
def co_tree_each_Rec : Co := { res := [[.sl 46]] }
abbrev a_tree_mapper_rec : Type := (Thing × Unit) × TRec × Unit
abbrev b_tree_mapper_rec : Type := TRec × (Thing × Unit)
def c_tree_mapper_rec : CodL EE a_tree_mapper_rec := .cons (.agg (.cons cT .nil)) (.cons c_TRec .nil)
def rc_tree_mapper_rec : RC EE b_tree_mapper_rec := RC.oneR c_TRec (.cons cT .nil)
def co_tree_mapper_rec : Co := { res := [[.sl 9, .sl 9, .any, .sl 48, .sl 9]] }
abbrev a_tree_each_Var : Type := (List TVar) × (Thing × Unit) × Unit
abbrev b_tree_each_Var : Type := (List TVar) × (Thing × Unit)
def c_tree_each_Var : CodL EE a_tree_each_Var := .cons (cSl 56) (.cons (.c (cellMth 79 (.cons cT .nil))) .nil)
def rc_tree_each_Var : RC EE b_tree_each_Var := RC.oneR (cSl 56) (.cons cT .nil)
def co_tree_each_Var : Co := { res := [[.sl 56]] }
abbrev a_tree_mapper_variable : Type := (Thing × Unit) × TVar × Unit
abbrev b_tree_mapper_variable : Type := TVar × (Thing × Unit)
def c_tree_mapper_variable : CodL EE a_tree_mapper_variable := .cons (.agg (.cons cT .nil)) (.cons c_TVar .nil)
def rc_tree_mapper_variable : RC EE b_tree_mapper_variable := RC.oneR c_TVar (.cons cT .nil)
def co_tree_mapper_variable : Co := { res := [[.sl 9, .sl 9, .any, .any, .any, .any]] }
abbrev a_tree_each_Routine : Type := (List TRoutine) × (Thing × Unit) × Unit
abbrev b_tree_each_Routine : Type := (List TRoutine) × (Thing × Unit)
def c_tree_each_Routine : CodL EE a_tree_each_Routine := .cons (cSl 90) (.cons (.c (cellMth 81 (.cons cT .nil))) .nil)
def rc_tree_each_Routine : RC EE b_tree_each_Routine := RC.oneR (cSl 90) (.cons cT .nil)
def co_tree_each_Routine : Co := { res := [[.sl 90]] }
abbrev a_tree_mapper_routine : Type := (Thing × Unit) × TRoutine × Unit
abbrev b_tree_mapper_routine : Type := TRoutine × (Thing × Unit)
def c_tree_mapper_routine : CodL EE a_tree_mapper_routine := .cons (.agg (.cons cT .nil)) (.cons c_TRoutine .nil)
def rc_tree_mapper_routine : RC EE b_tree_mapper_routine := RC.oneR c_TRoutine (.cons cT .nil)
def co_tree_mapper_routine : Co := { res := [[.sl 9, .sl 9, .any, .any, .sl 92, .sl 56, .sl 90, .sl 97, .sl 9]] }
abbrev a_tree_each_Stmt : Type := (List TStmt) × (Thing × Unit) × Unit
abbrev b_tree_each_Stmt : Type := (List TStmt) × (Thing × Unit)
def c_tree_each_Stmt : CodL EE a_tree_each_Stmt := .cons (cSl 97) (.cons (.c (cellMth 83 (.cons cT .nil))) .nil)
def rc_tree_each_Stmt : RC EE b_tree_each_Stmt := RC.oneR (cSl 97) (.cons cT .nil)
def co_tree_each_Stmt : Co := { res := [[.sl 97]] }
abbrev a_tree_mapper_stmt : Type := (Thing × Unit) × TStmt × Unit
abbrev b_tree_mapper_stmt : Type := TStmt × (Thing × Unit)
def c_tree_mapper_stmt : CodL EE a_tree_mapper_stmt := .cons (.agg (.cons cT .nil)) (.cons c_TStmt .nil)
def rc_tree_mapper_stmt : RC EE b_tree_mapper_stmt := RC.oneR c_TStmt (.cons cT .nil)
def co_tree_mapper_stmt : Co := { res := [[.sl 9, .sl 9, .any, .any, .any, .any, .any, .any, .sl 95, .sl 95, .any, .any, .sl 97, .sl 97, .sl 9, .sl 9]] }
abbrev a_slices_Index_string : Type := (List ByteArray) × ByteArray × Unit
abbrev b_slices_Index_string : Type := Int
def c_slices_Index_string : CodL EE a_slices_Index_string := .cons (cSl 9) (.cons cStr .nil)
def rc_slices_Index_string : RC EE b_slices_Index_string := RC.one (cInt .i64)
def co_slices_Index_string : Co := { res := [[.any]] }
abbrev a_r01_long : Type := Int × Unit
abbrev b_r01_long : Type := ByteArray
def c_r01_long : CodL EE a_r01_long := .cons (cInt .u64) .nil
def rc_r01_long : RC EE b_r01_long := RC.one cStr
def co_r01_long : Co := { res := [[.any]] }
abbrev a_tree_mapper_marks : Type := (Thing × Unit) × TMarks × Unit
abbrev b_tree_mapper_marks : Type := TMarks × (Thing × Unit)
def c_tree_mapper_marks : CodL EE a_tree_mapper_marks := .cons (.agg (.cons cT .nil)) (.cons c_TMarks .nil)
def rc_tree_mapper_marks : RC EE b_tree_mapper_marks := RC.oneR c_TMarks (.cons cT .nil)
def co_tree_mapper_marks : Co := { res := [[.sl 9, .sl 9]] }
abbrev a_tree_each_Field : Type := (List TField) × (Unit × (Thing × Unit) × Unit) × Unit
abbrev b_tree_each_Field : Type := (List TField) × (Thing × Unit)
def c_tree_each_Field : CodL EE a_tree_each_Field := .cons (cSl 48) (.cons (.c (cellClo 99 .nil (.cons (cellRQ 0 (.cons cT .nil)) .nil))) .nil)
def rc_tree_each_Field : RC EE b_tree_each_Field := RC.oneR (cSl 48) (.cons cT .nil)
def co_tree_each_Field : Co := { res := [[.sl 48]] }
abbrev a_tree_mapper_rec_1 : Type := TField × (Thing × Unit) × Unit
abbrev b_tree_mapper_rec_1 : Type := TField × (Thing × Unit)
def c_tree_mapper_rec_1 : CodL EE a_tree_mapper_rec_1 := .cons c_TField (.cons (.c (cellRQ 0 (.cons cT .nil))) .nil)
def rc_tree_mapper_rec_1 : RC EE b_tree_mapper_rec_1 := RC.oneR c_TField (.cons cT .nil)
def co_tree_mapper_rec_1 : Co := { res := [[.sl 9, .sl 9, .any, .any]] }
abbrev a_tree_mapper_typ : Type := (Thing × Unit) × TType × Unit
abbrev b_tree_mapper_typ : Type := TType × (Thing × Unit)
def c_tree_mapper_typ : CodL EE a_tree_mapper_typ := .cons (.agg (.cons cT .nil)) (.cons c_TType .nil)
def rc_tree_mapper_typ : RC EE b_tree_mapper_typ := RC.oneR c_TType (.cons cT .nil)
def co_tree_mapper_typ : Co := { res := [[.any, .any, .any]] }
abbrev a_tree_each_Param : Type := (List TParam) × (Unit × (Thing × Unit) × Unit) × Unit
abbrev b_tree_each_Param : Type := (List TParam) × (Thing × Unit)
def c_tree_each_Param : CodL EE a_tree_each_Param := .cons (cSl 92) (.cons (.c (cellClo 102 .nil (.cons (cellRQ 0 (.cons cT .nil)) .nil))) .nil)
def rc_tree_each_Param : RC EE b_tree_each_Param := RC.oneR (cSl 92) (.cons cT .nil)
def co_tree_each_Param : Co := { res := [[.sl 92]] }
abbrev a_tree_mapper_routine_1 : Type := TParam × (Thing × Unit) × Unit
abbrev b_tree_mapper_routine_1 : Type := TParam × (Thing × Unit)
def c_tree_mapper_routine_1 : CodL EE a_tree_mapper_routine_1 := .cons c_TParam (.cons (.c (cellRQ 0 (.cons cT .nil))) .nil)
def rc_tree_mapper_routine_1 : RC EE b_tree_mapper_routine_1 := RC.oneR c_TParam (.cons cT .nil)
def co_tree_mapper_routine_1 : Co := { res := [[.any, .any, .any, .any, .any]] }
abbrev a_tree_mapper_expr : Type := (Thing × Unit) × TExpr × Unit
abbrev b_tree_mapper_expr : Type := TExpr × (Thing × Unit)
def c_tree_mapper_expr : CodL EE a_tree_mapper_expr := .cons (.agg (.cons cT .nil)) (.cons c_TExpr .nil)
def rc_tree_mapper_expr : RC EE b_tree_mapper_expr := RC.oneR c_TExpr (.cons cT .nil)
def co_tree_mapper_expr : Co := { res := [[.any, .any, .any, .any, .sl 95]] }
abbrev a_tree_each_Expr : Type := (List TExpr) × (Thing × Unit) × Unit
abbrev b_tree_each_Expr : Type := (List TExpr) × (Thing × Unit)
def c_tree_each_Expr : CodL EE a_tree_each_Expr := .cons (cSl 95) (.cons (.c (cellMth 103 (.cons cT .nil))) .nil)
def rc_tree_each_Expr : RC EE b_tree_each_Expr := RC.oneR (cSl 95) (.cons cT .nil)
def co_tree_each_Expr : Co := { res := [[.sl 95]] }
abbrev a_by : Type := Thing × ByteArray × Unit
abbrev b_by : Type := ByteArray × (Thing × Unit)
def c_by : CodL EE a_by := .cons (.c cT) (.cons cStr .nil)
def rc_by : RC EE b_by := RC.oneR cStr (.cons cT .nil)
structure Fam where
  f_w16_RenameTables : a_w16_RenameTables → Option b_w16_RenameTables
  f_r07_Names : a_r07_Names → Option b_r07_Names
  f_w16_awake : a_w16_awake → Option b_w16_awake
  f_r07_Rename : a_r07_Rename → Option b_r07_Rename
  f_rename_Table : a_rename_Table → Option b_rename_Table
  f_rename_Apply : a_rename_Apply → Option b_rename_Apply
  f_r16_Table : a_r16_Table → Option b_r16_Table
  f_r16_SamePairs : a_r16_SamePairs → Option b_r16_SamePairs
  f_r07_Same : a_r07_Same → Option b_r07_Same
  f_r07_Parts : a_r07_Parts → Option b_r07_Parts
  f_r07_varNames : a_r07_varNames → Option b_r07_varNames
  f_r07_routineNames : a_r07_routineNames → Option b_r07_routineNames
  f_r07_stmtNames : a_r07_stmtNames → Option b_r07_stmtNames
  f_r04_Among : a_r04_Among → Option b_r04_Among
  f_r07_Turned : a_r07_Turned → Option b_r07_Turned
  f_r07_turnVars : a_r07_turnVars → Option b_r07_turnVars
  f_r07_turnRoutines : a_r07_turnRoutines → Option b_r07_turnRoutines
  f_r07_turnStmts : a_r07_turnStmts → Option b_r07_turnStmts
  f_tree_Names : a_tree_Names → Option b_tree_Names
  f_slices_Clone_string : a_slices_Clone_string → Option b_slices_Clone_string
  f_words_Clash : a_words_Clash → Option b_words_Clash
  f_words_Fresh : a_words_Fresh → Option b_words_Fresh
  f_tree_Rename : a_tree_Rename → Option b_tree_Rename
  f_r04_Is : a_r04_Is → Option b_r04_Is
  f_r04_Fresh : a_r04_Fresh → Option b_r04_Fresh
  f_r01_SameTexts : a_r01_SameTexts → Option b_r01_SameTexts
  f_r07_sameMarks : a_r07_sameMarks → Option b_r07_sameMarks
  f_r07_sameVars : a_r07_sameVars → Option b_r07_sameVars
  f_r07_SameRoutines : a_r07_SameRoutines → Option b_r07_SameRoutines
  f_r07_SameStmts : a_r07_SameStmts → Option b_r07_SameStmts
  f_r07_ExprNames : a_r07_ExprNames → Option b_r07_ExprNames
  f_r07_turnExpr : a_r07_turnExpr → Option b_r07_turnExpr
  f_tree_mapper_program : a_tree_mapper_program → Option b_tree_mapper_program
  f_words_Is : a_words_Is → Option b_words_Is
  f_slices_Contains_string : a_slices_Contains_string → Option b_slices_Contains_string
  f_strconv_Itoa : a_strconv_Itoa → Option b_strconv_Itoa
  f_tree_Rename_1 : a_tree_Rename_1 → Option b_tree_Rename_1
  f_r04_All : a_r04_All → Option b_r04_All
  f_r01_Digits : a_r01_Digits → Option b_r01_Digits
  f_r07_SameExpr : a_r07_SameExpr → Option b_r07_SameExpr
  f_r07_SameExprs : a_r07_SameExprs → Option b_r07_SameExprs
  f_tree_mapper_parts : a_tree_mapper_parts → Option b_tree_mapper_parts
  f_tree_each_Rec : a_tree_each_Rec → Option b_tree_each_Rec
  f_tree_mapper_rec : a_tree_mapper_rec → Option b_tree_mapper_rec
  f_tree_each_Var : a_tree_each_Var → Option b_tree_each_Var
  f_tree_mapper_variable : a_tree_mapper_variable → Option b_tree_mapper_variable
  f_tree_each_Routine : a_tree_each_Routine → Option b_tree_each_Routine
  f_tree_mapper_routine : a_tree_mapper_routine → Option b_tree_mapper_routine
  f_tree_each_Stmt : a_tree_each_Stmt → Option b_tree_each_Stmt
  f_tree_mapper_stmt : a_tree_mapper_stmt → Option b_tree_mapper_stmt
  f_slices_Index_string : a_slices_Index_string → Option b_slices_Index_string
  f_r01_long : a_r01_long → Option b_r01_long
  f_tree_mapper_marks : a_tree_mapper_marks → Option b_tree_mapper_marks
  f_tree_each_Field : a_tree_each_Field → Option b_tree_each_Field
  f_tree_mapper_rec_1 : a_tree_mapper_rec_1 → Option b_tree_mapper_rec_1
  f_tree_mapper_typ : a_tree_mapper_typ → Option b_tree_mapper_typ
  f_tree_each_Param : a_tree_each_Param → Option b_tree_each_Param
  f_tree_mapper_routine_1 : a_tree_mapper_routine_1 → Option b_tree_mapper_routine_1
  f_tree_mapper_expr : a_tree_mapper_expr → Option b_tree_mapper_expr
  f_tree_each_Expr : a_tree_each_Expr → Option b_tree_each_Expr
  f_by : a_by → Option b_by
def table (s : Fam) : List (Nat × (List (AV II) → Tree (RV II))) :=
  [(3, ansOf c_w16_RenameTables rc_w16_RenameTables.enc s.f_w16_RenameTables),
   (5, ansOf c_r07_Names rc_r07_Names.enc s.f_r07_Names),
   (6, ansOf c_w16_awake rc_w16_awake.enc s.f_w16_awake),
   (7, ansOf c_r07_Rename rc_r07_Rename.enc s.f_r07_Rename),
   (8, ansOf c_rename_Table rc_rename_Table.enc s.f_rename_Table),
   (9, ansOf c_rename_Apply rc_rename_Apply.enc s.f_rename_Apply),
   (10, ansOf c_r16_Table rc_r16_Table.enc s.f_r16_Table),
   (11, ansOf c_r16_SamePairs rc_r16_SamePairs.enc s.f_r16_SamePairs),
   (12, ansOf c_r07_Same rc_r07_Same.enc s.f_r07_Same),
   (15, ansOf c_r07_Parts rc_r07_Parts.enc s.f_r07_Parts),
   (16, ansOf c_r07_varNames rc_r07_varNames.enc s.f_r07_varNames),
   (17, ansOf c_r07_routineNames rc_r07_routineNames.enc s.f_r07_routineNames),
   (18, ansOf c_r07_stmtNames rc_r07_stmtNames.enc s.f_r07_stmtNames),
   (19, ansOf c_r04_Among rc_r04_Among.enc s.f_r04_Among),
   (20, ansOf c_r07_Turned rc_r07_Turned.enc s.f_r07_Turned),
   (21, ansOf c_r07_turnVars rc_r07_turnVars.enc s.f_r07_turnVars),
   (22, ansOf c_r07_turnRoutines rc_r07_turnRoutines.enc s.f_r07_turnRoutines),
   (23, ansOf c_r07_turnStmts rc_r07_turnStmts.enc s.f_r07_turnStmts),
   (24, ansOf c_tree_Names rc_tree_Names.enc s.f_tree_Names),
   (25, ansOf c_slices_Clone_string rc_slices_Clone_string.enc s.f_slices_Clone_string),
   (26, ansOf c_words_Clash rc_words_Clash.enc s.f_words_Clash),
   (27, ansOf c_words_Fresh rc_words_Fresh.enc s.f_words_Fresh),
   (28, ansOf c_tree_Rename rc_tree_Rename.enc s.f_tree_Rename),
   (29, ansOf c_r04_Is rc_r04_Is.enc s.f_r04_Is),
   (30, ansOf c_r04_Fresh rc_r04_Fresh.enc s.f_r04_Fresh),
   (31, ansOf c_r01_SameTexts rc_r01_SameTexts.enc s.f_r01_SameTexts),
   (32, ansOf c_r07_sameMarks rc_r07_sameMarks.enc s.f_r07_sameMarks),
   (33, ansOf c_r07_sameVars rc_r07_sameVars.enc s.f_r07_sameVars),
   (34, ansOf c_r07_SameRoutines rc_r07_SameRoutines.enc s.f_r07_SameRoutines),
   (35, ansOf c_r07_SameStmts rc_r07_SameStmts.enc s.f_r07_SameStmts),
   (47, ansOf c_r07_ExprNames rc_r07_ExprNames.enc s.f_r07_ExprNames),
   (48, ansOf c_r07_turnExpr rc_r07_turnExpr.enc s.f_r07_turnExpr),
   (50, ansOf c_tree_mapper_program rc_tree_mapper_program.enc s.f_tree_mapper_program),
   (52, ansOf c_words_Is rc_words_Is.enc s.f_words_Is),
   (53, ansOf c_slices_Contains_string rc_slices_Contains_string.enc s.f_slices_Contains_string),
   (54, ansOf c_strconv_Itoa rc_strconv_Itoa.enc s.f_strconv_Itoa),
   (55, ansOf c_tree_Rename_1 rc_tree_Rename_1.enc s.f_tree_Rename_1),
   (56, ansOf c_r04_All rc_r04_All.enc s.f_r04_All),
   (57, ansOf c_r01_Digits rc_r01_Digits.enc s.f_r01_Digits),
   (58, ansOf c_r07_SameExpr rc_r07_SameExpr.enc s.f_r07_SameExpr),
   (59, ansOf c_r07_SameExprs rc_r07_SameExprs.enc s.f_r07_SameExprs),
   (75, ansOf c_tree_mapper_parts rc_tree_mapper_parts.enc s.f_tree_mapper_parts),
   (76, ansOf c_tree_each_Rec rc_tree_each_Rec.enc s.f_tree_each_Rec),
   (77, ansOf c_tree_mapper_rec rc_tree_mapper_rec.enc s.f_tree_mapper_rec),
   (78, ansOf c_tree_each_Var rc_tree_each_Var.enc s.f_tree_each_Var),
   (79, ansOf c_tree_mapper_variable rc_tree_mapper_variable.enc s.f_tree_mapper_variable),
   (80, ansOf c_tree_each_Routine rc_tree_each_Routine.enc s.f_tree_each_Routine),
   (81, ansOf c_tree_mapper_routine rc_tree_mapper_routine.enc s.f_tree_mapper_routine),
   (82, ansOf c_tree_each_Stmt rc_tree_each_Stmt.enc s.f_tree_each_Stmt),
   (83, ansOf c_tree_mapper_stmt rc_tree_mapper_stmt.enc s.f_tree_mapper_stmt),
   (86, ansOf c_slices_Index_string rc_slices_Index_string.enc s.f_slices_Index_string),
   (88, ansOf c_r01_long rc_r01_long.enc s.f_r01_long),
   (97, ansOf c_tree_mapper_marks rc_tree_mapper_marks.enc s.f_tree_mapper_marks),
   (98, ansOf c_tree_each_Field rc_tree_each_Field.enc s.f_tree_each_Field),
   (99, ansOf c_tree_mapper_rec_1 rc_tree_mapper_rec_1.enc s.f_tree_mapper_rec_1),
   (100, ansOf c_tree_mapper_typ rc_tree_mapper_typ.enc s.f_tree_mapper_typ),
   (101, ansOf c_tree_each_Param rc_tree_each_Param.enc s.f_tree_each_Param),
   (102, ansOf c_tree_mapper_routine_1 rc_tree_mapper_routine_1.enc s.f_tree_mapper_routine_1),
   (103, ansOf c_tree_mapper_expr rc_tree_mapper_expr.enc s.f_tree_mapper_expr),
   (104, ansOf c_tree_each_Expr rc_tree_each_Expr.enc s.f_tree_each_Expr),
   (1000003, ansOf c_by rc_by.enc s.f_by)]
def sp (s : Fam) : Nat → List (AV II) → Tree (RV II) := look (table s)
end Go.Ev
end
section
namespace Go.Ev
def h_r01_Digits : Nat → Hint
  | _ => ⟨[], [], [], []⟩
def h_r01_SameTexts : Nat → Hint
  | 4 => ⟨[0, 1, 5], [], [], []⟩
  | _ => ⟨[], [], [], []⟩
def h_r01_long : Nat → Hint
  | _ => ⟨[], [], [], []⟩
def h_r04_All : Nat → Hint
  | _ => ⟨[], [], [], []⟩
def h_r04_Among : Nat → Hint
  | 2 => ⟨[0, 1, 5], [], [], []⟩
  | _ => ⟨[], [], [], []⟩
def h_r04_Fresh : Nat → Hint
  | 7 => ⟨[1, 5, 6], [], [], []⟩
  | _ => ⟨[], [], [], []⟩
def h_r04_Is : Nat → Hint
  | _ => ⟨[], [], [], []⟩
def h_r07_ExprNames : Nat → Hint
  | 3 => ⟨[1, 3, 4], [1], [(3, 9)], [(1, (4, 95))]⟩
  | _ => ⟨[], [], [], []⟩
def h_r07_Names : Nat → Hint
  | 15 => ⟨[3, 6, 7], [], [(3, 9), (6, 9)], []⟩
  | 7 => ⟨[1, 3, 4, 5], [1], [(3, 9)], [(1, (1, 9)), (1, (2, 9)), (1, (3, 9)), (1, (4, 46)), (1, (5, 56)), (1, (6, 90)), (1, (7, 97)), (1, (8, 9))]⟩
  | 3 => ⟨[1, 3, 4], [1], [(3, 9)], [(1, (1, 9)), (1, (2, 9)), (1, (3, 9)), (1, (4, 46)), (1, (5, 56)), (1, (6, 90)), (1, (7, 97)), (1, (8, 9))]⟩
  | _ => ⟨[], [], [], []⟩
def h_r07_Parts : Nat → Hint
  | 4 => ⟨[0, 3, 4, 5], [], [(3, 9)], []⟩
  | _ => ⟨[], [], [], []⟩
def h_r07_Rename : Nat → Hint
  | 11 => ⟨[1, 2, 4, 5, 6, 7, 8, 9], [2, 4, 5, 7], [(8, 48)], [(2, (1, 9)), (2, (2, 9)), (2, (3, 9)), (2, (4, 46)), (2, (5, 56)), (2, (6, 90)), (2, (7, 97)), (2, (8, 9)), (4, (1, 9)), (4, (2, 9)), (4, (3, 9)), (4, (4, 46)), (4, (5, 56)), (4, (6, 90)), (4, (7, 97)), (4, (8, 9)), (5, (1, 9)), (5, (2, 9)), (5, (3, 9)), (5, (4, 46)), (5, (5, 56)), (5, (6, 90)), (5, (7, 97)), (5, (8, 9)), (7, (0, 9)), (7, (1, 9)), (7, (3, 48)), (7, (4, 9))]⟩
  | 5 => ⟨[1, 2, 4, 5, 6], [2, 4, 5], [], [(2, (1, 9)), (2, (2, 9)), (2, (3, 9)), (2, (4, 46)), (2, (5, 56)), (2, (6, 90)), (2, (7, 97)), (2, (8, 9)), (4, (1, 9)), (4, (2, 9)), (4, (3, 9)), (4, (4, 46)), (4, (5, 56)), (4, (6, 90)), (4, (7, 97)), (4, (8, 9)), (5, (1, 9)), (5, (2, 9)), (5, (3, 9)), (5, (4, 46)), (5, (5, 56)), (5, (6, 90)), (5, (7, 97)), (5, (8, 9))]⟩
  | _ => ⟨[], [], [], []⟩
def h_r07_Same : Nat → Hint
  | 10 => ⟨[2, 3, 5, 6, 7, 8], [2, 3, 6, 7], [], [(2, (1, 9)), (2, (2, 9)), (2, (3, 9)), (2, (4, 46)), (2, (5, 56)), (2, (6, 90)), (2, (7, 97)), (2, (8, 9)), (3, (1, 9)), (3, (2, 9)), (3, (3, 9)), (3, (4, 46)), (3, (5, 56)), (3, (6, 90)), (3, (7, 97)), (3, (8, 9)), (6, (0, 9)), (6, (1, 9)), (6, (3, 48)), (6, (4, 9)), (7, (0, 9)), (7, (1, 9)), (7, (3, 48)), (7, (4, 9))]⟩
  | 4 => ⟨[2, 3, 5], [2, 3], [], [(2, (1, 9)), (2, (2, 9)), (2, (3, 9)), (2, (4, 46)), (2, (5, 56)), (2, (6, 90)), (2, (7, 97)), (2, (8, 9)), (3, (1, 9)), (3, (2, 9)), (3, (3, 9)), (3, (4, 46)), (3, (5, 56)), (3, (6, 90)), (3, (7, 97)), (3, (8, 9))]⟩
  | _ => ⟨[], [], [], []⟩
def h_r07_SameExpr : Nat → Hint
  | _ => ⟨[], [], [], []⟩
def h_r07_SameExprs : Nat → Hint
  | 4 => ⟨[0, 1, 5], [], [], []⟩
  | _ => ⟨[], [], [], []⟩
def h_r07_SameRoutines : Nat → Hint
  | 10 => ⟨[0, 1, 5, 6, 7, 8], [6, 7], [], [(6, (0, 9)), (6, (1, 9)), (6, (4, 92)), (6, (5, 56)), (6, (6, 90)), (6, (7, 97)), (6, (8, 9)), (7, (0, 9)), (7, (1, 9)), (7, (4, 92)), (7, (5, 56)), (7, (6, 90)), (7, (7, 97)), (7, (8, 9))]⟩
  | 4 => ⟨[0, 1, 5], [], [], []⟩
  | _ => ⟨[], [], [], []⟩
def h_r07_SameStmts : Nat → Hint
  | 4 => ⟨[0, 1, 5], [], [], []⟩
  | _ => ⟨[], [], [], []⟩
def h_r07_Turned : Nat → Hint
  | 8 => ⟨[1, 5, 6, 7, 8, 9], [], [(5, 9)], []⟩
  | 4 => ⟨[1, 5, 6, 7], [], [(5, 9)], []⟩
  | _ => ⟨[], [], [], []⟩
def h_r07_routineNames : Nat → Hint
  | 8 => ⟨[0, 3, 4, 5, 6], [5], [(3, 9)], [(5, (0, 9)), (5, (1, 9)), (5, (4, 92)), (5, (5, 56)), (5, (6, 90)), (5, (7, 97)), (5, (8, 9))]⟩
  | 3 => ⟨[0, 3, 4], [], [(3, 9)], []⟩
  | _ => ⟨[], [], [], []⟩
def h_r07_sameMarks : Nat → Hint
  | _ => ⟨[], [], [], []⟩
def h_r07_sameVars : Nat → Hint
  | 4 => ⟨[0, 1, 5], [], [], []⟩
  | _ => ⟨[], [], [], []⟩
def h_r07_stmtNames : Nat → Hint
  | 8 => ⟨[0, 3, 4, 5], [], [(3, 9)], []⟩
  | 3 => ⟨[0, 3, 4], [], [(3, 9)], []⟩
  | _ => ⟨[], [], [], []⟩
def h_r07_turnExpr : Nat → Hint
  | 3 => ⟨[1, 2, 4, 5, 6], [2, 4, 5], [], [(2, (4, 95)), (4, (4, 95)), (5, (4, 95))]⟩
  | _ => ⟨[], [], [], []⟩
def h_r07_turnRoutines : Nat → Hint
  | 9 => ⟨[0, 1, 5, 6, 7, 8, 9], [7], [(5, 90), (8, 92)], [(7, (0, 9)), (7, (1, 9)), (7, (4, 92)), (7, (5, 56)), (7, (6, 90)), (7, (7, 97)), (7, (8, 9))]⟩
  | 3 => ⟨[0, 1, 5, 6], [], [(5, 90)], []⟩
  | _ => ⟨[], [], [], []⟩
def h_r07_turnStmts : Nat → Hint
  | 10 => ⟨[0, 1, 5, 6, 7, 8, 9], [7], [(5, 97), (8, 95)], [(7, (0, 9)), (7, (1, 9)), (7, (8, 95)), (7, (9, 95)), (7, (12, 97)), (7, (13, 97)), (7, (14, 9)), (7, (15, 9))]⟩
  | 3 => ⟨[0, 1, 5, 6], [], [(5, 97)], []⟩
  | _ => ⟨[], [], [], []⟩
def h_r07_turnVars : Nat → Hint
  | 3 => ⟨[0, 1, 5, 6], [], [(5, 56)], []⟩
  | _ => ⟨[], [], [], []⟩
def h_r07_varNames : Nat → Hint
  | 3 => ⟨[0, 3, 4], [], [(3, 9)], []⟩
  | _ => ⟨[], [], [], []⟩
def h_r16_SamePairs : Nat → Hint
  | 4 => ⟨[0, 1, 5], [], [], []⟩
  | _ => ⟨[], [], [], []⟩
def h_r16_Table : Nat → Hint
  | 5 => ⟨[0, 5, 6, 7, 8], [], [(5, 9), (6, 9), (7, 58)], []⟩
  | _ => ⟨[], [], [], []⟩
def h_rename_Apply : Nat → Hint
  | _ => ⟨[], [], [], []⟩
def h_rename_Table : Nat → Hint
  | 5 => ⟨[6, 7, 17, 18, 19], [], [(6, 9), (7, 58), (17, 9)], []⟩
  | _ => ⟨[], [], [], []⟩
def h_slices_Contains_string : Nat → Hint
  | _ => ⟨[], [], [], []⟩
def h_slices_Index_string : Nat → Hint
  | 2 => ⟨[0, 1, 7, 8], [], [], []⟩
  | _ => ⟨[], [], [], []⟩
def h_tree_Rename_1 : Nat → Hint
  | 2 => ⟨[0, 6, 7, 8], [], [(6, 58)], []⟩
  | _ => ⟨[], [], [], []⟩
def h_tree_each_Expr : Nat → Hint
  | 3 => ⟨[1, 5, 8, 9, 10], [], [(5, 95), (8, 95)], []⟩
  | _ => ⟨[], [], [], []⟩
def h_tree_each_Field : Nat → Hint
  | 3 => ⟨[1, 5, 8, 9, 10], [], [(5, 48), (8, 48)], []⟩
  | _ => ⟨[], [], [], []⟩
def h_tree_each_Param : Nat → Hint
  | 3 => ⟨[1, 5, 8, 9, 10], [], [(5, 92), (8, 92)], []⟩
  | _ => ⟨[], [], [], []⟩
def h_tree_each_Rec : Nat → Hint
  | 3 => ⟨[1, 5, 8, 9, 10], [], [(5, 46), (8, 46)], []⟩
  | _ => ⟨[], [], [], []⟩
def h_tree_each_Routine : Nat → Hint
  | 3 => ⟨[1, 5, 8, 9, 10], [], [(5, 90), (8, 90)], []⟩
  | _ => ⟨[], [], [], []⟩
def h_tree_each_Stmt : Nat → Hint
  | 3 => ⟨[1, 5, 8, 9, 10], [], [(5, 97), (8, 97)], []⟩
  | _ => ⟨[], [], [], []⟩
def h_tree_each_Var : Nat → Hint
  | 3 => ⟨[1, 5, 8, 9, 10], [], [(5, 56), (8, 56)], []⟩
  | _ => ⟨[], [], [], []⟩
def h_tree_mapper_expr : Nat → Hint
  | _ => ⟨[], [], [], []⟩
def h_tree_mapper_marks : Nat → Hint
  | _ => ⟨[], [], [], []⟩
def h_tree_mapper_program : Nat → Hint
  | _ => ⟨[], [], [], []⟩
def h_tree_mapper_rec : Nat → Hint
  | _ => ⟨[], [], [], []⟩
def h_tree_mapper_rec_1 : Nat → Hint
  | _ => ⟨[], [], [], []⟩
def h_tree_mapper_routine : Nat → Hint
  | _ => ⟨[], [], [], []⟩
def h_tree_mapper_routine_1 : Nat → Hint
  | _ => ⟨[], [], [], []⟩
def h_tree_mapper_stmt : Nat → Hint
  | _ => ⟨[], [], [], []⟩
def h_tree_mapper_typ : Nat → Hint
  | _ => ⟨[], [], [], []⟩
def h_tree_mapper_variable : Nat → Hint
  | _ => ⟨[], [], [], []⟩
def h_w16_RenameTables : Nat → Hint
  | _ => ⟨[], [], [], []⟩
def h_w16_awake : Nat → Hint
  | _ => ⟨[], [], [], []⟩
def h_words_Fresh : Nat → Hint
  | 3 => ⟨[0, 1, 5, 6], [], [], []⟩
  | _ => ⟨[], [], [], []⟩
end Go.Ev
end
section
open Go Go.Proofs
namespace Go.Ev
set_option linter.unusedVariables false
set_option linter.unusedSimpArgs false
set_option maxHeartbeats 4000000
set_option maxRecDepth 100000
def B_w16_RenameTables (s : Fam) (k : Nat) (x0 : Int) (x1 : TProgram) : Option (Bool) := ((s.f_r07_Names (x1, ())).bind fun t1 => (if decide ((↑(List.length t1) : Int) > 300) = Bool.true then ((s.f_w16_awake ()).bind fun t3 => some (t3)) else ((s.f_r07_Rename (x1, [], ())).bind fun t5 => ((s.f_rename_Table (x0, x1, ())).bind fun t6 => ((s.f_rename_Apply (x0, x1, ())).bind fun t7 => ((s.f_r16_Table (x0, x1, ())).bind fun t8 => ((s.f_r16_SamePairs (t6, t8, ())).bind fun t9 => (if t9 = Bool.true then ((s.f_r16_SamePairs (t7.snd.fst, t8, ())).bind fun t11 => (if (Bool.true && t11) = Bool.true then ((s.f_r07_Rename (x1, t8, ())).bind fun t13 => ((s.f_r07_Same (t7.fst, t13, ())).bind fun t15 => (if (Bool.true && t15) = Bool.true then ((s.f_r07_Same (x1, t5, ())).bind fun t17 => (if (Bool.true && t17) = Bool.true then ((s.f_w16_awake ()).bind fun t19 => some (Bool.true && t19)) else some (Bool.false))) else some (Bool.false)))) else some (Bool.false))) else some (Bool.false)))))))))
theorem e_w16_RenameTables (s : Fam) (k : Nat) (x : a_w16_RenameTables) : (evFunC EE (sp s) h_w16_RenameTables co_w16_RenameTables k Tryz.f3 (c_w16_RenameTables.enc x)).run = (B_w16_RenameTables s k x.1 x.2.1).map rc_w16_RenameTables.enc := by
  simp only [B_w16_RenameTables, map_ite, map_bindO, map_someO, map_noneO]
  kernel_rfl
-- 42 nodes
def Lr07_Names_7 (s : Fam) (k : Nat) (x0 : TProgram) (r3 : Int → ByteArray → List ByteArray → List ByteArray → List ByteArray → List TRec → List TVar → List TRoutine → List TStmt → List ByteArray → List ByteArray → Option (List ByteArray)) : Nat → Int → Int → ByteArray → List ByteArray → List ByteArray → List ByteArray → List TRec → List TVar → List TRoutine → List TStmt → List ByteArray → List ByteArray → Option (List ByteArray)
  | 0, _, _, _, _, _, _, _, _, _, _, _, _ => none
  | j7 + 1, uv0, uv1, uv2, uv3, uv4, uv5, uv6, uv7, uv8, uv9, uv10, uv11 => (if 0 ≤ uv0 then (if uv0 < (↑uv6.length : Int) then (if decide (uv1 < (↑(uv6.getD uv0.toNat dd_TRec).Fields.length : Int)) = Bool.true then (if 0 ≤ uv0 then (if uv0 < (↑uv6.length : Int) then (if 0 ≤ uv1 then (if uv1 < (↑(uv6.getD uv0.toNat dd_TRec).Fields.length : Int) then ((s.f_r07_Parts (((uv6.getD uv0.toNat dd_TRec).Fields.getD uv1.toNat dd_TField).Name, ())).bind fun t16 => (if (uv11 ++ t16).length * 16 ≤ 140737488355328 then Lr07_Names_7 s k x0 r3 j7 (uv0) (Go.IntKind.i64.wrap (uv1 + 1)) (uv2) (uv3) (uv4) (uv5) (uv6) (uv7) (uv8) (uv9) (uv10) (uv11 ++ t16) else none)) else none) else none) else none) else none) else r3 (Go.IntKind.i64.wrap (uv0 + 1)) (uv2) (uv3) (uv4) (uv5) (uv6) (uv7) (uv8) (uv9) (uv10) (uv11)) else none) else none)
def Lr07_Names_15 (s : Fam) (k : Nat) (x0 : TProgram) (r3 : Int → ByteArray → List ByteArray → List ByteArray → List ByteArray → List TRec → List TVar → List TRoutine → List TStmt → List ByteArray → List ByteArray → Option (List ByteArray)) : Nat → Int → List ByteArray → List ByteArray → Option (List ByteArray)
  | 0, _, _, _ => none
  | j15 + 1, uv0, uv1, uv2 => (if decide (uv0 < (↑uv1.length : Int)) = Bool.true then (if 0 ≤ uv0 then (if uv0 < (↑uv1.length : Int) then (if (!(uv1.getD uv0.toNat { data := #[] : ByteArray }).toList == { data := #[] : ByteArray }.toList) = Bool.true then (if 0 ≤ uv0 then (if uv0 < (↑uv1.length : Int) then ((s.f_r04_Among (uv2, uv1.getD uv0.toNat { data := #[] : ByteArray }, ())).bind fun t44 => (if (Bool.true && !t44) = Bool.true then (if 0 ≤ uv0 then (if uv0 < (↑uv1.length : Int) then (if (uv2 ++ [uv1.getD uv0.toNat { data := #[] : ByteArray }]).length * 16 ≤ 140737488355328 then Lr07_Names_15 s k x0 r3 j15 (Go.IntKind.i64.wrap (uv0 + 1)) (uv1) (uv2 ++ [uv1.getD uv0.toNat { data := #[] : ByteArray }]) else none) else none) else none) else Lr07_Names_15 s k x0 r3 j15 (Go.IntKind.i64.wrap (uv0 + 1)) (uv1) (uv2))) else none) else none) else Lr07_Names_15 s k x0 r3 j15 (Go.IntKind.i64.wrap (uv0 + 1)) (uv1) (uv2)) else none) else none) else some (uv2))
def Lr07_Names_3 (s : Fam) (k : Nat) (x0 : TProgram) : Nat → Int → ByteArray → List ByteArray → List ByteArray → List ByteArray → List TRec → List TVar → List TRoutine → List TStmt → List ByteArray → List ByteArray → Option (List ByteArray)
  | 0, _, _, _, _, _, _, _, _, _, _, _ => none
  | j3 + 1, v0, v1, v2, v3, v4, v5, v6, v7, v8, v9, v10 => (if decide (v0 < (↑v5.length : Int)) = Bool.true then (if 0 ≤ v0 then (if v0 < (↑v5.length : Int) then ((s.f_r07_Parts ((v5.getD v0.toNat dd_TRec).Name, ())).bind fun t6 => (if (v10 ++ t6).length * 16 ≤ 140737488355328 then Lr07_Names_7 s k x0 (Lr07_Names_3 s k x0 j3) k (v0) (0) (v1) (v2) (v3) (v4) (v5) (v6) (v7) (v8) (v9) (v10 ++ t6) else none)) else none) else none) else ((s.f_r07_varNames (v6, ())).bind fun t30 => (if (v10 ++ t30).length * 16 ≤ 140737488355328 then ((s.f_r07_routineNames (v7, ())).bind fun t32 => (if (v10 ++ t30 ++ t32).length * 16 ≤ 140737488355328 then ((s.f_r07_stmtNames (v8, ())).bind fun t34 => (if (v10 ++ t30 ++ t32 ++ t34).length * 16 ≤ 140737488355328 then Lr07_Names_15 s k x0 (Lr07_Names_3 s k x0 j3) k (0) (v10 ++ t30 ++ t32 ++ t34) ([]) else none)) else none)) else none)))
def B_r07_Names (s : Fam) (k : Nat) (x0 : TProgram) : Option (List ByteArray) := ((s.f_r07_Parts (x0.Name, ())).bind fun t1 => Lr07_Names_3 s k x0 k (0) (x0.Name) (x0.Before) (x0.Mid) (x0.After) (x0.Recs) (x0.Vars) (x0.Routines) (x0.Body) (x0.End) (t1))
theorem Lr07_Names_7_eq (s : Fam) (k : Nat) (x0 : TProgram) (j3 : Nat) (r3 : Int → ByteArray → List ByteArray → List ByteArray → List ByteArray → List TRec → List TVar → List TRoutine → List TStmt → List ByteArray → List ByteArray → Option (List ByteArray)) (h3 : ∀ (v0 : Int) (v1 : ByteArray) (v2 : List ByteArray) (v3 : List ByteArray) (v4 : List ByteArray) (v5 : List TRec) (v6 : List TVar) (v7 : List TRoutine) (v8 : List TStmt) (v9 : List ByteArray) (v10 : List ByteArray), (loopGo EE (sp s) h_r07_Names co_r07_Names [] k Tryz.f5 3 [] j3 ({ tmps := ofL AV.any [(1, AV.c (CV.ptr 1 0)), (3, AV.c (CV.own 3 0)), (4, AV.c (CV.d (DV.lit (Go.Value.int Go.IntKind.i64 v0))))], boxes := ofL Option.none [(1, Option.some [CV.d (DV.lit (Go.Value.string v1)), CV.d (DV.sl 9 v2), CV.d (DV.sl 9 v3), CV.d (DV.sl 9 v4), CV.d (DV.sl 46 v5), CV.d (DV.sl 56 v6), CV.d (DV.sl 90 v7), CV.d (DV.sl 97 v8), CV.d (DV.sl 9 v9)])], objs := ofL Option.none [(3, Option.some { ver := 0, t := 9, xs := v10 : Obj II }), (1099511631873, Option.none), (1099511631874, Option.none), (1099511631875, Option.none), (1099511631876, Option.none), (1099511631877, Option.none), (1099511631878, Option.none), (1099511631879, Option.none), (1099511631880, Option.none)], fxs := ofL Option.none [(1, Option.none)] : AS II })).run = (r3 v0 v1 v2 v3 v4 v5 v6 v7 v8 v9 v10).map rc_r07_Names.enc) : ∀ (j7 : Nat) (uv0 : Int) (uv1 : Int) (uv2 : ByteArray) (uv3 : List ByteArray) (uv4 : List ByteArray) (uv5 : List ByteArray) (uv6 : List TRec) (uv7 : List TVar) (uv8 : List TRoutine) (uv9 : List TStmt) (uv10 : List ByteArray) (uv11 : List ByteArray), (loopGo EE (sp s) h_r07_Names co_r07_Names [] k Tryz.f5 7 [j3] j7 ({ tmps := ofL AV.any [(1, AV.c (CV.ptr 1 0)), (3, AV.c (CV.own 3 0)), (4, AV.c (CV.d (DV.lit (Go.Value.int Go.IntKind.i64 uv0)))), (5, AV.c (CV.d (DV.lit (Go.Value.int Go.IntKind.i64 uv1))))], boxes := ofL Option.none [(1, Option.some [CV.d (DV.lit (Go.Value.string uv2)), CV.d (DV.sl 9 uv3), CV.d (DV.sl 9 uv4), CV.d (DV.sl 9 uv5), CV.d (DV.sl 46 uv6), CV.d (DV.sl 56 uv7), CV.d (DV.sl 90 uv8), CV.d (DV.sl 97 uv9), CV.d (DV.sl 9 uv10)])], objs := ofL Option.none [(3, Option.some { ver := 0, t := 9, xs := uv11 : Obj II }), (1099511631873, Option.none), (1099511631874, Option.none), (1099511631875, Option.none), (1099511631876, Option.none), (1099511631877, Option.none), (1099511631878, Option.none), (1099511631879, Option.none), (1099511631880, Option.none)], fxs := ofL Option.none [(1, Option.none)] : AS II })).run = (Lr07_Names_7 s k x0 r3 j7 uv0 uv1 uv2 uv3 uv4 uv5 uv6 uv7 uv8 uv9 uv10 uv11).map rc_r07_Names.enc := by
  intro j7
  induction j7 with
  | zero => intros; rfl
  | succ j7 ih =>
    intros
    simp only [Lr07_Names_7, map_ite, map_bindO, map_someO, map_noneO, ← ih, ← h3]
    kernel_rfl
theorem Lr07_Names_15_eq (s : Fam) (k : Nat) (x0 : TProgram) (j3 : Nat) (r3 : Int → ByteArray → List ByteArray → List ByteArray → List ByteArray → List TRec → List TVar → List TRoutine → List TStmt → List ByteArray → List ByteArray → Option (List ByteArray)) (h3 : ∀ (v0 : Int) (v1 : ByteArray) (v2 : List ByteArray) (v3 : List ByteArray) (v4 : List ByteArray) (v5 : List TRec) (v6 : List TVar) (v7 : List TRoutine) (v8 : List TStmt) (v9 : List ByteArray) (v10 : List ByteArray), (loopGo EE (sp s) h_r07_Names co_r07_Names [] k Tryz.f5 3 [] j3 ({ tmps := ofL AV.any [(1, AV.c (CV.ptr 1 0)), (3, AV.c (CV.own 3 0)), (4, AV.c (CV.d (DV.lit (Go.Value.int Go.IntKind.i64 v0))))], boxes := ofL Option.none [(1, Option.some [CV.d (DV.lit (Go.Value.string v1)), CV.d (DV.sl 9 v2), CV.d (DV.sl 9 v3), CV.d (DV.sl 9 v4), CV.d (DV.sl 46 v5), CV.d (DV.sl 56 v6), CV.d (DV.sl 90 v7), CV.d (DV.sl 97 v8), CV.d (DV.sl 9 v9)])], objs := ofL Option.none [(3, Option.some { ver := 0, t := 9, xs := v10 : Obj II }), (1099511631873, Option.none), (1099511631874, Option.none), (1099511631875, Option.none), (1099511631876, Option.none), (1099511631877, Option.none), (1099511631878, Option.none), (1099511631879, Option.none), (1099511631880, Option.none)], fxs := ofL Option.none [(1, Option.none)] : AS II })).run = (r3 v0 v1 v2 v3 v4 v5 v6 v7 v8 v9 v10).map rc_r07_Names.enc) : ∀ (j15 : Nat) (uv0 : Int) (uv1 : List ByteArray) (uv2 : List ByteArray), (loopGo EE (sp s) h_r07_Names co_r07_Names [] k Tryz.f5 15 [j3] j15 ({ tmps := ofL AV.any [(3, AV.c (CV.own 3 0)), (6, AV.c (CV.own 6 0)), (7, AV.c (CV.d (DV.lit (Go.Value.int Go.IntKind.i64 uv0))))], boxes := ofL Option.none [], objs := ofL Option.none [(3, Option.some { ver := 0, t := 9, xs := uv1 : Obj II }), (6, Option.some { ver := 0, t := 9, xs := uv2 : Obj II })], fxs := ofL Option.none [] : AS II })).run = (Lr07_Names_15 s k x0 r3 j15 uv0 uv1 uv2).map rc_r07_Names.enc := by
  intro j15
  induction j15 with
  | zero => intros; rfl
  | succ j15 ih =>
    intros
    simp only [Lr07_Names_15, map_ite, map_bindO, map_someO, map_noneO, ← ih, ← h3]
    kernel_rfl
theorem Lr07_Names_3_eq (s : Fam) (k : Nat) (x0 : TProgram) : ∀ (j3 : Nat) (v0 : Int) (v1 : ByteArray) (v2 : List ByteArray) (v3 : List ByteArray) (v4 : List ByteArray) (v5 : List TRec) (v6 : List TVar) (v7 : List TRoutine) (v8 : List TStmt) (v9 : List ByteArray) (v10 : List ByteArray), (loopGo EE (sp s) h_r07_Names co_r07_Names [] k Tryz.f5 3 [] j3 ({ tmps := ofL AV.any [(1, AV.c (CV.ptr 1 0)), (3, AV.c (CV.own 3 0)), (4, AV.c (CV.d (DV.lit (Go.Value.int Go.IntKind.i64 v0))))], boxes := ofL Option.none [(1, Option.some [CV.d (DV.lit (Go.Value.string v1)), CV.d (DV.sl 9 v2), CV.d (DV.sl 9 v3), CV.d (DV.sl 9 v4), CV.d (DV.sl 46 v5), CV.d (DV.sl 56 v6), CV.d (DV.sl 90 v7), CV.d (DV.sl 97 v8), CV.d (DV.sl 9 v9)])], objs := ofL Option.none [(3, Option.some { ver := 0, t := 9, xs := v10 : Obj II }), (1099511631873, Option.none), (1099511631874, Option.none), (1099511631875, Option.none), (1099511631876, Option.none), (1099511631877, Option.none), (1099511631878, Option.none), (1099511631879, Option.none), (1099511631880, Option.none)], fxs := ofL Option.none [(1, Option.none)] : AS II })).run = (Lr07_Names_3 s k x0 j3 v0 v1 v2 v3 v4 v5 v6 v7 v8 v9 v10).map rc_r07_Names.enc := by
  intro j3
  induction j3 with
  | zero => intros; rfl
  | succ j3 ih =>
    have q0 := Lr07_Names_7_eq s k x0 j3 (Lr07_Names_3 s k x0 j3) ih
    have q1 := Lr07_Names_15_eq s k x0 j3 (Lr07_Names_3 s k x0 j3) ih
    intros
    simp only [Lr07_Names_3, map_ite, map_bindO, map_someO, map_noneO, ← ih, ← q0, ← q1]
    kernel_rfl
theorem e_r07_Names (s : Fam) (k : Nat) (x : a_r07_Names) : (evFunC EE (sp s) h_r07_Names co_r07_Names k Tryz.f5 (c_r07_Names.enc x)).run = (B_r07_Names s k x.1).map rc_r07_Names.enc := by
  simp only [B_r07_Names, map_ite, map_bindO, map_someO, map_noneO, ← Lr07_Names_3_eq]
  kernel_rfl
-- 67 nodes
def B_w16_awake (s : Fam) (k : Nat) : Option (Bool) := ((s.f_rename_Apply (1, { Name := { data := #[112] : ByteArray }, Before := [], Mid := [], After := [], Recs := [], Vars := [{ Marks_Before := [], Marks_Trail := [], Name := { data := #[103, 101, 116] : ByteArray }, T_Kind := 1, T_Size := 0, T_Name := { data := #[] : ByteArray } : TVar }, { Marks_Before := [], Marks_Trail := [], Name := { data := #[103, 101, 116, 95, 49] : ByteArray }, T_Kind := 1, T_Size := 0, T_Name := { data := #[] : ByteArray } : TVar }], Routines := [], Body := [], End := [] : TProgram }, ())).bind fun t1 => ((s.f_r16_SamePairs (t1.snd.fst, [{ Old := { data := #[103, 101, 116] : ByteArray }, New := { data := #[103, 101, 116, 95, 50] : ByteArray } : TPair }], ())).bind fun t2 => (if t2 = Bool.true then (if 0 < (↑t1.fst.Vars.length : Int) then (if (Bool.true && (t1.fst.Vars.getD (Int.toNat 0) dd_TVar).Name.toList == { data := #[103, 101, 116, 95, 50] : ByteArray }.toList) = Bool.true then (if 1 < (↑t1.fst.Vars.length : Int) then (if (Bool.true && (t1.fst.Vars.getD (Int.toNat 1) dd_TVar).Name.toList == { data := #[103, 101, 116, 95, 49] : ByteArray }.toList) = Bool.true then ((s.f_rename_Table (0, { Name := { data := #[112] : ByteArray }, Before := [], Mid := [], After := [], Recs := [], Vars := [{ Marks_Before := [], Marks_Trail := [], Name := { data := #[103, 101, 116] : ByteArray }, T_Kind := 1, T_Size := 0, T_Name := { data := #[] : ByteArray } : TVar }, { Marks_Before := [], Marks_Trail := [], Name := { data := #[103, 101, 116, 95, 49] : ByteArray }, T_Kind := 1, T_Size := 0, T_Name := { data := #[] : ByteArray } : TVar }], Routines := [], Body := [], End := [] : TProgram }, ())).bind fun t10 => some (Bool.true && (↑(List.length t10) : Int) == 0)) else some (Bool.false)) else none) else some (Bool.false)) else none) else some (Bool.false))))
theorem e_w16_awake (s : Fam) (k : Nat) (x : a_w16_awake) : (evFunC EE (sp s) h_w16_awake co_w16_awake k Tryz.f6 (c_w16_awake.enc x)).run = (B_w16_awake s k).map rc_w16_awake.enc := by
  simp only [B_w16_awake, map_ite, map_bindO, map_someO, map_noneO]
  kernel_rfl
-- 40 nodes
def Lr07_Rename_11 (s : Fam) (k : Nat) (x0 : TProgram) (x1 : List TPair) (r5 : List TPair → Int → ByteArray → List ByteArray → List ByteArray → List ByteArray → List TRec → List TVar → List TRoutine → List TStmt → List ByteArray → ByteArray → b_r07_Turned → List ByteArray → List ByteArray → List ByteArray → List TVar → List TRoutine → List TStmt → List ByteArray → List ByteArray → List ByteArray → List ByteArray → List TRec → List TVar → List TRoutine → List TStmt → List ByteArray → List TRec → Option (TProgram)) : Nat → List TPair → Int → Int → ByteArray → List ByteArray → List ByteArray → List ByteArray → List TRec → List TVar → List TRoutine → List TStmt → List ByteArray → ByteArray → b_r07_Turned → List ByteArray → List ByteArray → List ByteArray → List TVar → List TRoutine → List TStmt → List ByteArray → List ByteArray → List ByteArray → b_r07_Turned → List TField → List ByteArray → List TField → List ByteArray → List ByteArray → List ByteArray → List TRec → List TVar → List TRoutine → List TStmt → List ByteArray → List TRec → Option (TProgram)
  | 0, _, _, _, _, _, _, _, _, _, _, _, _, _, _, _, _, _, _, _, _, _, _, _, _, _, _, _, _, _, _, _, _, _, _, _, _ => none
  | j11 + 1, uv0, uv1, uv2, uv3, uv4, uv5, uv6, uv7, uv8, uv9, uv10, uv11, uv12, uv13, uv14, uv15, uv16, uv17, uv18, uv19, uv20, uv21, uv22, uv23, uv24, uv25, uv26, uv27, uv28, uv29, uv30, uv31, uv32, uv33, uv34, uv35 => (if decide (uv2 < (↑uv24.length : Int)) = Bool.true then (if 0 ≤ uv2 then (if uv2 < (↑uv24.length : Int) then ((s.f_r07_Turned ((uv24.getD uv2.toNat dd_TField).Name, uv0, ())).bind fun t11 => (if (uv26 ++ [{ Marks_Before := (uv24.getD uv2.toNat dd_TField).Marks_Before, Marks_Trail := (uv24.getD uv2.toNat dd_TField).Marks_Trail, Name := t11, Kind := (uv24.getD uv2.toNat dd_TField).Kind : TField }]).length * 72 ≤ 140737488355328 then Lr07_Rename_11 s k x0 x1 r5 j11 (uv0) (uv1) (Go.IntKind.i64.wrap (uv2 + 1)) (uv3) (uv4) (uv5) (uv6) (uv7) (uv8) (uv9) (uv10) (uv11) (uv12) (uv13) (uv14) (uv15) (uv16) (uv17) (uv18) (uv19) (uv20) (uv21) (uv22) (uv23) (uv24) (uv25) (uv26 ++ [{ Marks_Before := (uv24.getD uv2.toNat dd_TField).Marks_Before, Marks_Trail := (uv24.getD uv2.toNat dd_TField).Marks_Trail, Name := t11, Kind := (uv24.getD uv2.toNat dd_TField).Kind : TField }]) (uv27) (uv28) (uv29) (uv30) (uv31) (uv32) (uv33) (uv34) (uv35) else none)) else none) else none) else (if (uv35 ++ [{ Marks_Before := uv21, Marks_Trail := uv22, Name := uv23, Fields := uv26, End := uv25 : TRec }]).length * 112 ≤ 140737488355328 then r5 (uv0) (Go.IntKind.i64.wrap (uv1 + 1)) (uv3) (uv4) (uv5) (uv6) (uv7) (uv8) (uv9) (uv10) (uv11) (uv12) (uv13) (uv14) (uv15) (uv16) (uv17) (uv18) (uv19) (uv20) (uv27) (uv28) (uv29) (uv30) (uv31) (uv32) (uv33) (uv34) (uv35 ++ [{ Marks_Before := uv21, Marks_Trail := uv22, Name := uv23, Fields := uv26, End := uv25 : TRec }]) else none))
def Lr07_Rename_5 (s : Fam) (k : Nat) (x0 : TProgram) (x1 : List TPair) : Nat → List TPair → Int → ByteArray → List ByteArray → List ByteArray → List ByteArray → List TRec → List TVar → List TRoutine → List TStmt → List ByteArray → ByteArray → b_r07_Turned → List ByteArray → List ByteArray → List ByteArray → List TVar → List TRoutine → List TStmt → List ByteArray → List ByteArray → List ByteArray → List ByteArray → List TRec → List TVar → List TRoutine → List TStmt → List ByteArray → List TRec → Option (TProgram)
  | 0, _, _, _, _, _, _, _, _, _, _, _, _, _, _, _, _, _, _, _, _, _, _, _, _, _, _, _, _, _ => none
  | j5 + 1, v0, v1, v2, v3, v4, v5, v6, v7, v8, v9, v10, v11, v12, v13, v14, v15, v16, v17, v18, v19, v20, v21, v22, v23, v24, v25, v26, v27, v28 => (if decide (v1 < (↑v6.length : Int)) = Bool.true then (if 0 ≤ v1 then (if v1 < (↑v6.length : Int) then ((s.f_r07_Turned ((v6.getD v1.toNat dd_TRec).Name, v0, ())).bind fun t6 => Lr07_Rename_11 s k x0 x1 (Lr07_Rename_5 s k x0 x1 j5) k (v0) (v1) (0) (v2) (v3) (v4) (v5) (v6) (v7) (v8) (v9) (v10) (v11) (v12) (v13) (v14) (v15) (v16) (v17) (v18) (v19) ((v6.getD v1.toNat dd_TRec).Marks_Before) ((v6.getD v1.toNat dd_TRec).Marks_Trail) (t6) ((v6.getD v1.toNat dd_TRec).Fields) ((v6.getD v1.toNat dd_TRec).End) ([]) (v20) (v21) (v22) (v23) (v24) (v25) (v26) (v27) (v28)) else none) else none) else ((s.f_r07_turnVars (v7, v0, ())).bind fun t22 => ((s.f_r07_turnRoutines (v8, v0, ())).bind fun t23 => ((s.f_r07_turnStmts (v9, v0, ())).bind fun t24 => some ({ Name := v12, Before := v13, Mid := v14, After := v15, Recs := v28, Vars := t22, Routines := t23, Body := t24, End := v19 : TProgram })))))
def B_r07_Rename (s : Fam) (k : Nat) (x0 : TProgram) (x1 : List TPair) : Option (TProgram) := ((s.f_r07_Turned (x0.Name, x1, ())).bind fun t1 => Lr07_Rename_5 s k x0 x1 k (x1) (0) (x0.Name) (x0.Before) (x0.Mid) (x0.After) (x0.Recs) (x0.Vars) (x0.Routines) (x0.Body) (x0.End) ({ data := #[] : ByteArray }) (t1) (x0.Before) (x0.Mid) (x0.After) (x0.Vars) (x0.Routines) (x0.Body) (x0.End) ([]) ([]) ([]) ([]) ([]) ([]) ([]) ([]) ([]))
theorem Lr07_Rename_11_eq (s : Fam) (k : Nat) (x0 : TProgram) (x1 : List TPair) (j5 : Nat) (r5 : List TPair → Int → ByteArray → List ByteArray → List ByteArray → List ByteArray → List TRec → List TVar → List TRoutine → List TStmt → List ByteArray → ByteArray → b_r07_Turned → List ByteArray → List ByteArray → List ByteArray → List TVar → List TRoutine → List TStmt → List ByteArray → List ByteArray → List ByteArray → List ByteArray → List TRec → List TVar → List TRoutine → List TStmt → List ByteArray → List TRec → Option (TProgram)) (h5 : ∀ (v0 : List TPair) (v1 : Int) (v2 : ByteArray) (v3 : List ByteArray) (v4 : List ByteArray) (v5 : List ByteArray) (v6 : List TRec) (v7 : List TVar) (v8 : List TRoutine) (v9 : List TStmt) (v10 : List ByteArray) (v11 : ByteArray) (v12 : b_r07_Turned) (v13 : List ByteArray) (v14 : List ByteArray) (v15 : List ByteArray) (v16 : List TVar) (v17 : List TRoutine) (v18 : List TStmt) (v19 : List ByteArray) (v20 : List ByteArray) (v21 : List ByteArray) (v22 : List ByteArray) (v23 : List TRec) (v24 : List TVar) (v25 : List TRoutine) (v26 : List TStmt) (v27 : List ByteArray) (v28 : List TRec), (loopGo EE (sp s) h_r07_Rename co_r07_Rename [] k Tryz.f7 5 [] j5 ({ tmps := ofL AV.any [(1, AV.c (CV.d (DV.sl 58 v0))), (2, AV.c (CV.ptr 2 0)), (4, AV.c (CV.ptr 4 0)), (5, AV.c (CV.ptr 5 0)), (6, AV.c (CV.d (DV.lit (Go.Value.int Go.IntKind.i64 v1))))], boxes := ofL Option.none [(2, Option.some [CV.d (DV.lit (Go.Value.string v2)), CV.d (DV.sl 9 v3), CV.d (DV.sl 9 v4), CV.d (DV.sl 9 v5), CV.d (DV.sl 46 v6), CV.d (DV.sl 56 v7), CV.d (DV.sl 90 v8), CV.d (DV.sl 97 v9), CV.d (DV.sl 9 v10)]), (4, Option.some [CV.d (DV.lit (Go.Value.string v11)), CV.own 1099511644161 0, CV.own 1099511644162 0, CV.own 1099511644163 0, CV.own 1099511644164 0, CV.own 1099511644165 0, CV.own 1099511644166 0, CV.own 1099511644167 0, CV.own 1099511644168 0]), (5, Option.some [CV.d (DV.lit (Go.Value.string v12)), CV.d (DV.sl 9 v13), CV.d (DV.sl 9 v14), CV.d (DV.sl 9 v15), CV.own 1099511648260 0, CV.d (DV.sl 56 v16), CV.d (DV.sl 90 v17), CV.d (DV.sl 97 v18), CV.d (DV.sl 9 v19)])], objs := ofL Option.none [(1099511635969, Option.none), (1099511635970, Option.none), (1099511635971, Option.none), (1099511635972, Option.none), (1099511635973, Option.none), (1099511635974, Option.none), (1099511635975, Option.none), (1099511635976, Option.none), (1099511644161, Option.some { ver := 0, t := 9, xs := v20 : Obj II }), (1099511644162, Option.some { ver := 0, t := 9, xs := v21 : Obj II }), (1099511644163, Option.some { ver := 0, t := 9, xs := v22 : Obj II }), (1099511644164, Option.some { ver := 0, t := 46, xs := v23 : Obj II }), (1099511644165, Option.some { ver := 0, t := 56, xs := v24 : Obj II }), (1099511644166, Option.some { ver := 0, t := 90, xs := v25 : Obj II }), (1099511644167, Option.some { ver := 0, t := 97, xs := v26 : Obj II }), (1099511644168, Option.some { ver := 0, t := 9, xs := v27 : Obj II }), (1099511648257, Option.none), (1099511648258, Option.none), (1099511648259, Option.none), (1099511648260, Option.some { ver := 0, t := 46, xs := v28 : Obj II }), (1099511648261, Option.none), (1099511648262, Option.none), (1099511648263, Option.none), (1099511648264, Option.none)], fxs := ofL Option.none [(2, Option.none), (4, Option.none), (5, Option.none)] : AS II })).run = (r5 v0 v1 v2 v3 v4 v5 v6 v7 v8 v9 v10 v11 v12 v13 v14 v15 v16 v17 v18 v19 v20 v21 v22 v23 v24 v25 v26 v27 v28).map rc_r07_Rename.enc) : ∀ (j11 : Nat) (uv0 : List TPair) (uv1 : Int) (uv2 : Int) (uv3 : ByteArray) (uv4 : List ByteArray) (uv5 : List ByteArray) (uv6 : List ByteArray) (uv7 : List TRec) (uv8 : List TVar) (uv9 : List TRoutine) (uv10 : List TStmt) (uv11 : List ByteArray) (uv12 : ByteArray) (uv13 : b_r07_Turned) (uv14 : List ByteArray) (uv15 : List ByteArray) (uv16 : List ByteArray) (uv17 : List TVar) (uv18 : List TRoutine) (uv19 : List TStmt) (uv20 : List ByteArray) (uv21 : List ByteArray) (uv22 : List ByteArray) (uv23 : b_r07_Turned) (uv24 : List TField) (uv25 : List ByteArray) (uv26 : List TField) (uv27 : List ByteArray) (uv28 : List ByteArray) (uv29 : List ByteArray) (uv30 : List TRec) (uv31 : List TVar) (uv32 : List TRoutine) (uv33 : List TStmt) (uv34 : List ByteArray) (uv35 : List TRec), (loopGo EE (sp s) h_r07_Rename co_r07_Rename [] k Tryz.f7 11 [j5] j11 ({ tmps := ofL AV.any [(1, AV.c (CV.d (DV.sl 58 uv0))), (2, AV.c (CV.ptr 2 0)), (4, AV.c (CV.ptr 4 0)), (5, AV.c (CV.ptr 5 0)), (6, AV.c (CV.d (DV.lit (Go.Value.int Go.IntKind.i64 uv1)))), (7, AV.c (CV.ptr 7 0)), (8, AV.c (CV.own 8 0)), (9, AV.c (CV.d (DV.lit (Go.Value.int Go.IntKind.i64 uv2))))], boxes := ofL Option.none [(2, Option.some [CV.d (DV.lit (Go.Value.string uv3)), CV.d (DV.sl 9 uv4), CV.d (DV.sl 9 uv5), CV.d (DV.sl 9 uv6), CV.d (DV.sl 46 uv7), CV.d (DV.sl 56 uv8), CV.d (DV.sl 90 uv9), CV.d (DV.sl 97 uv10), CV.d (DV.sl 9 uv11)]), (4, Option.some [CV.d (DV.lit (Go.Value.string uv12)), CV.own 1099511644161 0, CV.own 1099511644162 0, CV.own 1099511644163 0, CV.own 1099511644164 0, CV.own 1099511644165 0, CV.own 1099511644166 0, CV.own 1099511644167 0, CV.own 1099511644168 0]), (5, Option.some [CV.d (DV.lit (Go.Value.string uv13)), CV.d (DV.sl 9 uv14), CV.d (DV.sl 9 uv15), CV.d (DV.sl 9 uv16), CV.own 1099511648260 0, CV.d (DV.sl 56 uv17), CV.d (DV.sl 90 uv18), CV.d (DV.sl 97 uv19), CV.d (DV.sl 9 uv20)]), (7, Option.some [CV.d (DV.sl 9 uv21), CV.d (DV.sl 9 uv22), CV.d (DV.lit (Go.Value.string uv23)), CV.d (DV.sl 48 uv24), CV.d (DV.sl 9 uv25)])], objs := ofL Option.none [(8, Option.some { ver := 0, t := 48, xs := uv26 : Obj II }), (1099511635969, Option.none), (1099511635970, Option.none), (1099511635971, Option.none), (1099511635972, Option.none), (1099511635973, Option.none), (1099511635974, Option.none), (1099511635975, Option.none), (1099511635976, Option.none), (1099511644161, Option.some { ver := 0, t := 9, xs := uv27 : Obj II }), (1099511644162, Option.some { ver := 0, t := 9, xs := uv28 : Obj II }), (1099511644163, Option.some { ver := 0, t := 9, xs := uv29 : Obj II }), (1099511644164, Option.some { ver := 0, t := 46, xs := uv30 : Obj II }), (1099511644165, Option.some { ver := 0, t := 56, xs := uv31 : Obj II }), (1099511644166, Option.some { ver := 0, t := 90, xs := uv32 : Obj II }), (1099511644167, Option.some { ver := 0, t := 97, xs := uv33 : Obj II }), (1099511644168, Option.some { ver := 0, t := 9, xs := uv34 : Obj II }), (1099511648257, Option.none), (1099511648258, Option.none), (1099511648259, Option.none), (1099511648260, Option.some { ver := 0, t := 46, xs := uv35 : Obj II }), (1099511648261, Option.none), (1099511648262, Option.none), (1099511648263, Option.none), (1099511648264, Option.none), (1099511656448, Option.none), (1099511656449, Option.none), (1099511656451, Option.none), (1099511656452, Option.none)], fxs := ofL Option.none [(2, Option.none), (4, Option.none), (5, Option.none), (7, Option.none)] : AS II })).run = (Lr07_Rename_11 s k x0 x1 r5 j11 uv0 uv1 uv2 uv3 uv4 uv5 uv6 uv7 uv8 uv9 uv10 uv11 uv12 uv13 uv14 uv15 uv16 uv17 uv18 uv19 uv20 uv21 uv22 uv23 uv24 uv25 uv26 uv27 uv28 uv29 uv30 uv31 uv32 uv33 uv34 uv35).map rc_r07_Rename.enc := by
  intro j11
  induction j11 with
  | zero => intros; rfl
  | succ j11 ih =>
    intros
    simp only [Lr07_Rename_11, map_ite, map_bindO, map_someO, map_noneO, ← ih, ← h5]
    kernel_rfl
theorem Lr07_Rename_5_eq (s : Fam) (k : Nat) (x0 : TProgram) (x1 : List TPair) : ∀ (j5 : Nat) (v0 : List TPair) (v1 : Int) (v2 : ByteArray) (v3 : List ByteArray) (v4 : List ByteArray) (v5 : List ByteArray) (v6 : List TRec) (v7 : List TVar) (v8 : List TRoutine) (v9 : List TStmt) (v10 : List ByteArray) (v11 : ByteArray) (v12 : b_r07_Turned) (v13 : List ByteArray) (v14 : List ByteArray) (v15 : List ByteArray) (v16 : List TVar) (v17 : List TRoutine) (v18 : List TStmt) (v19 : List ByteArray) (v20 : List ByteArray) (v21 : List ByteArray) (v22 : List ByteArray) (v23 : List TRec) (v24 : List TVar) (v25 : List TRoutine) (v26 : List TStmt) (v27 : List ByteArray) (v28 : List TRec), (loopGo EE (sp s) h_r07_Rename co_r07_Rename [] k Tryz.f7 5 [] j5 ({ tmps := ofL AV.any [(1, AV.c (CV.d (DV.sl 58 v0))), (2, AV.c (CV.ptr 2 0)), (4, AV.c (CV.ptr 4 0)), (5, AV.c (CV.ptr 5 0)), (6, AV.c (CV.d (DV.lit (Go.Value.int Go.IntKind.i64 v1))))], boxes := ofL Option.none [(2, Option.some [CV.d (DV.lit (Go.Value.string v2)), CV.d (DV.sl 9 v3), CV.d (DV.sl 9 v4), CV.d (DV.sl 9 v5), CV.d (DV.sl 46 v6), CV.d (DV.sl 56 v7), CV.d (DV.sl 90 v8), CV.d (DV.sl 97 v9), CV.d (DV.sl 9 v10)]), (4, Option.some [CV.d (DV.lit (Go.Value.string v11)), CV.own 1099511644161 0, CV.own 1099511644162 0, CV.own 1099511644163 0, CV.own 1099511644164 0, CV.own 1099511644165 0, CV.own 1099511644166 0, CV.own 1099511644167 0, CV.own 1099511644168 0]), (5, Option.some [CV.d (DV.lit (Go.Value.string v12)), CV.d (DV.sl 9 v13), CV.d (DV.sl 9 v14), CV.d (DV.sl 9 v15), CV.own 1099511648260 0, CV.d (DV.sl 56 v16), CV.d (DV.sl 90 v17), CV.d (DV.sl 97 v18), CV.d (DV.sl 9 v19)])], objs := ofL Option.none [(1099511635969, Option.none), (1099511635970, Option.none), (1099511635971, Option.none), (1099511635972, Option.none), (1099511635973, Option.none), (1099511635974, Option.none), (1099511635975, Option.none), (1099511635976, Option.none), (1099511644161, Option.some { ver := 0, t := 9, xs := v20 : Obj II }), (1099511644162, Option.some { ver := 0, t := 9, xs := v21 : Obj II }), (1099511644163, Option.some { ver := 0, t := 9, xs := v22 : Obj II }), (1099511644164, Option.some { ver := 0, t := 46, xs := v23 : Obj II }), (1099511644165, Option.some { ver := 0, t := 56, xs := v24 : Obj II }), (1099511644166, Option.some { ver := 0, t := 90, xs := v25 : Obj II }), (1099511644167, Option.some { ver := 0, t := 97, xs := v26 : Obj II }), (1099511644168, Option.some { ver := 0, t := 9, xs := v27 : Obj II }), (1099511648257, Option.none), (1099511648258, Option.none), (1099511648259, Option.none), (1099511648260, Option.some { ver := 0, t := 46, xs := v28 : Obj II }), (1099511648261, Option.none), (1099511648262, Option.none), (1099511648263, Option.none), (1099511648264, Option.none)], fxs := ofL Option.none [(2, Option.none), (4, Option.none), (5, Option.none)] : AS II })).run = (Lr07_Rename_5 s k x0 x1 j5 v0 v1 v2 v3 v4 v5 v6 v7 v8 v9 v10 v11 v12 v13 v14 v15 v16 v17 v18 v19 v20 v21 v22 v23 v24 v25 v26 v27 v28).map rc_r07_Rename.enc := by
  intro j5
  induction j5 with
  | zero => intros; rfl
  | succ j5 ih =>
    have q0 := Lr07_Rename_11_eq s k x0 x1 j5 (Lr07_Rename_5 s k x0 x1 j5) ih
    intros
    simp only [Lr07_Rename_5, map_ite, map_bindO, map_someO, map_noneO, ← ih, ← q0]
    kernel_rfl
theorem e_r07_Rename (s : Fam) (k : Nat) (x : a_r07_Rename) : (evFunC EE (sp s) h_r07_Rename co_r07_Rename k Tryz.f7 (c_r07_Rename.enc x)).run = (B_r07_Rename s k x.1 x.2.1).map rc_r07_Rename.enc := by
  simp only [B_r07_Rename, map_ite, map_bindO, map_someO, map_noneO, ← Lr07_Rename_5_eq]
  kernel_rfl
-- 25 nodes
def Lrename_Table_5 (s : Fam) (k : Nat) (x0 : Int) (x1 : TProgram) : Nat → Int → Int → List ByteArray → List TPair → List ByteArray → Option (List TPair)
  | 0, _, _, _, _, _ => none
  | j5 + 1, v0, v1, v2, v3, v4 => (if decide (v1 < v0) = Bool.true then (if 0 ≤ v1 then (if v1 < (↑v4.length : Int) then ((s.f_words_Fresh (v4.getD v1.toNat { data := #[] : ByteArray }, v2, ())).bind fun t8 => (if (v2 ++ [t8]).length * 16 ≤ 140737488355328 then (if (v3 ++ [{ Old := v4.getD v1.toNat { data := #[] : ByteArray }, New := t8 : TPair }]).length * 32 ≤ 140737488355328 then Lrename_Table_5 s k x0 x1 j5 (v0) (Go.IntKind.i64.wrap (v1 + 1)) (v2 ++ [t8]) (v3 ++ [{ Old := v4.getD v1.toNat { data := #[] : ByteArray }, New := t8 : TPair }]) (v4) else none) else none)) else none) else none) else some (v3))
def B_rename_Table (s : Fam) (k : Nat) (x0 : Int) (x1 : TProgram) : Option (List TPair) := ((s.f_tree_Names (x1, ())).bind fun t1 => ((s.f_slices_Clone_string (t1, ())).bind fun t2 => ((s.f_words_Clash (x0, t1, ())).bind fun t3 => Lrename_Table_5 s k x0 x1 k ((↑(List.length t3) : Int)) (0) (t2) ([]) (t3))))
theorem Lrename_Table_5_eq (s : Fam) (k : Nat) (x0 : Int) (x1 : TProgram) : ∀ (j5 : Nat) (v0 : Int) (v1 : Int) (v2 : List ByteArray) (v3 : List TPair) (v4 : List ByteArray), (loopGo EE (sp s) h_rename_Table co_rename_Table [] k Tryz.f8 5 [] j5 ({ tmps := ofL AV.any [(6, AV.c (CV.own 6 0)), (7, AV.c (CV.own 7 0)), (17, AV.c (CV.own 17 0)), (18, AV.c (CV.d (DV.lit (Go.Value.int Go.IntKind.i64 v0)))), (19, AV.c (CV.d (DV.lit (Go.Value.int Go.IntKind.i64 v1))))], boxes := ofL Option.none [], objs := ofL Option.none [(6, Option.some { ver := 0, t := 9, xs := v2 : Obj II }), (7, Option.some { ver := 0, t := 58, xs := v3 : Obj II }), (17, Option.some { ver := 0, t := 9, xs := v4 : Obj II })], fxs := ofL Option.none [] : AS II })).run = (Lrename_Table_5 s k x0 x1 j5 v0 v1 v2 v3 v4).map rc_rename_Table.enc := by
  intro j5
  induction j5 with
  | zero => intros; rfl
  | succ j5 ih =>
    intros
    simp only [Lrename_Table_5, map_ite, map_bindO, map_someO, map_noneO, ← ih]
    kernel_rfl
theorem e_rename_Table (s : Fam) (k : Nat) (x : a_rename_Table) : (evFunC EE (sp s) h_rename_Table co_rename_Table k Tryz.f8 (c_rename_Table.enc x)).run = (B_rename_Table s k x.1 x.2.1).map rc_rename_Table.enc := by
  simp only [B_rename_Table, map_ite, map_bindO, map_someO, map_noneO, ← Lrename_Table_5_eq]
  kernel_rfl
-- 16 nodes
def B_rename_Apply (s : Fam) (k : Nat) (x0 : Int) (x1 : TProgram) : Option (TProgram × List TPair × Unit) := ((s.f_rename_Table (x0, x1, ())).bind fun t1 => ((s.f_tree_Rename (x1, t1, ())).bind fun t2 => some ((t2, t1, ()))))
theorem e_rename_Apply (s : Fam) (k : Nat) (x : a_rename_Apply) : (evFunC EE (sp s) h_rename_Apply co_rename_Apply k Tryz.f9 (c_rename_Apply.enc x)).run = (B_rename_Apply s k x.1 x.2.1).map rc_rename_Apply.enc := by
  simp only [B_rename_Apply, map_ite, map_bindO, map_someO, map_noneO]
  kernel_rfl
-- 3 nodes
def Lr16_Table_5 (s : Fam) (k : Nat) (x0 : Int) (x1 : TProgram) : Nat → Int → b_r07_Names → Int → List ByteArray → List TPair → Option (List TPair)
  | 0, _, _, _, _, _ => none
  | j5 + 1, v0, v1, v2, v3, v4 => (if decide (v2 < (↑(List.length v1) : Int)) = Bool.true then (if 0 ≤ v2 then (if v2 < (↑(List.length v1) : Int) then ((s.f_r04_Is (v0, List.getD v1 v2.toNat { data := #[] : ByteArray }, ())).bind fun t7 => (if t7 = Bool.true then (if 0 ≤ v2 then (if v2 < (↑(List.length v1) : Int) then ((s.f_r04_Fresh (List.getD v1 v2.toNat { data := #[] : ByteArray }, v3, ())).bind fun t11 => (if (v3 ++ [t11]).length * 16 ≤ 140737488355328 then (if 0 ≤ v2 then (if v2 < (↑(List.length v1) : Int) then (if (v4 ++ [{ Old := List.getD v1 v2.toNat { data := #[] : ByteArray }, New := t11 : TPair }]).length * 32 ≤ 140737488355328 then Lr16_Table_5 s k x0 x1 j5 (v0) (v1) (Go.IntKind.i64.wrap (v2 + 1)) (v3 ++ [t11]) (v4 ++ [{ Old := List.getD v1 v2.toNat { data := #[] : ByteArray }, New := t11 : TPair }]) else none) else none) else none) else none)) else none) else none) else Lr16_Table_5 s k x0 x1 j5 (v0) (v1) (Go.IntKind.i64.wrap (v2 + 1)) (v3) (v4))) else none) else none) else some (v4))
def B_r16_Table (s : Fam) (k : Nat) (x0 : Int) (x1 : TProgram) : Option (List TPair) := ((s.f_r07_Names (x1, ())).bind fun t1 => (if ([] ++ t1).length * 16 ≤ 140737488355328 then Lr16_Table_5 s k x0 x1 k (x0) (t1) (0) ([] ++ t1) ([]) else none))
theorem Lr16_Table_5_eq (s : Fam) (k : Nat) (x0 : Int) (x1 : TProgram) : ∀ (j5 : Nat) (v0 : Int) (v1 : b_r07_Names) (v2 : Int) (v3 : List ByteArray) (v4 : List TPair), (loopGo EE (sp s) h_r16_Table co_r16_Table [] k Tryz.f10 5 [] j5 ({ tmps := ofL AV.any [(0, AV.c (CV.d (DV.lit (Go.Value.int Go.IntKind.i64 v0)))), (5, AV.c (CV.d (DV.sl 9 v1))), (6, AV.c (CV.own 6 0)), (7, AV.c (CV.own 7 0)), (8, AV.c (CV.d (DV.lit (Go.Value.int Go.IntKind.i64 v2))))], boxes := ofL Option.none [], objs := ofL Option.none [(5, Option.none), (6, Option.some { ver := 0, t := 9, xs := v3 : Obj II }), (7, Option.some { ver := 0, t := 58, xs := v4 : Obj II })], fxs := ofL Option.none [] : AS II })).run = (Lr16_Table_5 s k x0 x1 j5 v0 v1 v2 v3 v4).map rc_r16_Table.enc := by
  intro j5
  induction j5 with
  | zero => intros; rfl
  | succ j5 ih =>
    intros
    simp only [Lr16_Table_5, map_ite, map_bindO, map_someO, map_noneO, ← ih]
    kernel_rfl
theorem e_r16_Table (s : Fam) (k : Nat) (x : a_r16_Table) : (evFunC EE (sp s) h_r16_Table co_r16_Table k Tryz.f10 (c_r16_Table.enc x)).run = (B_r16_Table s k x.1 x.2.1).map rc_r16_Table.enc := by
  simp only [B_r16_Table, map_ite, map_bindO, map_someO, map_noneO, ← Lr16_Table_5_eq]
  kernel_rfl
-- 27 nodes
def Lr16_SamePairs_4 (s : Fam) (k : Nat) (x0 : List TPair) (x1 : List TPair) : Nat → List TPair → List TPair → Int → Option (Bool)
  | 0, _, _, _ => none
  | j4 + 1, v0, v1, v2 => (if decide (v2 < (↑v0.length : Int)) = Bool.true then (if 0 ≤ v2 then (if v2 < (↑v0.length : Int) then (if 0 ≤ v2 then (if v2 < (↑v1.length : Int) then (if (!((v0.getD v2.toNat dd_TPair).Old.toList == (v1.getD v2.toNat dd_TPair).Old.toList && ((v0.getD v2.toNat dd_TPair).New.toList == (v1.getD v2.toNat dd_TPair).New.toList && Bool.true))) = Bool.true then some (Bool.false) else Lr16_SamePairs_4 s k x0 x1 j4 (v0) (v1) (Go.IntKind.i64.wrap (v2 + 1))) else none) else none) else none) else none) else some (Bool.true))
def B_r16_SamePairs (s : Fam) (k : Nat) (x0 : List TPair) (x1 : List TPair) : Option (Bool) := (if ((↑x0.length : Int) != (↑x1.length : Int)) = Bool.true then some (Bool.false) else Lr16_SamePairs_4 s k x0 x1 k (x0) (x1) (0))
theorem Lr16_SamePairs_4_eq (s : Fam) (k : Nat) (x0 : List TPair) (x1 : List TPair) : ∀ (j4 : Nat) (v0 : List TPair) (v1 : List TPair) (v2 : Int), (loopGo EE (sp s) h_r16_SamePairs co_r16_SamePairs [] k Tryz.f11 4 [] j4 ({ tmps := ofL AV.any [(0, AV.c (CV.d (DV.sl 58 v0))), (1, AV.c (CV.d (DV.sl 58 v1))), (5, AV.c (CV.d (DV.lit (Go.Value.int Go.IntKind.i64 v2))))], boxes := ofL Option.none [], objs := ofL Option.none [], fxs := ofL Option.none [] : AS II })).run = (Lr16_SamePairs_4 s k x0 x1 j4 v0 v1 v2).map rc_r16_SamePairs.enc := by
  intro j4
  induction j4 with
  | zero => intros; rfl
  | succ j4 ih =>
    intros
    simp only [Lr16_SamePairs_4, map_ite, map_bindO, map_someO, map_noneO, ← ih]
    kernel_rfl
theorem e_r16_SamePairs (s : Fam) (k : Nat) (x : a_r16_SamePairs) : (evFunC EE (sp s) h_r16_SamePairs co_r16_SamePairs k Tryz.f11 (c_r16_SamePairs.enc x)).run = (B_r16_SamePairs s k x.1 x.2.1).map rc_r16_SamePairs.enc := by
  simp only [B_r16_SamePairs, map_ite, map_bindO, map_someO, map_noneO, ← Lr16_SamePairs_4_eq]
  kernel_rfl
-- 16 nodes
def Lr07_Same_10 (s : Fam) (k : Nat) (x0 : TProgram) (x1 : TProgram) (r4 : Int → ByteArray → List ByteArray → List ByteArray → List ByteArray → List TRec → List TVar → List TRoutine → List TStmt → List ByteArray → ByteArray → List ByteArray → List ByteArray → List ByteArray → List TRec → List TVar → List TRoutine → List TStmt → List ByteArray → Option (Bool)) : Nat → Int → Int → ByteArray → List ByteArray → List ByteArray → List ByteArray → List TRec → List TVar → List TRoutine → List TStmt → List ByteArray → ByteArray → List ByteArray → List ByteArray → List ByteArray → List TRec → List TVar → List TRoutine → List TStmt → List ByteArray → List ByteArray → List ByteArray → ByteArray → List TField → List ByteArray → List ByteArray → List ByteArray → ByteArray → List TField → List ByteArray → Option (Bool)
  | 0, _, _, _, _, _, _, _, _, _, _, _, _, _, _, _, _, _, _, _, _, _, _, _, _, _, _, _, _, _, _ => none
  | j10 + 1, uv0, uv1, uv2, uv3, uv4, uv5, uv6, uv7, uv8, uv9, uv10, uv11, uv12, uv13, uv14, uv15, uv16, uv17, uv18, uv19, uv20, uv21, uv22, uv23, uv24, uv25, uv26, uv27, uv28, uv29 => (if decide (uv1 < (↑uv23.length : Int)) = Bool.true then (if 0 ≤ uv1 then (if uv1 < (↑uv23.length : Int) then (if 0 ≤ uv1 then (if uv1 < (↑uv28.length : Int) then ((s.f_r07_sameMarks ((uv23.getD uv1.toNat dd_TField).sub_Marks, (uv28.getD uv1.toNat dd_TField).sub_Marks, ())).bind fun t28 => (if (!t28) = Bool.false then (if 0 ≤ uv1 then (if uv1 < (↑uv23.length : Int) then (if 0 ≤ uv1 then (if uv1 < (↑uv28.length : Int) then (if (Bool.false || !(uv23.getD uv1.toNat dd_TField).Name.toList == (uv28.getD uv1.toNat dd_TField).Name.toList) = Bool.false then (if 0 ≤ uv1 then (if uv1 < (↑uv23.length : Int) then (if 0 ≤ uv1 then (if uv1 < (↑uv28.length : Int) then (if (Bool.false || (uv23.getD uv1.toNat dd_TField).Kind != (uv28.getD uv1.toNat dd_TField).Kind) = Bool.true then some (Bool.false) else Lr07_Same_10 s k x0 x1 r4 j10 (uv0) (Go.IntKind.i64.wrap (uv1 + 1)) (uv2) (uv3) (uv4) (uv5) (uv6) (uv7) (uv8) (uv9) (uv10) (uv11) (uv12) (uv13) (uv14) (uv15) (uv16) (uv17) (uv18) (uv19) (uv20) (uv21) (uv22) (uv23) (uv24) (uv25) (uv26) (uv27) (uv28) (uv29)) else none) else none) else none) else none) else some (Bool.false)) else none) else none) else none) else none) else some (Bool.false))) else none) else none) else none) else none) else r4 (Go.IntKind.i64.wrap (uv0 + 1)) (uv2) (uv3) (uv4) (uv5) (uv6) (uv7) (uv8) (uv9) (uv10) (uv11) (uv12) (uv13) (uv14) (uv15) (uv16) (uv17) (uv18) (uv19))
def Lr07_Same_4 (s : Fam) (k : Nat) (x0 : TProgram) (x1 : TProgram) : Nat → Int → ByteArray → List ByteArray → List ByteArray → List ByteArray → List TRec → List TVar → List TRoutine → List TStmt → List ByteArray → ByteArray → List ByteArray → List ByteArray → List ByteArray → List TRec → List TVar → List TRoutine → List TStmt → List ByteArray → Option (Bool)
  | 0, _, _, _, _, _, _, _, _, _, _, _, _, _, _, _, _, _, _, _ => none
  | j4 + 1, v0, v1, v2, v3, v4, v5, v6, v7, v8, v9, v10, v11, v12, v13, v14, v15, v16, v17, v18 => (if decide (v0 < (↑v5.length : Int)) = Bool.true then (if 0 ≤ v0 then (if v0 < (↑v5.length : Int) then (if 0 ≤ v0 then (if v0 < (↑v14.length : Int) then ((s.f_r07_sameMarks ((v5.getD v0.toNat dd_TRec).sub_Marks, (v14.getD v0.toNat dd_TRec).sub_Marks, ())).bind fun t17 => (if (!t17 || !(v5.getD v0.toNat dd_TRec).Name.toList == (v14.getD v0.toNat dd_TRec).Name.toList) = Bool.false then ((s.f_r01_SameTexts ((v5.getD v0.toNat dd_TRec).End, (v14.getD v0.toNat dd_TRec).End, ())).bind fun t19 => (if (Bool.false || !t19 || (↑(v5.getD v0.toNat dd_TRec).Fields.length : Int) != (↑(v14.getD v0.toNat dd_TRec).Fields.length : Int)) = Bool.true then some (Bool.false) else Lr07_Same_10 s k x0 x1 (Lr07_Same_4 s k x0 x1 j4) k (v0) (0) (v1) (v2) (v3) (v4) (v5) (v6) (v7) (v8) (v9) (v10) (v11) (v12) (v13) (v14) (v15) (v16) (v17) (v18) ((v5.getD v0.toNat dd_TRec).Marks_Before) ((v5.getD v0.toNat dd_TRec).Marks_Trail) ((v5.getD v0.toNat dd_TRec).Name) ((v5.getD v0.toNat dd_TRec).Fields) ((v5.getD v0.toNat dd_TRec).End) ((v14.getD v0.toNat dd_TRec).Marks_Before) ((v14.getD v0.toNat dd_TRec).Marks_Trail) ((v14.getD v0.toNat dd_TRec).Name) ((v14.getD v0.toNat dd_TRec).Fields) ((v14.getD v0.toNat dd_TRec).End))) else some (Bool.false))) else none) else none) else none) else none) else ((s.f_r07_sameVars (v6, v15, ())).bind fun t91 => (if t91 = Bool.true then ((s.f_r07_SameRoutines (v7, v16, ())).bind fun t93 => (if (Bool.true && t93) = Bool.true then ((s.f_r07_SameStmts (v8, v17, ())).bind fun t95 => some (Bool.true && t95)) else some (Bool.false))) else some (Bool.false))))
def B_r07_Same (s : Fam) (k : Nat) (x0 : TProgram) (x1 : TProgram) : Option (Bool) := (if (!x0.Name.toList == x1.Name.toList) = Bool.false then ((s.f_r01_SameTexts (x0.Before, x1.Before, ())).bind fun t2 => (if (Bool.false || !t2) = Bool.false then ((s.f_r01_SameTexts (x0.Mid, x1.Mid, ())).bind fun t4 => (if (Bool.false || !t4) = Bool.false then ((s.f_r01_SameTexts (x0.After, x1.After, ())).bind fun t6 => (if (Bool.false || !t6) = Bool.false then ((s.f_r01_SameTexts (x0.End, x1.End, ())).bind fun t8 => (if (Bool.false || !t8 || (↑x0.Recs.length : Int) != (↑x1.Recs.length : Int)) = Bool.true then some (Bool.false) else Lr07_Same_4 s k x0 x1 k (0) (x0.Name) (x0.Before) (x0.Mid) (x0.After) (x0.Recs) (x0.Vars) (x0.Routines) (x0.Body) (x0.End) (x1.Name) (x1.Before) (x1.Mid) (x1.After) (x1.Recs) (x1.Vars) (x1.Routines) (x1.Body) (x1.End))) else some (Bool.false))) else some (Bool.false))) else some (Bool.false))) else some (Bool.false))
theorem Lr07_Same_10_eq (s : Fam) (k : Nat) (x0 : TProgram) (x1 : TProgram) (j4 : Nat) (r4 : Int → ByteArray → List ByteArray → List ByteArray → List ByteArray → List TRec → List TVar → List TRoutine → List TStmt → List ByteArray → ByteArray → List ByteArray → List ByteArray → List ByteArray → List TRec → List TVar → List TRoutine → List TStmt → List ByteArray → Option (Bool)) (h4 : ∀ (v0 : Int) (v1 : ByteArray) (v2 : List ByteArray) (v3 : List ByteArray) (v4 : List ByteArray) (v5 : List TRec) (v6 : List TVar) (v7 : List TRoutine) (v8 : List TStmt) (v9 : List ByteArray) (v10 : ByteArray) (v11 : List ByteArray) (v12 : List ByteArray) (v13 : List ByteArray) (v14 : List TRec) (v15 : List TVar) (v16 : List TRoutine) (v17 : List TStmt) (v18 : List ByteArray), (loopGo EE (sp s) h_r07_Same co_r07_Same [] k Tryz.f12 4 [] j4 ({ tmps := ofL AV.any [(2, AV.c (CV.ptr 2 0)), (3, AV.c (CV.ptr 3 0)), (5, AV.c (CV.d (DV.lit (Go.Value.int Go.IntKind.i64 v0))))], boxes := ofL Option.none [(2, Option.some [CV.d (DV.lit (Go.Value.string v1)), CV.d (DV.sl 9 v2), CV.d (DV.sl 9 v3), CV.d (DV.sl 9 v4), CV.d (DV.sl 46 v5), CV.d (DV.sl 56 v6), CV.d (DV.sl 90 v7), CV.d (DV.sl 97 v8), CV.d (DV.sl 9 v9)]), (3, Option.some [CV.d (DV.lit (Go.Value.string v10)), CV.d (DV.sl 9 v11), CV.d (DV.sl 9 v12), CV.d (DV.sl 9 v13), CV.d (DV.sl 46 v14), CV.d (DV.sl 56 v15), CV.d (DV.sl 90 v16), CV.d (DV.sl 97 v17), CV.d (DV.sl 9 v18)])], objs := ofL Option.none [(1099511635969, Option.none), (1099511635970, Option.none), (1099511635971, Option.none), (1099511635972, Option.none), (1099511635973, Option.none), (1099511635974, Option.none), (1099511635975, Option.none), (1099511635976, Option.none), (1099511640065, Option.none), (1099511640066, Option.none), (1099511640067, Option.none), (1099511640068, Option.none), (1099511640069, Option.none), (1099511640070, Option.none), (1099511640071, Option.none), (1099511640072, Option.none)], fxs := ofL Option.none [(2, Option.none), (3, Option.none)] : AS II })).run = (r4 v0 v1 v2 v3 v4 v5 v6 v7 v8 v9 v10 v11 v12 v13 v14 v15 v16 v17 v18).map rc_r07_Same.enc) : ∀ (j10 : Nat) (uv0 : Int) (uv1 : Int) (uv2 : ByteArray) (uv3 : List ByteArray) (uv4 : List ByteArray) (uv5 : List ByteArray) (uv6 : List TRec) (uv7 : List TVar) (uv8 : List TRoutine) (uv9 : List TStmt) (uv10 : List ByteArray) (uv11 : ByteArray) (uv12 : List ByteArray) (uv13 : List ByteArray) (uv14 : List ByteArray) (uv15 : List TRec) (uv16 : List TVar) (uv17 : List TRoutine) (uv18 : List TStmt) (uv19 : List ByteArray) (uv20 : List ByteArray) (uv21 : List ByteArray) (uv22 : ByteArray) (uv23 : List TField) (uv24 : List ByteArray) (uv25 : List ByteArray) (uv26 : List ByteArray) (uv27 : ByteArray) (uv28 : List TField) (uv29 : List ByteArray), (loopGo EE (sp s) h_r07_Same co_r07_Same [] k Tryz.f12 10 [j4] j10 ({ tmps := ofL AV.any [(2, AV.c (CV.ptr 2 0)), (3, AV.c (CV.ptr 3 0)), (5, AV.c (CV.d (DV.lit (Go.Value.int Go.IntKind.i64 uv0)))), (6, AV.c (CV.ptr 6 0)), (7, AV.c (CV.ptr 7 0)), (8, AV.c (CV.d (DV.lit (Go.Value.int Go.IntKind.i64 uv1))))], boxes := ofL Option.none [(2, Option.some [CV.d (DV.lit (Go.Value.string uv2)), CV.d (DV.sl 9 uv3), CV.d (DV.sl 9 uv4), CV.d (DV.sl 9 uv5), CV.d (DV.sl 46 uv6), CV.d (DV.sl 56 uv7), CV.d (DV.sl 90 uv8), CV.d (DV.sl 97 uv9), CV.d (DV.sl 9 uv10)]), (3, Option.some [CV.d (DV.lit (Go.Value.string uv11)), CV.d (DV.sl 9 uv12), CV.d (DV.sl 9 uv13), CV.d (DV.sl 9 uv14), CV.d (DV.sl 46 uv15), CV.d (DV.sl 56 uv16), CV.d (DV.sl 90 uv17), CV.d (DV.sl 97 uv18), CV.d (DV.sl 9 uv19)]), (6, Option.some [CV.d (DV.sl 9 uv20), CV.d (DV.sl 9 uv21), CV.d (DV.lit (Go.Value.string uv22)), CV.d (DV.sl 48 uv23), CV.d (DV.sl 9 uv24)]), (7, Option.some [CV.d (DV.sl 9 uv25), CV.d (DV.sl 9 uv26), CV.d (DV.lit (Go.Value.string uv27)), CV.d (DV.sl 48 uv28), CV.d (DV.sl 9 uv29)])], objs := ofL Option.none [(1099511635969, Option.none), (1099511635970, Option.none), (1099511635971, Option.none), (1099511635972, Option.none), (1099511635973, Option.none), (1099511635974, Option.none), (1099511635975, Option.none), (1099511635976, Option.none), (1099511640065, Option.none), (1099511640066, Option.none), (1099511640067, Option.none), (1099511640068, Option.none), (1099511640069, Option.none), (1099511640070, Option.none), (1099511640071, Option.none), (1099511640072, Option.none), (1099511652352, Option.none), (1099511652353, Option.none), (1099511652355, Option.none), (1099511652356, Option.none), (1099511656448, Option.none), (1099511656449, Option.none), (1099511656451, Option.none), (1099511656452, Option.none)], fxs := ofL Option.none [(2, Option.none), (3, Option.none), (6, Option.none), (7, Option.none)] : AS II })).run = (Lr07_Same_10 s k x0 x1 r4 j10 uv0 uv1 uv2 uv3 uv4 uv5 uv6 uv7 uv8 uv9 uv10 uv11 uv12 uv13 uv14 uv15 uv16 uv17 uv18 uv19 uv20 uv21 uv22 uv23 uv24 uv25 uv26 uv27 uv28 uv29).map rc_r07_Same.enc := by
  intro j10
  induction j10 with
  | zero => intros; rfl
  | succ j10 ih =>
    intros
    simp only [Lr07_Same_10, map_ite, map_bindO, map_someO, map_noneO, ← ih, ← h4]
    kernel_rfl
theorem Lr07_Same_4_eq (s : Fam) (k : Nat) (x0 : TProgram) (x1 : TProgram) : ∀ (j4 : Nat) (v0 : Int) (v1 : ByteArray) (v2 : List ByteArray) (v3 : List ByteArray) (v4 : List ByteArray) (v5 : List TRec) (v6 : List TVar) (v7 : List TRoutine) (v8 : List TStmt) (v9 : List ByteArray) (v10 : ByteArray) (v11 : List ByteArray) (v12 : List ByteArray) (v13 : List ByteArray) (v14 : List TRec) (v15 : List TVar) (v16 : List TRoutine) (v17 : List TStmt) (v18 : List ByteArray), (loopGo EE (sp s) h_r07_Same co_r07_Same [] k Tryz.f12 4 [] j4 ({ tmps := ofL AV.any [(2, AV.c (CV.ptr 2 0)), (3, AV.c (CV.ptr 3 0)), (5, AV.c (CV.d (DV.lit (Go.Value.int Go.IntKind.i64 v0))))], boxes := ofL Option.none [(2, Option.some [CV.d (DV.lit (Go.Value.string v1)), CV.d (DV.sl 9 v2), CV.d (DV.sl 9 v3), CV.d (DV.sl 9 v4), CV.d (DV.sl 46 v5), CV.d (DV.sl 56 v6), CV.d (DV.sl 90 v7), CV.d (DV.sl 97 v8), CV.d (DV.sl 9 v9)]), (3, Option.some [CV.d (DV.lit (Go.Value.string v10)), CV.d (DV.sl 9 v11), CV.d (DV.sl 9 v12), CV.d (DV.sl 9 v13), CV.d (DV.sl 46 v14), CV.d (DV.sl 56 v15), CV.d (DV.sl 90 v16), CV.d (DV.sl 97 v17), CV.d (DV.sl 9 v18)])], objs := ofL Option.none [(1099511635969, Option.none), (1099511635970, Option.none), (1099511635971, Option.none), (1099511635972, Option.none), (1099511635973, Option.none), (1099511635974, Option.none), (1099511635975, Option.none), (1099511635976, Option.none), (1099511640065, Option.none), (1099511640066, Option.none), (1099511640067, Option.none), (1099511640068, Option.none), (1099511640069, Option.none), (1099511640070, Option.none), (1099511640071, Option.none), (1099511640072, Option.none)], fxs := ofL Option.none [(2, Option.none), (3, Option.none)] : AS II })).run = (Lr07_Same_4 s k x0 x1 j4 v0 v1 v2 v3 v4 v5 v6 v7 v8 v9 v10 v11 v12 v13 v14 v15 v16 v17 v18).map rc_r07_Same.enc := by
  intro j4
  induction j4 with
  | zero => intros; rfl
  | succ j4 ih =>
    have q0 := Lr07_Same_10_eq s k x0 x1 j4 (Lr07_Same_4 s k x0 x1 j4) ih
    intros
    simp only [Lr07_Same_4, map_ite, map_bindO, map_someO, map_noneO, ← ih, ← q0]
    kernel_rfl
theorem e_r07_Same (s : Fam) (k : Nat) (x : a_r07_Same) : (evFunC EE (sp s) h_r07_Same co_r07_Same k Tryz.f12 (c_r07_Same.enc x)).run = (B_r07_Same s k x.1 x.2.1).map rc_r07_Same.enc := by
  simp only [B_r07_Same, map_ite, map_bindO, map_someO, map_noneO, ← Lr07_Same_4_eq]
  kernel_rfl
-- 136 nodes
def Lr07_Parts_4 (s : Fam) (k : Nat) (x0 : ByteArray) : Nat → ByteArray → Int → Int → List ByteArray → Option (List ByteArray)
  | 0, _, _, _, _ => none
  | j4 + 1, v0, v1, v2, v3 => (if decide (v2 ≤ (↑v0.size : Int)) = Bool.true then (if (v2 == (↑v0.size : Int)) = Bool.false then (if 0 ≤ v2 then (if v2 < (↑v0.size : Int) then (if (Bool.false || bt v0 v2 == 36) = Bool.true then (if 0 ≤ v1 then (if v1 ≤ v2 then (if v2 ≤ (↑v0.size : Int) then (if (v3 ++ [v0.extract v1.toNat v2.toNat]).length * 16 ≤ 140737488355328 then Lr07_Parts_4 s k x0 j4 (v0) (Go.IntKind.i64.wrap (v2 + 1)) (Go.IntKind.i64.wrap (v2 + 1)) (v3 ++ [v0.extract v1.toNat v2.toNat]) else none) else none) else none) else none) else Lr07_Parts_4 s k x0 j4 (v0) (v1) (Go.IntKind.i64.wrap (v2 + 1)) (v3)) else none) else none) else (if 0 ≤ v1 then (if v1 ≤ v2 then (if v2 ≤ (↑v0.size : Int) then (if (v3 ++ [v0.extract v1.toNat v2.toNat]).length * 16 ≤ 140737488355328 then Lr07_Parts_4 s k x0 j4 (v0) (Go.IntKind.i64.wrap (v2 + 1)) (Go.IntKind.i64.wrap (v2 + 1)) (v3 ++ [v0.extract v1.toNat v2.toNat]) else none) else none) else none) else none)) else some (v3))
def B_r07_Parts (s : Fam) (k : Nat) (x0 : ByteArray) : Option (List ByteArray) := Lr07_Parts_4 s k x0 k (x0) (0) (0) ([])
theorem Lr07_Parts_4_eq (s : Fam) (k : Nat) (x0 : ByteArray) : ∀ (j4 : Nat) (v0 : ByteArray) (v1 : Int) (v2 : Int) (v3 : List ByteArray), (loopGo EE (sp s) h_r07_Parts co_r07_Parts [] k Tryz.f15 4 [] j4 ({ tmps := ofL AV.any [(0, AV.c (CV.d (DV.lit (Go.Value.string v0)))), (3, AV.c (CV.own 3 0)), (4, AV.c (CV.d (DV.lit (Go.Value.int Go.IntKind.i64 v1)))), (5, AV.c (CV.d (DV.lit (Go.Value.int Go.IntKind.i64 v2))))], boxes := ofL Option.none [], objs := ofL Option.none [(3, Option.some { ver := 0, t := 9, xs := v3 : Obj II })], fxs := ofL Option.none [] : AS II })).run = (Lr07_Parts_4 s k x0 j4 v0 v1 v2 v3).map rc_r07_Parts.enc := by
  intro j4
  induction j4 with
  | zero => intros; rfl
  | succ j4 ih =>
    intros
    simp only [Lr07_Parts_4, map_ite, map_bindO, map_someO, map_noneO, ← ih]
    kernel_rfl
theorem e_r07_Parts (s : Fam) (k : Nat) (x : a_r07_Parts) : (evFunC EE (sp s) h_r07_Parts co_r07_Parts k Tryz.f15 (c_r07_Parts.enc x)).run = (B_r07_Parts s k x.1).map rc_r07_Parts.enc := by
  simp only [B_r07_Parts, map_ite, map_bindO, map_someO, map_noneO, ← Lr07_Parts_4_eq]
  kernel_rfl
-- 31 nodes
def Lr07_varNames_3 (s : Fam) (k : Nat) (x0 : List TVar) : Nat → List TVar → Int → List ByteArray → Option (List ByteArray)
  | 0, _, _, _ => none
  | j3 + 1, v0, v1, v2 => (if decide (v1 < (↑v0.length : Int)) = Bool.true then (if 0 ≤ v1 then (if v1 < (↑v0.length : Int) then ((s.f_r07_Parts ((v0.getD v1.toNat dd_TVar).Name, ())).bind fun t5 => (if (v2 ++ t5).length * 16 ≤ 140737488355328 then (if 0 ≤ v1 then (if v1 < (↑v0.length : Int) then ((s.f_r07_Parts ((v0.getD v1.toNat dd_TVar).T_Name, ())).bind fun t9 => (if (v2 ++ t5 ++ t9).length * 16 ≤ 140737488355328 then Lr07_varNames_3 s k x0 j3 (v0) (Go.IntKind.i64.wrap (v1 + 1)) (v2 ++ t5 ++ t9) else none)) else none) else none) else none)) else none) else none) else some (v2))
def B_r07_varNames (s : Fam) (k : Nat) (x0 : List TVar) : Option (List ByteArray) := Lr07_varNames_3 s k x0 k (x0) (0) ([])
theorem Lr07_varNames_3_eq (s : Fam) (k : Nat) (x0 : List TVar) : ∀ (j3 : Nat) (v0 : List TVar) (v1 : Int) (v2 : List ByteArray), (loopGo EE (sp s) h_r07_varNames co_r07_varNames [] k Tryz.f16 3 [] j3 ({ tmps := ofL AV.any [(0, AV.c (CV.d (DV.sl 56 v0))), (3, AV.c (CV.own 3 0)), (4, AV.c (CV.d (DV.lit (Go.Value.int Go.IntKind.i64 v1))))], boxes := ofL Option.none [], objs := ofL Option.none [(3, Option.some { ver := 0, t := 9, xs := v2 : Obj II })], fxs := ofL Option.none [] : AS II })).run = (Lr07_varNames_3 s k x0 j3 v0 v1 v2).map rc_r07_varNames.enc := by
  intro j3
  induction j3 with
  | zero => intros; rfl
  | succ j3 ih =>
    intros
    simp only [Lr07_varNames_3, map_ite, map_bindO, map_someO, map_noneO, ← ih]
    kernel_rfl
theorem e_r07_varNames (s : Fam) (k : Nat) (x : a_r07_varNames) : (evFunC EE (sp s) h_r07_varNames co_r07_varNames k Tryz.f16 (c_r07_varNames.enc x)).run = (B_r07_varNames s k x.1).map rc_r07_varNames.enc := by
  simp only [B_r07_varNames, map_ite, map_bindO, map_someO, map_noneO, ← Lr07_varNames_3_eq]
  kernel_rfl
-- 18 nodes
end Go.Ev
end
section
open Go Go.Proofs
namespace Go.Ev
set_option linter.unusedVariables false
set_option linter.unusedSimpArgs false
set_option maxHeartbeats 4000000
set_option maxRecDepth 100000
def Lr07_routineNames_8 (s : Fam) (k : Nat) (x0 : List TRoutine) (r3 : List TRoutine → Int → List ByteArray → Option (List ByteArray)) : Nat → List TRoutine → Int → Int → List ByteArray → List ByteArray → ByteArray → Int → List TParam → List TVar → List TRoutine → List TStmt → List ByteArray → List ByteArray → Option (List ByteArray)
  | 0, _, _, _, _, _, _, _, _, _, _, _, _, _ => none
  | j8 + 1, uv0, uv1, uv2, uv3, uv4, uv5, uv6, uv7, uv8, uv9, uv10, uv11, uv12 => (if decide (uv2 < (↑uv7.length : Int)) = Bool.true then (if 0 ≤ uv2 then (if uv2 < (↑uv7.length : Int) then ((s.f_r07_Parts ((uv7.getD uv2.toNat dd_TParam).Name, ())).bind fun t11 => (if (uv12 ++ t11).length * 16 ≤ 140737488355328 then (if 0 ≤ uv2 then (if uv2 < (↑uv7.length : Int) then ((s.f_r07_Parts ((uv7.getD uv2.toNat dd_TParam).T_Name, ())).bind fun t15 => (if (uv12 ++ t11 ++ t15).length * 16 ≤ 140737488355328 then Lr07_routineNames_8 s k x0 r3 j8 (uv0) (uv1) (Go.IntKind.i64.wrap (uv2 + 1)) (uv3) (uv4) (uv5) (uv6) (uv7) (uv8) (uv9) (uv10) (uv11) (uv12 ++ t11 ++ t15) else none)) else none) else none) else none)) else none) else none) else ((s.f_r07_varNames (uv8, ())).bind fun t24 => (if (uv12 ++ t24).length * 16 ≤ 140737488355328 then ((s.f_r07_routineNames (uv9, ())).bind fun t26 => (if (uv12 ++ t24 ++ t26).length * 16 ≤ 140737488355328 then ((s.f_r07_stmtNames (uv10, ())).bind fun t28 => (if (uv12 ++ t24 ++ t26 ++ t28).length * 16 ≤ 140737488355328 then r3 (uv0) (Go.IntKind.i64.wrap (uv1 + 1)) (uv12 ++ t24 ++ t26 ++ t28) else none)) else none)) else none)))
def Lr07_routineNames_3 (s : Fam) (k : Nat) (x0 : List TRoutine) : Nat → List TRoutine → Int → List ByteArray → Option (List ByteArray)
  | 0, _, _, _ => none
  | j3 + 1, v0, v1, v2 => (if decide (v1 < (↑v0.length : Int)) = Bool.true then (if 0 ≤ v1 then (if v1 < (↑v0.length : Int) then ((s.f_r07_Parts ((v0.getD v1.toNat dd_TRoutine).Name, ())).bind fun t5 => (if (v2 ++ t5).length * 16 ≤ 140737488355328 then Lr07_routineNames_8 s k x0 (Lr07_routineNames_3 s k x0 j3) k (v0) (v1) (0) ((v0.getD v1.toNat dd_TRoutine).Marks_Before) ((v0.getD v1.toNat dd_TRoutine).Marks_Trail) ((v0.getD v1.toNat dd_TRoutine).Name) ((v0.getD v1.toNat dd_TRoutine).Result) ((v0.getD v1.toNat dd_TRoutine).Params) ((v0.getD v1.toNat dd_TRoutine).Vars) ((v0.getD v1.toNat dd_TRoutine).Inner) ((v0.getD v1.toNat dd_TRoutine).Body) ((v0.getD v1.toNat dd_TRoutine).End) (v2 ++ t5) else none)) else none) else none) else some (v2))
def B_r07_routineNames (s : Fam) (k : Nat) (x0 : List TRoutine) : Option (List ByteArray) := Lr07_routineNames_3 s k x0 k (x0) (0) ([])
theorem Lr07_routineNames_8_eq (s : Fam) (k : Nat) (x0 : List TRoutine) (j3 : Nat) (r3 : List TRoutine → Int → List ByteArray → Option (List ByteArray)) (h3 : ∀ (v0 : List TRoutine) (v1 : Int) (v2 : List ByteArray), (loopGo EE (sp s) h_r07_routineNames co_r07_routineNames [] k Tryz.f17 3 [] j3 ({ tmps := ofL AV.any [(0, AV.c (CV.d (DV.sl 90 v0))), (3, AV.c (CV.own 3 0)), (4, AV.c (CV.d (DV.lit (Go.Value.int Go.IntKind.i64 v1))))], boxes := ofL Option.none [], objs := ofL Option.none [(3, Option.some { ver := 0, t := 9, xs := v2 : Obj II })], fxs := ofL Option.none [] : AS II })).run = (r3 v0 v1 v2).map rc_r07_routineNames.enc) : ∀ (j8 : Nat) (uv0 : List TRoutine) (uv1 : Int) (uv2 : Int) (uv3 : List ByteArray) (uv4 : List ByteArray) (uv5 : ByteArray) (uv6 : Int) (uv7 : List TParam) (uv8 : List TVar) (uv9 : List TRoutine) (uv10 : List TStmt) (uv11 : List ByteArray) (uv12 : List ByteArray), (loopGo EE (sp s) h_r07_routineNames co_r07_routineNames [] k Tryz.f17 8 [j3] j8 ({ tmps := ofL AV.any [(0, AV.c (CV.d (DV.sl 90 uv0))), (3, AV.c (CV.own 3 0)), (4, AV.c (CV.d (DV.lit (Go.Value.int Go.IntKind.i64 uv1)))), (5, AV.c (CV.ptr 5 0)), (6, AV.c (CV.d (DV.lit (Go.Value.int Go.IntKind.i64 uv2))))], boxes := ofL Option.none [(5, Option.some [CV.d (DV.sl 9 uv3), CV.d (DV.sl 9 uv4), CV.d (DV.lit (Go.Value.string uv5)), CV.d (DV.lit (Go.Value.int Go.IntKind.i64 uv6)), CV.d (DV.sl 92 uv7), CV.d (DV.sl 56 uv8), CV.d (DV.sl 90 uv9), CV.d (DV.sl 97 uv10), CV.d (DV.sl 9 uv11)])], objs := ofL Option.none [(3, Option.some { ver := 0, t := 9, xs := uv12 : Obj II }), (1099511648256, Option.none), (1099511648257, Option.none), (1099511648260, Option.none), (1099511648261, Option.none), (1099511648262, Option.none), (1099511648263, Option.none), (1099511648264, Option.none)], fxs := ofL Option.none [(5, Option.none)] : AS II })).run = (Lr07_routineNames_8 s k x0 r3 j8 uv0 uv1 uv2 uv3 uv4 uv5 uv6 uv7 uv8 uv9 uv10 uv11 uv12).map rc_r07_routineNames.enc := by
  intro j8
  induction j8 with
  | zero => intros; rfl
  | succ j8 ih =>
    intros
    simp only [Lr07_routineNames_8, map_ite, map_bindO, map_someO, map_noneO, ← ih, ← h3]
    kernel_rfl
theorem Lr07_routineNames_3_eq (s : Fam) (k : Nat) (x0 : List TRoutine) : ∀ (j3 : Nat) (v0 : List TRoutine) (v1 : Int) (v2 : List ByteArray), (loopGo EE (sp s) h_r07_routineNames co_r07_routineNames [] k Tryz.f17 3 [] j3 ({ tmps := ofL AV.any [(0, AV.c (CV.d (DV.sl 90 v0))), (3, AV.c (CV.own 3 0)), (4, AV.c (CV.d (DV.lit (Go.Value.int Go.IntKind.i64 v1))))], boxes := ofL Option.none [], objs := ofL Option.none [(3, Option.some { ver := 0, t := 9, xs := v2 : Obj II })], fxs := ofL Option.none [] : AS II })).run = (Lr07_routineNames_3 s k x0 j3 v0 v1 v2).map rc_r07_routineNames.enc := by
  intro j3
  induction j3 with
  | zero => intros; rfl
  | succ j3 ih =>
    have q0 := Lr07_routineNames_8_eq s k x0 j3 (Lr07_routineNames_3 s k x0 j3) ih
    intros
    simp only [Lr07_routineNames_3, map_ite, map_bindO, map_someO, map_noneO, ← ih, ← q0]
    kernel_rfl
theorem e_r07_routineNames (s : Fam) (k : Nat) (x : a_r07_routineNames) : (evFunC EE (sp s) h_r07_routineNames co_r07_routineNames k Tryz.f17 (c_r07_routineNames.enc x)).run = (B_r07_routineNames s k x.1).map rc_r07_routineNames.enc := by
  simp only [B_r07_routineNames, map_ite, map_bindO, map_someO, map_noneO, ← Lr07_routineNames_3_eq]
  kernel_rfl
-- 37 nodes
def Lr07_stmtNames_8 (s : Fam) (k : Nat) (x0 : List TStmt) (r3 : List TStmt → Int → List ByteArray → Option (List ByteArray)) : Nat → List TStmt → Int → Int → List ByteArray → Option (List ByteArray)
  | 0, _, _, _, _ => none
  | j8 + 1, uv0, uv1, uv2, uv3 => (if 0 ≤ uv1 then (if uv1 < (↑uv0.length : Int) then (if decide (uv2 < (↑(uv0.getD uv1.toNat dd_TStmt).E.length : Int)) = Bool.true then (if 0 ≤ uv1 then (if uv1 < (↑uv0.length : Int) then (if 0 ≤ uv2 then (if uv2 < (↑(uv0.getD uv1.toNat dd_TStmt).E.length : Int) then ((s.f_r07_ExprNames (((uv0.getD uv1.toNat dd_TStmt).E.getD uv2.toNat dd_TExpr).re, ())).bind fun t19 => (if (uv3 ++ t19).length * 16 ≤ 140737488355328 then Lr07_stmtNames_8 s k x0 r3 j8 (uv0) (uv1) (Go.IntKind.i64.wrap (uv2 + 1)) (uv3 ++ t19) else none)) else none) else none) else none) else none) else (if 0 ≤ uv1 then (if uv1 < (↑uv0.length : Int) then ((s.f_r07_stmtNames ((uv0.getD uv1.toNat dd_TStmt).Body, ())).bind fun t29 => (if (uv3 ++ t29).length * 16 ≤ 140737488355328 then (if 0 ≤ uv1 then (if uv1 < (↑uv0.length : Int) then ((s.f_r07_stmtNames ((uv0.getD uv1.toNat dd_TStmt).Else, ())).bind fun t33 => (if (uv3 ++ t29 ++ t33).length * 16 ≤ 140737488355328 then r3 (uv0) (Go.IntKind.i64.wrap (uv1 + 1)) (uv3 ++ t29 ++ t33) else none)) else none) else none) else none)) else none) else none)) else none) else none)
def Lr07_stmtNames_3 (s : Fam) (k : Nat) (x0 : List TStmt) : Nat → List TStmt → Int → List ByteArray → Option (List ByteArray)
  | 0, _, _, _ => none
  | j3 + 1, v0, v1, v2 => (if decide (v1 < (↑v0.length : Int)) = Bool.true then (if 0 ≤ v1 then (if v1 < (↑v0.length : Int) then ((s.f_r07_Parts ((v0.getD v1.toNat dd_TStmt).Name, ())).bind fun t5 => (if (v2 ++ t5).length * 16 ≤ 140737488355328 then (if 0 ≤ v1 then (if v1 < (↑v0.length : Int) then ((s.f_r07_ExprNames ((v0.getD v1.toNat dd_TStmt).sub_P, ())).bind fun t9 => (if (v2 ++ t5 ++ t9).length * 16 ≤ 140737488355328 then Lr07_stmtNames_8 s k x0 (Lr07_stmtNames_3 s k x0 j3) k (v0) (v1) (0) (v2 ++ t5 ++ t9) else none)) else none) else none) else none)) else none) else none) else some (v2))
def B_r07_stmtNames (s : Fam) (k : Nat) (x0 : List TStmt) : Option (List ByteArray) := Lr07_stmtNames_3 s k x0 k (x0) (0) ([])
theorem Lr07_stmtNames_8_eq (s : Fam) (k : Nat) (x0 : List TStmt) (j3 : Nat) (r3 : List TStmt → Int → List ByteArray → Option (List ByteArray)) (h3 : ∀ (v0 : List TStmt) (v1 : Int) (v2 : List ByteArray), (loopGo EE (sp s) h_r07_stmtNames co_r07_stmtNames [] k Tryz.f18 3 [] j3 ({ tmps := ofL AV.any [(0, AV.c (CV.d (DV.sl 97 v0))), (3, AV.c (CV.own 3 0)), (4, AV.c (CV.d (DV.lit (Go.Value.int Go.IntKind.i64 v1))))], boxes := ofL Option.none [], objs := ofL Option.none [(3, Option.some { ver := 0, t := 9, xs := v2 : Obj II })], fxs := ofL Option.none [] : AS II })).run = (r3 v0 v1 v2).map rc_r07_stmtNames.enc) : ∀ (j8 : Nat) (uv0 : List TStmt) (uv1 : Int) (uv2 : Int) (uv3 : List ByteArray), (loopGo EE (sp s) h_r07_stmtNames co_r07_stmtNames [] k Tryz.f18 8 [j3] j8 ({ tmps := ofL AV.any [(0, AV.c (CV.d (DV.sl 97 uv0))), (3, AV.c (CV.own 3 0)), (4, AV.c (CV.d (DV.lit (Go.Value.int Go.IntKind.i64 uv1)))), (5, AV.c (CV.d (DV.lit (Go.Value.int Go.IntKind.i64 uv2))))], boxes := ofL Option.none [], objs := ofL Option.none [(3, Option.some { ver := 0, t := 9, xs := uv3 : Obj II })], fxs := ofL Option.none [] : AS II })).run = (Lr07_stmtNames_8 s k x0 r3 j8 uv0 uv1 uv2 uv3).map rc_r07_stmtNames.enc := by
  intro j8
  induction j8 with
  | zero => intros; rfl
  | succ j8 ih =>
    intros
    simp only [Lr07_stmtNames_8, map_ite, map_bindO, map_someO, map_noneO, ← ih, ← h3]
    kernel_rfl
theorem Lr07_stmtNames_3_eq (s : Fam) (k : Nat) (x0 : List TStmt) : ∀ (j3 : Nat) (v0 : List TStmt) (v1 : Int) (v2 : List ByteArray), (loopGo EE (sp s) h_r07_stmtNames co_r07_stmtNames [] k Tryz.f18 3 [] j3 ({ tmps := ofL AV.any [(0, AV.c (CV.d (DV.sl 97 v0))), (3, AV.c (CV.own 3 0)), (4, AV.c (CV.d (DV.lit (Go.Value.int Go.IntKind.i64 v1))))], boxes := ofL Option.none [], objs := ofL Option.none [(3, Option.some { ver := 0, t := 9, xs := v2 : Obj II })], fxs := ofL Option.none [] : AS II })).run = (Lr07_stmtNames_3 s k x0 j3 v0 v1 v2).map rc_r07_stmtNames.enc := by
  intro j3
  induction j3 with
  | zero => intros; rfl
  | succ j3 ih =>
    have q0 := Lr07_stmtNames_8_eq s k x0 j3 (Lr07_stmtNames_3 s k x0 j3) ih
    intros
    simp only [Lr07_stmtNames_3, map_ite, map_bindO, map_someO, map_noneO, ← ih, ← q0]
    kernel_rfl
theorem e_r07_stmtNames (s : Fam) (k : Nat) (x : a_r07_stmtNames) : (evFunC EE (sp s) h_r07_stmtNames co_r07_stmtNames k Tryz.f18 (c_r07_stmtNames.enc x)).run = (B_r07_stmtNames s k x.1).map rc_r07_stmtNames.enc := by
  simp only [B_r07_stmtNames, map_ite, map_bindO, map_someO, map_noneO, ← Lr07_stmtNames_3_eq]
  kernel_rfl
-- 50 nodes
def Lr04_Among_2 (s : Fam) (k : Nat) (x0 : List ByteArray) (x1 : ByteArray) : Nat → List ByteArray → ByteArray → Int → Option (Bool)
  | 0, _, _, _ => none
  | j2 + 1, v0, v1, v2 => (if decide (v2 < (↑v0.length : Int)) = Bool.true then (if 0 ≤ v2 then (if v2 < (↑v0.length : Int) then (if ((v0.getD v2.toNat { data := #[] : ByteArray }).toList == v1.toList) = Bool.true then some (Bool.true) else Lr04_Among_2 s k x0 x1 j2 (v0) (v1) (Go.IntKind.i64.wrap (v2 + 1))) else none) else none) else some (Bool.false))
def B_r04_Among (s : Fam) (k : Nat) (x0 : List ByteArray) (x1 : ByteArray) : Option (Bool) := Lr04_Among_2 s k x0 x1 k (x0) (x1) (0)
theorem Lr04_Among_2_eq (s : Fam) (k : Nat) (x0 : List ByteArray) (x1 : ByteArray) : ∀ (j2 : Nat) (v0 : List ByteArray) (v1 : ByteArray) (v2 : Int), (loopGo EE (sp s) h_r04_Among co_r04_Among [] k Tryz.f19 2 [] j2 ({ tmps := ofL AV.any [(0, AV.c (CV.d (DV.sl 9 v0))), (1, AV.c (CV.d (DV.lit (Go.Value.string v1)))), (5, AV.c (CV.d (DV.lit (Go.Value.int Go.IntKind.i64 v2))))], boxes := ofL Option.none [], objs := ofL Option.none [], fxs := ofL Option.none [] : AS II })).run = (Lr04_Among_2 s k x0 x1 j2 v0 v1 v2).map rc_r04_Among.enc := by
  intro j2
  induction j2 with
  | zero => intros; rfl
  | succ j2 ih =>
    intros
    simp only [Lr04_Among_2, map_ite, map_bindO, map_someO, map_noneO, ← ih]
    kernel_rfl
theorem e_r04_Among (s : Fam) (k : Nat) (x : a_r04_Among) : (evFunC EE (sp s) h_r04_Among co_r04_Among k Tryz.f19 (c_r04_Among.enc x)).run = (B_r04_Among s k x.1 x.2.1).map rc_r04_Among.enc := by
  simp only [B_r04_Among, map_ite, map_bindO, map_someO, map_noneO, ← Lr04_Among_2_eq]
  kernel_rfl
-- 10 nodes
def Lr07_Turned_8 (s : Fam) (k : Nat) (x0 : ByteArray) (x1 : List TPair) (r4 : List TPair → ByteArray → Int → List ByteArray → Option (ByteArray)) : Nat → List TPair → ByteArray → Int → II 9 → Int → List ByteArray → Option (ByteArray)
  | 0, _, _, _, _, _, _ => none
  | j8 + 1, uv0, uv1, uv2, uv3, uv4, uv5 => (if decide (uv4 < (↑uv0.length : Int)) = Bool.true then (if 0 ≤ uv2 then (if uv2 < (↑uv5.length : Int) then (if (Bool.true && !(uv5.getD uv2.toNat { data := #[] : ByteArray }).toList == { data := #[] : ByteArray }.toList) = Bool.true then (if 0 ≤ uv4 then (if uv4 < (↑uv0.length : Int) then (if 0 ≤ uv2 then (if uv2 < (↑uv5.length : Int) then (if ((uv0.getD uv4.toNat dd_TPair).Old.toList == (uv5.getD uv2.toNat { data := #[] : ByteArray }).toList) = Bool.true then (if 0 ≤ uv4 then (if uv4 < (↑uv0.length : Int) then (if decide (uv2 > 0) = Bool.true then (if (↑(uv1.size + { data := #[36] : ByteArray }.size) : Int) > Go.IntKind.i64.max then none else (if (↑((uv1 ++ { data := #[36] : ByteArray }).size + (uv0.getD uv4.toNat dd_TPair).New.size) : Int) > Go.IntKind.i64.max then none else r4 (uv0) (uv1 ++ { data := #[36] : ByteArray } ++ (uv0.getD uv4.toNat dd_TPair).New) (Go.IntKind.i64.wrap (uv2 + 1)) (uv5))) else (if (↑(uv1.size + (uv0.getD uv4.toNat dd_TPair).New.size) : Int) > Go.IntKind.i64.max then none else r4 (uv0) (uv1 ++ (uv0.getD uv4.toNat dd_TPair).New) (Go.IntKind.i64.wrap (uv2 + 1)) (uv5))) else none) else none) else Lr07_Turned_8 s k x0 x1 r4 j8 (uv0) (uv1) (uv2) (uv3) (Go.IntKind.i64.wrap (uv4 + 1)) (uv5)) else none) else none) else none) else none) else (if decide (uv2 > 0) = Bool.true then (if (↑(uv1.size + { data := #[36] : ByteArray }.size) : Int) > Go.IntKind.i64.max then none else (if (↑((uv1 ++ { data := #[36] : ByteArray }).size + ByteArray.size uv3) : Int) > Go.IntKind.i64.max then none else r4 (uv0) (uv1 ++ { data := #[36] : ByteArray } ++ uv3) (Go.IntKind.i64.wrap (uv2 + 1)) (uv5))) else (if (↑(uv1.size + ByteArray.size uv3) : Int) > Go.IntKind.i64.max then none else r4 (uv0) (uv1 ++ uv3) (Go.IntKind.i64.wrap (uv2 + 1)) (uv5)))) else none) else none) else (if decide (uv2 > 0) = Bool.true then (if (↑(uv1.size + { data := #[36] : ByteArray }.size) : Int) > Go.IntKind.i64.max then none else (if (↑((uv1 ++ { data := #[36] : ByteArray }).size + ByteArray.size uv3) : Int) > Go.IntKind.i64.max then none else r4 (uv0) (uv1 ++ { data := #[36] : ByteArray } ++ uv3) (Go.IntKind.i64.wrap (uv2 + 1)) (uv5))) else (if (↑(uv1.size + ByteArray.size uv3) : Int) > Go.IntKind.i64.max then none else r4 (uv0) (uv1 ++ uv3) (Go.IntKind.i64.wrap (uv2 + 1)) (uv5))))
def Lr07_Turned_4 (s : Fam) (k : Nat) (x0 : ByteArray) (x1 : List TPair) : Nat → List TPair → ByteArray → Int → List ByteArray → Option (ByteArray)
  | 0, _, _, _, _ => none
  | j4 + 1, v0, v1, v2, v3 => (if decide (v2 < (↑v3.length : Int)) = Bool.true then (if 0 ≤ v2 then (if v2 < (↑v3.length : Int) then Lr07_Turned_8 s k x0 x1 (Lr07_Turned_4 s k x0 x1 j4) k (v0) (v1) (v2) (v3.getD v2.toNat { data := #[] : ByteArray }) (0) (v3) else none) else none) else some (v1))
def B_r07_Turned (s : Fam) (k : Nat) (x0 : ByteArray) (x1 : List TPair) : Option (ByteArray) := ((s.f_r07_Parts (x0, ())).bind fun t1 => Lr07_Turned_4 s k x0 x1 k (x1) ({ data := #[] : ByteArray }) (0) (t1))
theorem Lr07_Turned_8_eq (s : Fam) (k : Nat) (x0 : ByteArray) (x1 : List TPair) (j4 : Nat) (r4 : List TPair → ByteArray → Int → List ByteArray → Option (ByteArray)) (h4 : ∀ (v0 : List TPair) (v1 : ByteArray) (v2 : Int) (v3 : List ByteArray), (loopGo EE (sp s) h_r07_Turned co_r07_Turned [] k Tryz.f20 4 [] j4 ({ tmps := ofL AV.any [(1, AV.c (CV.d (DV.sl 58 v0))), (5, AV.c (CV.own 5 0)), (6, AV.c (CV.d (DV.lit (Go.Value.string v1)))), (7, AV.c (CV.d (DV.lit (Go.Value.int Go.IntKind.i64 v2))))], boxes := ofL Option.none [], objs := ofL Option.none [(5, Option.some { ver := 0, t := 9, xs := v3 : Obj II })], fxs := ofL Option.none [] : AS II })).run = (r4 v0 v1 v2 v3).map rc_r07_Turned.enc) : ∀ (j8 : Nat) (uv0 : List TPair) (uv1 : ByteArray) (uv2 : Int) (uv3 : II 9) (uv4 : Int) (uv5 : List ByteArray), (loopGo EE (sp s) h_r07_Turned co_r07_Turned [] k Tryz.f20 8 [j4] j8 ({ tmps := ofL AV.any [(1, AV.c (CV.d (DV.sl 58 uv0))), (5, AV.c (CV.own 5 0)), (6, AV.c (CV.d (DV.lit (Go.Value.string uv1)))), (7, AV.c (CV.d (DV.lit (Go.Value.int Go.IntKind.i64 uv2)))), (8, AV.c (CV.d (DV.lit (Go.Value.string uv3)))), (9, AV.c (CV.d (DV.lit (Go.Value.int Go.IntKind.i64 uv4))))], boxes := ofL Option.none [], objs := ofL Option.none [(5, Option.some { ver := 0, t := 9, xs := uv5 : Obj II })], fxs := ofL Option.none [] : AS II })).run = (Lr07_Turned_8 s k x0 x1 r4 j8 uv0 uv1 uv2 uv3 uv4 uv5).map rc_r07_Turned.enc := by
  intro j8
  induction j8 with
  | zero => intros; rfl
  | succ j8 ih =>
    intros
    simp only [Lr07_Turned_8, map_ite, map_bindO, map_someO, map_noneO, ← ih, ← h4]
    kernel_rfl
theorem Lr07_Turned_4_eq (s : Fam) (k : Nat) (x0 : ByteArray) (x1 : List TPair) : ∀ (j4 : Nat) (v0 : List TPair) (v1 : ByteArray) (v2 : Int) (v3 : List ByteArray), (loopGo EE (sp s) h_r07_Turned co_r07_Turned [] k Tryz.f20 4 [] j4 ({ tmps := ofL AV.any [(1, AV.c (CV.d (DV.sl 58 v0))), (5, AV.c (CV.own 5 0)), (6, AV.c (CV.d (DV.lit (Go.Value.string v1)))), (7, AV.c (CV.d (DV.lit (Go.Value.int Go.IntKind.i64 v2))))], boxes := ofL Option.none [], objs := ofL Option.none [(5, Option.some { ver := 0, t := 9, xs := v3 : Obj II })], fxs := ofL Option.none [] : AS II })).run = (Lr07_Turned_4 s k x0 x1 j4 v0 v1 v2 v3).map rc_r07_Turned.enc := by
  intro j4
  induction j4 with
  | zero => intros; rfl
  | succ j4 ih =>
    have q0 := Lr07_Turned_8_eq s k x0 x1 j4 (Lr07_Turned_4 s k x0 x1 j4) ih
    intros
    simp only [Lr07_Turned_4, map_ite, map_bindO, map_someO, map_noneO, ← ih, ← q0]
    kernel_rfl
theorem e_r07_Turned (s : Fam) (k : Nat) (x : a_r07_Turned) : (evFunC EE (sp s) h_r07_Turned co_r07_Turned k Tryz.f20 (c_r07_Turned.enc x)).run = (B_r07_Turned s k x.1 x.2.1).map rc_r07_Turned.enc := by
  simp only [B_r07_Turned, map_ite, map_bindO, map_someO, map_noneO, ← Lr07_Turned_4_eq]
  kernel_rfl
-- 60 nodes
def Lr07_turnVars_3 (s : Fam) (k : Nat) (x0 : List TVar) (x1 : List TPair) : Nat → List TVar → List TPair → Int → List TVar → Option (List TVar)
  | 0, _, _, _, _ => none
  | j3 + 1, v0, v1, v2, v3 => (if decide (v2 < (↑v0.length : Int)) = Bool.true then (if 0 ≤ v2 then (if v2 < (↑v0.length : Int) then ((s.f_r07_Turned ((v0.getD v2.toNat dd_TVar).Name, v1, ())).bind fun t5 => ((s.f_r07_Turned ((v0.getD v2.toNat dd_TVar).T_Name, v1, ())).bind fun t6 => (if (v3 ++ [{ Marks_Before := (v0.getD v2.toNat dd_TVar).Marks_Before, Marks_Trail := (v0.getD v2.toNat dd_TVar).Marks_Trail, Name := t5, T_Kind := (v0.getD v2.toNat dd_TVar).T_Kind, T_Size := (v0.getD v2.toNat dd_TVar).T_Size, T_Name := t6 : TVar }]).length * 96 ≤ 140737488355328 then Lr07_turnVars_3 s k x0 x1 j3 (v0) (v1) (Go.IntKind.i64.wrap (v2 + 1)) (v3 ++ [{ Marks_Before := (v0.getD v2.toNat dd_TVar).Marks_Before, Marks_Trail := (v0.getD v2.toNat dd_TVar).Marks_Trail, Name := t5, T_Kind := (v0.getD v2.toNat dd_TVar).T_Kind, T_Size := (v0.getD v2.toNat dd_TVar).T_Size, T_Name := t6 : TVar }]) else none))) else none) else none) else some (v3))
def B_r07_turnVars (s : Fam) (k : Nat) (x0 : List TVar) (x1 : List TPair) : Option (List TVar) := Lr07_turnVars_3 s k x0 x1 k (x0) (x1) (0) ([])
theorem Lr07_turnVars_3_eq (s : Fam) (k : Nat) (x0 : List TVar) (x1 : List TPair) : ∀ (j3 : Nat) (v0 : List TVar) (v1 : List TPair) (v2 : Int) (v3 : List TVar), (loopGo EE (sp s) h_r07_turnVars co_r07_turnVars [] k Tryz.f21 3 [] j3 ({ tmps := ofL AV.any [(0, AV.c (CV.d (DV.sl 56 v0))), (1, AV.c (CV.d (DV.sl 58 v1))), (5, AV.c (CV.own 5 0)), (6, AV.c (CV.d (DV.lit (Go.Value.int Go.IntKind.i64 v2))))], boxes := ofL Option.none [], objs := ofL Option.none [(5, Option.some { ver := 0, t := 56, xs := v3 : Obj II })], fxs := ofL Option.none [] : AS II })).run = (Lr07_turnVars_3 s k x0 x1 j3 v0 v1 v2 v3).map rc_r07_turnVars.enc := by
  intro j3
  induction j3 with
  | zero => intros; rfl
  | succ j3 ih =>
    intros
    simp only [Lr07_turnVars_3, map_ite, map_bindO, map_someO, map_noneO, ← ih]
    kernel_rfl
theorem e_r07_turnVars (s : Fam) (k : Nat) (x : a_r07_turnVars) : (evFunC EE (sp s) h_r07_turnVars co_r07_turnVars k Tryz.f21 (c_r07_turnVars.enc x)).run = (B_r07_turnVars s k x.1 x.2.1).map rc_r07_turnVars.enc := by
  simp only [B_r07_turnVars, map_ite, map_bindO, map_someO, map_noneO, ← Lr07_turnVars_3_eq]
  kernel_rfl
-- 12 nodes
def Lr07_turnRoutines_9 (s : Fam) (k : Nat) (x0 : List TRoutine) (x1 : List TPair) (r3 : List TRoutine → List TPair → Int → List TRoutine → Option (List TRoutine)) : Nat → List TRoutine → List TPair → Int → Int → List ByteArray → List ByteArray → b_r07_Turned → Int → List TParam → List TVar → List TRoutine → List TStmt → List ByteArray → List TRoutine → List TParam → Option (List TRoutine)
  | 0, _, _, _, _, _, _, _, _, _, _, _, _, _, _, _ => none
  | j9 + 1, uv0, uv1, uv2, uv3, uv4, uv5, uv6, uv7, uv8, uv9, uv10, uv11, uv12, uv13, uv14 => (if decide (uv3 < (↑uv8.length : Int)) = Bool.true then (if 0 ≤ uv3 then (if uv3 < (↑uv8.length : Int) then ((s.f_r07_Turned ((uv8.getD uv3.toNat dd_TParam).Name, uv1, ())).bind fun t10 => ((s.f_r07_Turned ((uv8.getD uv3.toNat dd_TParam).T_Name, uv1, ())).bind fun t11 => (if (uv14 ++ [{ Name := t10, T_Kind := (uv8.getD uv3.toNat dd_TParam).T_Kind, T_Size := (uv8.getD uv3.toNat dd_TParam).T_Size, T_Name := t11, Mode := (uv8.getD uv3.toNat dd_TParam).Mode : TParam }]).length * 56 ≤ 140737488355328 then Lr07_turnRoutines_9 s k x0 x1 r3 j9 (uv0) (uv1) (uv2) (Go.IntKind.i64.wrap (uv3 + 1)) (uv4) (uv5) (uv6) (uv7) (uv8) (uv9) (uv10) (uv11) (uv12) (uv13) (uv14 ++ [{ Name := t10, T_Kind := (uv8.getD uv3.toNat dd_TParam).T_Kind, T_Size := (uv8.getD uv3.toNat dd_TParam).T_Size, T_Name := t11, Mode := (uv8.getD uv3.toNat dd_TParam).Mode : TParam }]) else none))) else none) else none) else ((s.f_r07_turnVars (uv9, uv1, ())).bind fun t17 => ((s.f_r07_turnRoutines (uv10, uv1, ())).bind fun t18 => ((s.f_r07_turnStmts (uv11, uv1, ())).bind fun t19 => (if (uv13 ++ [{ Marks_Before := uv4, Marks_Trail := uv5, Name := uv6, Result := uv7, Params := uv14, Vars := t17, Inner := t18, Body := t19, End := uv12 : TRoutine }]).length * 192 ≤ 140737488355328 then r3 (uv0) (uv1) (Go.IntKind.i64.wrap (uv2 + 1)) (uv13 ++ [{ Marks_Before := uv4, Marks_Trail := uv5, Name := uv6, Result := uv7, Params := uv14, Vars := t17, Inner := t18, Body := t19, End := uv12 : TRoutine }]) else none)))))
def Lr07_turnRoutines_3 (s : Fam) (k : Nat) (x0 : List TRoutine) (x1 : List TPair) : Nat → List TRoutine → List TPair → Int → List TRoutine → Option (List TRoutine)
  | 0, _, _, _, _ => none
  | j3 + 1, v0, v1, v2, v3 => (if decide (v2 < (↑v0.length : Int)) = Bool.true then (if 0 ≤ v2 then (if v2 < (↑v0.length : Int) then ((s.f_r07_Turned ((v0.getD v2.toNat dd_TRoutine).Name, v1, ())).bind fun t5 => Lr07_turnRoutines_9 s k x0 x1 (Lr07_turnRoutines_3 s k x0 x1 j3) k (v0) (v1) (v2) (0) ((v0.getD v2.toNat dd_TRoutine).Marks_Before) ((v0.getD v2.toNat dd_TRoutine).Marks_Trail) (t5) ((v0.getD v2.toNat dd_TRoutine).Result) ((v0.getD v2.toNat dd_TRoutine).Params) ((v0.getD v2.toNat dd_TRoutine).Vars) ((v0.getD v2.toNat dd_TRoutine).Inner) ((v0.getD v2.toNat dd_TRoutine).Body) ((v0.getD v2.toNat dd_TRoutine).End) (v3) ([])) else none) else none) else some (v3))
def B_r07_turnRoutines (s : Fam) (k : Nat) (x0 : List TRoutine) (x1 : List TPair) : Option (List TRoutine) := Lr07_turnRoutines_3 s k x0 x1 k (x0) (x1) (0) ([])
theorem Lr07_turnRoutines_9_eq (s : Fam) (k : Nat) (x0 : List TRoutine) (x1 : List TPair) (j3 : Nat) (r3 : List TRoutine → List TPair → Int → List TRoutine → Option (List TRoutine)) (h3 : ∀ (v0 : List TRoutine) (v1 : List TPair) (v2 : Int) (v3 : List TRoutine), (loopGo EE (sp s) h_r07_turnRoutines co_r07_turnRoutines [] k Tryz.f22 3 [] j3 ({ tmps := ofL AV.any [(0, AV.c (CV.d (DV.sl 90 v0))), (1, AV.c (CV.d (DV.sl 58 v1))), (5, AV.c (CV.own 5 0)), (6, AV.c (CV.d (DV.lit (Go.Value.int Go.IntKind.i64 v2))))], boxes := ofL Option.none [], objs := ofL Option.none [(5, Option.some { ver := 0, t := 90, xs := v3 : Obj II })], fxs := ofL Option.none [] : AS II })).run = (r3 v0 v1 v2 v3).map rc_r07_turnRoutines.enc) : ∀ (j9 : Nat) (uv0 : List TRoutine) (uv1 : List TPair) (uv2 : Int) (uv3 : Int) (uv4 : List ByteArray) (uv5 : List ByteArray) (uv6 : b_r07_Turned) (uv7 : Int) (uv8 : List TParam) (uv9 : List TVar) (uv10 : List TRoutine) (uv11 : List TStmt) (uv12 : List ByteArray) (uv13 : List TRoutine) (uv14 : List TParam), (loopGo EE (sp s) h_r07_turnRoutines co_r07_turnRoutines [] k Tryz.f22 9 [j3] j9 ({ tmps := ofL AV.any [(0, AV.c (CV.d (DV.sl 90 uv0))), (1, AV.c (CV.d (DV.sl 58 uv1))), (5, AV.c (CV.own 5 0)), (6, AV.c (CV.d (DV.lit (Go.Value.int Go.IntKind.i64 uv2)))), (7, AV.c (CV.ptr 7 0)), (8, AV.c (CV.own 8 0)), (9, AV.c (CV.d (DV.lit (Go.Value.int Go.IntKind.i64 uv3))))], boxes := ofL Option.none [(7, Option.some [CV.d (DV.sl 9 uv4), CV.d (DV.sl 9 uv5), CV.d (DV.lit (Go.Value.string uv6)), CV.d (DV.lit (Go.Value.int Go.IntKind.i64 uv7)), CV.d (DV.sl 92 uv8), CV.d (DV.sl 56 uv9), CV.d (DV.sl 90 uv10), CV.d (DV.sl 97 uv11), CV.d (DV.sl 9 uv12)])], objs := ofL Option.none [(5, Option.some { ver := 0, t := 90, xs := uv13 : Obj II }), (8, Option.some { ver := 0, t := 92, xs := uv14 : Obj II }), (1099511656448, Option.none), (1099511656449, Option.none), (1099511656452, Option.none), (1099511656453, Option.none), (1099511656454, Option.none), (1099511656455, Option.none), (1099511656456, Option.none)], fxs := ofL Option.none [(7, Option.none)] : AS II })).run = (Lr07_turnRoutines_9 s k x0 x1 r3 j9 uv0 uv1 uv2 uv3 uv4 uv5 uv6 uv7 uv8 uv9 uv10 uv11 uv12 uv13 uv14).map rc_r07_turnRoutines.enc := by
  intro j9
  induction j9 with
  | zero => intros; rfl
  | succ j9 ih =>
    intros
    simp only [Lr07_turnRoutines_9, map_ite, map_bindO, map_someO, map_noneO, ← ih, ← h3]
    kernel_rfl
theorem Lr07_turnRoutines_3_eq (s : Fam) (k : Nat) (x0 : List TRoutine) (x1 : List TPair) : ∀ (j3 : Nat) (v0 : List TRoutine) (v1 : List TPair) (v2 : Int) (v3 : List TRoutine), (loopGo EE (sp s) h_r07_turnRoutines co_r07_turnRoutines [] k Tryz.f22 3 [] j3 ({ tmps := ofL AV.any [(0, AV.c (CV.d (DV.sl 90 v0))), (1, AV.c (CV.d (DV.sl 58 v1))), (5, AV.c (CV.own 5 0)), (6, AV.c (CV.d (DV.lit (Go.Value.int Go.IntKind.i64 v2))))], boxes := ofL Option.none [], objs := ofL Option.none [(5, Option.some { ver := 0, t := 90, xs := v3 : Obj II })], fxs := ofL Option.none [] : AS II })).run = (Lr07_turnRoutines_3 s k x0 x1 j3 v0 v1 v2 v3).map rc_r07_turnRoutines.enc := by
  intro j3
  induction j3 with
  | zero => intros; rfl
  | succ j3 ih =>
    have q0 := Lr07_turnRoutines_9_eq s k x0 x1 j3 (Lr07_turnRoutines_3 s k x0 x1 j3) ih
    intros
    simp only [Lr07_turnRoutines_3, map_ite, map_bindO, map_someO, map_noneO, ← ih, ← q0]
    kernel_rfl
theorem e_r07_turnRoutines (s : Fam) (k : Nat) (x : a_r07_turnRoutines) : (evFunC EE (sp s) h_r07_turnRoutines co_r07_turnRoutines k Tryz.f22 (c_r07_turnRoutines.enc x)).run = (B_r07_turnRoutines s k x.1 x.2.1).map rc_r07_turnRoutines.enc := by
  simp only [B_r07_turnRoutines, map_ite, map_bindO, map_someO, map_noneO, ← Lr07_turnRoutines_3_eq]
  kernel_rfl
-- 25 nodes
def Lr07_turnStmts_10 (s : Fam) (k : Nat) (x0 : List TStmt) (x1 : List TPair) (r3 : List TStmt → List TPair → Int → List TStmt → Option (List TStmt)) : Nat → List TStmt → List TPair → Int → Int → List ByteArray → List ByteArray → Int → b_r07_Turned → Int → Int → ByteArray → ByteArray → List TExpr → List TExpr → Bool → Bool → List TStmt → List TStmt → List ByteArray → List ByteArray → List TStmt → List TExpr → Option (List TStmt)
  | 0, _, _, _, _, _, _, _, _, _, _, _, _, _, _, _, _, _, _, _, _, _, _ => none
  | j10 + 1, uv0, uv1, uv2, uv3, uv4, uv5, uv6, uv7, uv8, uv9, uv10, uv11, uv12, uv13, uv14, uv15, uv16, uv17, uv18, uv19, uv20, uv21 => (if decide (uv3 < (↑uv13.length : Int)) = Bool.true then (if 0 ≤ uv3 then (if uv3 < (↑uv13.length : Int) then ((s.f_r07_turnExpr ((uv13.getD uv3.toNat dd_TExpr).re, uv1, ())).bind fun t11 => (if (uv21 ++ [TExpr.re t11]).length * 72 ≤ 140737488355328 then Lr07_turnStmts_10 s k x0 x1 r3 j10 (uv0) (uv1) (uv2) (Go.IntKind.i64.wrap (uv3 + 1)) (uv4) (uv5) (uv6) (uv7) (uv8) (uv9) (uv10) (uv11) (uv12) (uv13) (uv14) (uv15) (uv16) (uv17) (uv18) (uv19) (uv20) (uv21 ++ [TExpr.re t11]) else none)) else none) else none) else ((s.f_r07_turnStmts (uv16, uv1, ())).bind fun t17 => ((s.f_r07_turnStmts (uv17, uv1, ())).bind fun t18 => (if (uv20 ++ [{ Marks_Before := uv4, Marks_Trail := uv5, Op := uv6, Name := uv7, P_Op := uv8, P_N := uv9, P_Name := uv10, P_Field := uv11, P_L := uv12, E := uv21, Down := uv14, More := uv15, Body := t17, Else := t18, End := uv18, End2 := uv19 : TStmt }]).length * 272 ≤ 140737488355328 then r3 (uv0) (uv1) (Go.IntKind.i64.wrap (uv2 + 1)) (uv20 ++ [{ Marks_Before := uv4, Marks_Trail := uv5, Op := uv6, Name := uv7, P_Op := uv8, P_N := uv9, P_Name := uv10, P_Field := uv11, P_L := uv12, E := uv21, Down := uv14, More := uv15, Body := t17, Else := t18, End := uv18, End2 := uv19 : TStmt }]) else none))))
def Lr07_turnStmts_3 (s : Fam) (k : Nat) (x0 : List TStmt) (x1 : List TPair) : Nat → List TStmt → List TPair → Int → List TStmt → Option (List TStmt)
  | 0, _, _, _, _ => none
  | j3 + 1, v0, v1, v2, v3 => (if decide (v2 < (↑v0.length : Int)) = Bool.true then (if 0 ≤ v2 then (if v2 < (↑v0.length : Int) then ((s.f_r07_Turned ((v0.getD v2.toNat dd_TStmt).Name, v1, ())).bind fun t5 => ((s.f_r07_turnExpr ((v0.getD v2.toNat dd_TStmt).sub_P, v1, ())).bind fun t6 => Lr07_turnStmts_10 s k x0 x1 (Lr07_turnStmts_3 s k x0 x1 j3) k (v0) (v1) (v2) (0) ((v0.getD v2.toNat dd_TStmt).Marks_Before) ((v0.getD v2.toNat dd_TStmt).Marks_Trail) ((v0.getD v2.toNat dd_TStmt).Op) (t5) (t6.Op) (t6.N) (t6.Name) (t6.Field) (t6.L) ((v0.getD v2.toNat dd_TStmt).E) ((v0.getD v2.toNat dd_TStmt).Down) ((v0.getD v2.toNat dd_TStmt).More) ((v0.getD v2.toNat dd_TStmt).Body) ((v0.getD v2.toNat dd_TStmt).Else) ((v0.getD v2.toNat dd_TStmt).End) ((v0.getD v2.toNat dd_TStmt).End2) (v3) ([]))) else none) else none) else some (v3))
def B_r07_turnStmts (s : Fam) (k : Nat) (x0 : List TStmt) (x1 : List TPair) : Option (List TStmt) := Lr07_turnStmts_3 s k x0 x1 k (x0) (x1) (0) ([])
theorem Lr07_turnStmts_10_eq (s : Fam) (k : Nat) (x0 : List TStmt) (x1 : List TPair) (j3 : Nat) (r3 : List TStmt → List TPair → Int → List TStmt → Option (List TStmt)) (h3 : ∀ (v0 : List TStmt) (v1 : List TPair) (v2 : Int) (v3 : List TStmt), (loopGo EE (sp s) h_r07_turnStmts co_r07_turnStmts [] k Tryz.f23 3 [] j3 ({ tmps := ofL AV.any [(0, AV.c (CV.d (DV.sl 97 v0))), (1, AV.c (CV.d (DV.sl 58 v1))), (5, AV.c (CV.own 5 0)), (6, AV.c (CV.d (DV.lit (Go.Value.int Go.IntKind.i64 v2))))], boxes := ofL Option.none [], objs := ofL Option.none [(5, Option.some { ver := 0, t := 97, xs := v3 : Obj II })], fxs := ofL Option.none [] : AS II })).run = (r3 v0 v1 v2 v3).map rc_r07_turnStmts.enc) : ∀ (j10 : Nat) (uv0 : List TStmt) (uv1 : List TPair) (uv2 : Int) (uv3 : Int) (uv4 : List ByteArray) (uv5 : List ByteArray) (uv6 : Int) (uv7 : b_r07_Turned) (uv8 : Int) (uv9 : Int) (uv10 : ByteArray) (uv11 : ByteArray) (uv12 : List TExpr) (uv13 : List TExpr) (uv14 : Bool) (uv15 : Bool) (uv16 : List TStmt) (uv17 : List TStmt) (uv18 : List ByteArray) (uv19 : List ByteArray) (uv20 : List TStmt) (uv21 : List TExpr), (loopGo EE (sp s) h_r07_turnStmts co_r07_turnStmts [] k Tryz.f23 10 [j3] j10 ({ tmps := ofL AV.any [(0, AV.c (CV.d (DV.sl 97 uv0))), (1, AV.c (CV.d (DV.sl 58 uv1))), (5, AV.c (CV.own 5 0)), (6, AV.c (CV.d (DV.lit (Go.Value.int Go.IntKind.i64 uv2)))), (7, AV.c (CV.ptr 7 0)), (8, AV.c (CV.own 8 0)), (9, AV.c (CV.d (DV.lit (Go.Value.int Go.IntKind.i64 uv3))))], boxes := ofL Option.none [(7, Option.some [CV.d (DV.sl 9 uv4), CV.d (DV.sl 9 uv5), CV.d (DV.lit (Go.Value.int Go.IntKind.i64 uv6)), CV.d (DV.lit (Go.Value.string uv7)), CV.d (DV.lit (Go.Value.int Go.IntKind.i64 uv8)), CV.d (DV.lit (Go.Value.int Go.IntKind.i64 uv9)), CV.d (DV.lit (Go.Value.string uv10)), CV.d (DV.lit (Go.Value.string uv11)), CV.d (DV.sl 95 uv12), CV.d (DV.sl 95 uv13), CV.d (DV.lit (Go.Value.bool uv14)), CV.d (DV.lit (Go.Value.bool uv15)), CV.d (DV.sl 97 uv16), CV.d (DV.sl 97 uv17), CV.d (DV.sl 9 uv18), CV.d (DV.sl 9 uv19)])], objs := ofL Option.none [(5, Option.some { ver := 0, t := 97, xs := uv20 : Obj II }), (8, Option.some { ver := 0, t := 95, xs := uv21 : Obj II }), (1099511656448, Option.none), (1099511656449, Option.none), (1099511656456, Option.none), (1099511656457, Option.none), (1099511656460, Option.none), (1099511656461, Option.none), (1099511656462, Option.none), (1099511656463, Option.none)], fxs := ofL Option.none [(7, Option.none)] : AS II })).run = (Lr07_turnStmts_10 s k x0 x1 r3 j10 uv0 uv1 uv2 uv3 uv4 uv5 uv6 uv7 uv8 uv9 uv10 uv11 uv12 uv13 uv14 uv15 uv16 uv17 uv18 uv19 uv20 uv21).map rc_r07_turnStmts.enc := by
  intro j10
  induction j10 with
  | zero => intros; rfl
  | succ j10 ih =>
    intros
    simp only [Lr07_turnStmts_10, map_ite, map_bindO, map_someO, map_noneO, ← ih, ← h3]
    kernel_rfl
theorem Lr07_turnStmts_3_eq (s : Fam) (k : Nat) (x0 : List TStmt) (x1 : List TPair) : ∀ (j3 : Nat) (v0 : List TStmt) (v1 : List TPair) (v2 : Int) (v3 : List TStmt), (loopGo EE (sp s) h_r07_turnStmts co_r07_turnStmts [] k Tryz.f23 3 [] j3 ({ tmps := ofL AV.any [(0, AV.c (CV.d (DV.sl 97 v0))), (1, AV.c (CV.d (DV.sl 58 v1))), (5, AV.c (CV.own 5 0)), (6, AV.c (CV.d (DV.lit (Go.Value.int Go.IntKind.i64 v2))))], boxes := ofL Option.none [], objs := ofL Option.none [(5, Option.some { ver := 0, t := 97, xs := v3 : Obj II })], fxs := ofL Option.none [] : AS II })).run = (Lr07_turnStmts_3 s k x0 x1 j3 v0 v1 v2 v3).map rc_r07_turnStmts.enc := by
  intro j3
  induction j3 with
  | zero => intros; rfl
  | succ j3 ih =>
    have q0 := Lr07_turnStmts_10_eq s k x0 x1 j3 (Lr07_turnStmts_3 s k x0 x1 j3) ih
    intros
    simp only [Lr07_turnStmts_3, map_ite, map_bindO, map_someO, map_noneO, ← ih, ← q0]
    kernel_rfl
theorem e_r07_turnStmts (s : Fam) (k : Nat) (x : a_r07_turnStmts) : (evFunC EE (sp s) h_r07_turnStmts co_r07_turnStmts k Tryz.f23 (c_r07_turnStmts.enc x)).run = (B_r07_turnStmts s k x.1 x.2.1).map rc_r07_turnStmts.enc := by
  simp only [B_r07_turnStmts, map_ite, map_bindO, map_someO, map_noneO, ← Lr07_turnStmts_3_eq]
  kernel_rfl
-- 24 nodes
def Lwords_Fresh_3 (s : Fam) (k : Nat) (x0 : ByteArray) (x1 : List ByteArray) : Nat → ByteArray → List ByteArray → ByteArray → Int → Option (ByteArray)
  | 0, _, _, _, _ => none
  | j3 + 1, v0, v1, v2, v3 => ((s.f_words_Is (0, v2, ())).bind fun t2 => (if t2 = Bool.false then ((s.f_words_Is (1, v2, ())).bind fun t4 => (if (Bool.false || t4) = Bool.false then ((s.f_slices_Contains_string (v1, v2, ())).bind fun t6 => (if (Bool.false || t6) = Bool.true then (if (↑0 : Int) ≤ if 24 < (↑v0.size : Int) then 24 else (↑v0.size : Int) then (if (if 24 < (↑v0.size : Int) then 24 else (↑v0.size : Int)) ≤ (↑v0.size : Int) then (if (↑((v0.extract (↑0 : Int).toNat (if 24 < (↑v0.size : Int) then 24 else (↑v0.size : Int)).toNat).size + { data := #[95] : ByteArray }.size) : Int) > Go.IntKind.i64.max then none else ((s.f_strconv_Itoa (v3, ())).bind fun t13 => (if (↑((v0.extract (↑0 : Int).toNat (if 24 < (↑v0.size : Int) then 24 else (↑v0.size : Int)).toNat ++ { data := #[95] : ByteArray }).size + ByteArray.size t13) : Int) > Go.IntKind.i64.max then none else Lwords_Fresh_3 s k x0 x1 j3 (v0) (v1) (v0.extract (↑0 : Int).toNat (if 24 < (↑v0.size : Int) then 24 else (↑v0.size : Int)).toNat ++ { data := #[95] : ByteArray } ++ t13) (Go.IntKind.i64.wrap (v3 + 1))))) else none) else none) else some (v2))) else (if (↑0 : Int) ≤ if 24 < (↑v0.size : Int) then 24 else (↑v0.size : Int) then (if (if 24 < (↑v0.size : Int) then 24 else (↑v0.size : Int)) ≤ (↑v0.size : Int) then (if (↑((v0.extract (↑0 : Int).toNat (if 24 < (↑v0.size : Int) then 24 else (↑v0.size : Int)).toNat).size + { data := #[95] : ByteArray }.size) : Int) > Go.IntKind.i64.max then none else ((s.f_strconv_Itoa (v3, ())).bind fun t27 => (if (↑((v0.extract (↑0 : Int).toNat (if 24 < (↑v0.size : Int) then 24 else (↑v0.size : Int)).toNat ++ { data := #[95] : ByteArray }).size + ByteArray.size t27) : Int) > Go.IntKind.i64.max then none else Lwords_Fresh_3 s k x0 x1 j3 (v0) (v1) (v0.extract (↑0 : Int).toNat (if 24 < (↑v0.size : Int) then 24 else (↑v0.size : Int)).toNat ++ { data := #[95] : ByteArray } ++ t27) (Go.IntKind.i64.wrap (v3 + 1))))) else none) else none))) else (if (↑0 : Int) ≤ if 24 < (↑v0.size : Int) then 24 else (↑v0.size : Int) then (if (if 24 < (↑v0.size : Int) then 24 else (↑v0.size : Int)) ≤ (↑v0.size : Int) then (if (↑((v0.extract (↑0 : Int).toNat (if 24 < (↑v0.size : Int) then 24 else (↑v0.size : Int)).toNat).size + { data := #[95] : ByteArray }.size) : Int) > Go.IntKind.i64.max then none else ((s.f_strconv_Itoa (v3, ())).bind fun t42 => (if (↑((v0.extract (↑0 : Int).toNat (if 24 < (↑v0.size : Int) then 24 else (↑v0.size : Int)).toNat ++ { data := #[95] : ByteArray }).size + ByteArray.size t42) : Int) > Go.IntKind.i64.max then none else Lwords_Fresh_3 s k x0 x1 j3 (v0) (v1) (v0.extract (↑0 : Int).toNat (if 24 < (↑v0.size : Int) then 24 else (↑v0.size : Int)).toNat ++ { data := #[95] : ByteArray } ++ t42) (Go.IntKind.i64.wrap (v3 + 1))))) else none) else none)))
def B_words_Fresh (s : Fam) (k : Nat) (x0 : ByteArray) (x1 : List ByteArray) : Option (ByteArray) := Lwords_Fresh_3 s k x0 x1 k (x0) (x1) (x0) (1)
theorem Lwords_Fresh_3_eq (s : Fam) (k : Nat) (x0 : ByteArray) (x1 : List ByteArray) : ∀ (j3 : Nat) (v0 : ByteArray) (v1 : List ByteArray) (v2 : ByteArray) (v3 : Int), (loopGo EE (sp s) h_words_Fresh co_words_Fresh [] k Tryz.f27 3 [] j3 ({ tmps := ofL AV.any [(0, AV.c (CV.d (DV.lit (Go.Value.string v0)))), (1, AV.c (CV.d (DV.sl 9 v1))), (5, AV.c (CV.d (DV.lit (Go.Value.string v2)))), (6, AV.c (CV.d (DV.lit (Go.Value.int Go.IntKind.i64 v3))))], boxes := ofL Option.none [], objs := ofL Option.none [], fxs := ofL Option.none [] : AS II })).run = (Lwords_Fresh_3 s k x0 x1 j3 v0 v1 v2 v3).map rc_words_Fresh.enc := by
  intro j3
  induction j3 with
  | zero => intros; rfl
  | succ j3 ih =>
    intros
    simp only [Lwords_Fresh_3, map_ite, map_bindO, map_someO, map_noneO, ← ih]
    kernel_rfl
theorem e_words_Fresh (s : Fam) (k : Nat) (x : a_words_Fresh) : (evFunC EE (sp s) h_words_Fresh co_words_Fresh k Tryz.f27 (c_words_Fresh.enc x)).run = (B_words_Fresh s k x.1 x.2.1).map rc_words_Fresh.enc := by
  simp only [B_words_Fresh, map_ite, map_bindO, map_someO, map_noneO, ← Lwords_Fresh_3_eq]
  kernel_rfl
-- 47 nodes
def B_r04_Is (s : Fam) (k : Nat) (x0 : Int) (x1 : ByteArray) : Option (Bool) := ((s.f_r04_All (x0, ())).bind fun t1 => ((s.f_r04_Among (t1, x1, ())).bind fun t2 => some (t2)))
theorem e_r04_Is (s : Fam) (k : Nat) (x : a_r04_Is) : (evFunC EE (sp s) h_r04_Is co_r04_Is k Tryz.f29 (c_r04_Is.enc x)).run = (B_r04_Is s k x.1 x.2.1).map rc_r04_Is.enc := by
  simp only [B_r04_Is, map_ite, map_bindO, map_someO, map_noneO]
  kernel_rfl
-- 3 nodes
def Lr04_Fresh_7 (s : Fam) (k : Nat) (x0 : ByteArray) (x1 : List ByteArray) : Nat → List ByteArray → ByteArray → Int → Option (ByteArray)
  | 0, _, _, _ => none
  | j7 + 1, v0, v1, v2 => (if decide (v2 ≤ Go.IntKind.i64.wrap ((↑v0.length : Int) + 1)) = Bool.true then (if (↑(v1.size + { data := #[95] : ByteArray }.size) : Int) > Go.IntKind.i64.max then none else ((s.f_r01_Digits (v2, ())).bind fun t16 => (if (↑((v1 ++ { data := #[95] : ByteArray }).size + ByteArray.size t16) : Int) > Go.IntKind.i64.max then none else ((s.f_r04_Is (0, v1 ++ { data := #[95] : ByteArray } ++ t16, ())).bind fun t19 => (if (!t19) = Bool.true then ((s.f_r04_Is (1, v1 ++ { data := #[95] : ByteArray } ++ t16, ())).bind fun t21 => (if (Bool.true && !t21) = Bool.true then ((s.f_r04_Among (v0, v1 ++ { data := #[95] : ByteArray } ++ t16, ())).bind fun t23 => (if (Bool.true && !t23) = Bool.true then some (v1 ++ { data := #[95] : ByteArray } ++ t16) else Lr04_Fresh_7 s k x0 x1 j7 (v0) (v1) (Go.IntKind.i64.wrap (v2 + 1)))) else Lr04_Fresh_7 s k x0 x1 j7 (v0) (v1) (Go.IntKind.i64.wrap (v2 + 1)))) else Lr04_Fresh_7 s k x0 x1 j7 (v0) (v1) (Go.IntKind.i64.wrap (v2 + 1))))))) else some ({ data := #[] : ByteArray }))
def B_r04_Fresh (s : Fam) (k : Nat) (x0 : ByteArray) (x1 : List ByteArray) : Option (ByteArray) := ((s.f_r04_Is (0, x0, ())).bind fun t1 => (if (!t1) = Bool.true then ((s.f_r04_Is (1, x0, ())).bind fun t3 => (if (Bool.true && !t3) = Bool.true then ((s.f_r04_Among (x1, x0, ())).bind fun t5 => (if (Bool.true && !t5) = Bool.true then some (x0) else (if decide ((↑x0.size : Int) > 24) = Bool.true then (if 24 ≤ (↑x0.size : Int) then Lr04_Fresh_7 s k x0 x1 k (x1) (x0.extract (↑0 : Int).toNat (Int.toNat 24)) (1) else none) else Lr04_Fresh_7 s k x0 x1 k (x1) (x0) (1)))) else (if decide ((↑x0.size : Int) > 24) = Bool.true then (if 24 ≤ (↑x0.size : Int) then Lr04_Fresh_7 s k x0 x1 k (x1) (x0.extract (↑0 : Int).toNat (Int.toNat 24)) (1) else none) else Lr04_Fresh_7 s k x0 x1 k (x1) (x0) (1)))) else (if decide ((↑x0.size : Int) > 24) = Bool.true then (if 24 ≤ (↑x0.size : Int) then Lr04_Fresh_7 s k x0 x1 k (x1) (x0.extract (↑0 : Int).toNat (Int.toNat 24)) (1) else none) else Lr04_Fresh_7 s k x0 x1 k (x1) (x0) (1))))
theorem Lr04_Fresh_7_eq (s : Fam) (k : Nat) (x0 : ByteArray) (x1 : List ByteArray) : ∀ (j7 : Nat) (v0 : List ByteArray) (v1 : ByteArray) (v2 : Int), (loopGo EE (sp s) h_r04_Fresh co_r04_Fresh [] k Tryz.f30 7 [] j7 ({ tmps := ofL AV.any [(1, AV.c (CV.d (DV.sl 9 v0))), (5, AV.c (CV.d (DV.lit (Go.Value.string v1)))), (6, AV.c (CV.d (DV.lit (Go.Value.int Go.IntKind.i64 v2))))], boxes := ofL Option.none [], objs := ofL Option.none [], fxs := ofL Option.none [] : AS II })).run = (Lr04_Fresh_7 s k x0 x1 j7 v0 v1 v2).map rc_r04_Fresh.enc := by
  intro j7
  induction j7 with
  | zero => intros; rfl
  | succ j7 ih =>
    intros
    simp only [Lr04_Fresh_7, map_ite, map_bindO, map_someO, map_noneO, ← ih]
    kernel_rfl
theorem e_r04_Fresh (s : Fam) (k : Nat) (x : a_r04_Fresh) : (evFunC EE (sp s) h_r04_Fresh co_r04_Fresh k Tryz.f30 (c_r04_Fresh.enc x)).run = (B_r04_Fresh s k x.1 x.2.1).map rc_r04_Fresh.enc := by
  simp only [B_r04_Fresh, map_ite, map_bindO, map_someO, map_noneO, ← Lr04_Fresh_7_eq]
  kernel_rfl
-- 63 nodes
def Lr01_SameTexts_4 (s : Fam) (k : Nat) (x0 : List ByteArray) (x1 : List ByteArray) : Nat → List ByteArray → List ByteArray → Int → Option (Bool)
  | 0, _, _, _ => none
  | j4 + 1, v0, v1, v2 => (if decide (v2 < (↑v0.length : Int)) = Bool.true then (if 0 ≤ v2 then (if v2 < (↑v0.length : Int) then (if 0 ≤ v2 then (if v2 < (↑v1.length : Int) then (if (!(v0.getD v2.toNat { data := #[] : ByteArray }).toList == (v1.getD v2.toNat { data := #[] : ByteArray }).toList) = Bool.true then some (Bool.false) else Lr01_SameTexts_4 s k x0 x1 j4 (v0) (v1) (Go.IntKind.i64.wrap (v2 + 1))) else none) else none) else none) else none) else some (Bool.true))
def B_r01_SameTexts (s : Fam) (k : Nat) (x0 : List ByteArray) (x1 : List ByteArray) : Option (Bool) := (if ((↑x0.length : Int) != (↑x1.length : Int)) = Bool.true then some (Bool.false) else Lr01_SameTexts_4 s k x0 x1 k (x0) (x1) (0))
theorem Lr01_SameTexts_4_eq (s : Fam) (k : Nat) (x0 : List ByteArray) (x1 : List ByteArray) : ∀ (j4 : Nat) (v0 : List ByteArray) (v1 : List ByteArray) (v2 : Int), (loopGo EE (sp s) h_r01_SameTexts co_r01_SameTexts [] k Tryz.f31 4 [] j4 ({ tmps := ofL AV.any [(0, AV.c (CV.d (DV.sl 9 v0))), (1, AV.c (CV.d (DV.sl 9 v1))), (5, AV.c (CV.d (DV.lit (Go.Value.int Go.IntKind.i64 v2))))], boxes := ofL Option.none [], objs := ofL Option.none [], fxs := ofL Option.none [] : AS II })).run = (Lr01_SameTexts_4 s k x0 x1 j4 v0 v1 v2).map rc_r01_SameTexts.enc := by
  intro j4
  induction j4 with
  | zero => intros; rfl
  | succ j4 ih =>
    intros
    simp only [Lr01_SameTexts_4, map_ite, map_bindO, map_someO, map_noneO, ← ih]
    kernel_rfl
theorem e_r01_SameTexts (s : Fam) (k : Nat) (x : a_r01_SameTexts) : (evFunC EE (sp s) h_r01_SameTexts co_r01_SameTexts k Tryz.f31 (c_r01_SameTexts.enc x)).run = (B_r01_SameTexts s k x.1 x.2.1).map rc_r01_SameTexts.enc := by
  simp only [B_r01_SameTexts, map_ite, map_bindO, map_someO, map_noneO, ← Lr01_SameTexts_4_eq]
  kernel_rfl
-- 16 nodes
def B_r07_sameMarks (s : Fam) (k : Nat) (x0 : TMarks) (x1 : TMarks) : Option (Bool) := ((s.f_r01_SameTexts (x0.Before, x1.Before, ())).bind fun t1 => (if t1 = Bool.true then ((s.f_r01_SameTexts (x0.Trail, x1.Trail, ())).bind fun t3 => some (Bool.true && t3)) else some (Bool.false)))
theorem e_r07_sameMarks (s : Fam) (k : Nat) (x : a_r07_sameMarks) : (evFunC EE (sp s) h_r07_sameMarks co_r07_sameMarks k Tryz.f32 (c_r07_sameMarks.enc x)).run = (B_r07_sameMarks s k x.1 x.2.1).map rc_r07_sameMarks.enc := by
  simp only [B_r07_sameMarks, map_ite, map_bindO, map_someO, map_noneO]
  kernel_rfl
-- 6 nodes
def Lr07_sameVars_4 (s : Fam) (k : Nat) (x0 : List TVar) (x1 : List TVar) : Nat → List TVar → List TVar → Int → Option (Bool)
  | 0, _, _, _ => none
  | j4 + 1, v0, v1, v2 => (if decide (v2 < (↑v0.length : Int)) = Bool.true then (if 0 ≤ v2 then (if v2 < (↑v0.length : Int) then (if 0 ≤ v2 then (if v2 < (↑v1.length : Int) then ((s.f_r07_sameMarks ((v0.getD v2.toNat dd_TVar).sub_Marks, (v1.getD v2.toNat dd_TVar).sub_Marks, ())).bind fun t9 => (if (!t9) = Bool.false then (if 0 ≤ v2 then (if v2 < (↑v0.length : Int) then (if 0 ≤ v2 then (if v2 < (↑v1.length : Int) then (if (Bool.false || !(v0.getD v2.toNat dd_TVar).Name.toList == (v1.getD v2.toNat dd_TVar).Name.toList) = Bool.false then (if 0 ≤ v2 then (if v2 < (↑v0.length : Int) then (if 0 ≤ v2 then (if v2 < (↑v1.length : Int) then (if (Bool.false || !((v0.getD v2.toNat dd_TVar).T_Kind == (v1.getD v2.toNat dd_TVar).T_Kind && ((v0.getD v2.toNat dd_TVar).T_Size == (v1.getD v2.toNat dd_TVar).T_Size && ((v0.getD v2.toNat dd_TVar).T_Name.toList == (v1.getD v2.toNat dd_TVar).T_Name.toList && Bool.true)))) = Bool.true then some (Bool.false) else Lr07_sameVars_4 s k x0 x1 j4 (v0) (v1) (Go.IntKind.i64.wrap (v2 + 1))) else none) else none) else none) else none) else some (Bool.false)) else none) else none) else none) else none) else some (Bool.false))) else none) else none) else none) else none) else some (Bool.true))
def B_r07_sameVars (s : Fam) (k : Nat) (x0 : List TVar) (x1 : List TVar) : Option (Bool) := (if ((↑x0.length : Int) != (↑x1.length : Int)) = Bool.true then some (Bool.false) else Lr07_sameVars_4 s k x0 x1 k (x0) (x1) (0))
theorem Lr07_sameVars_4_eq (s : Fam) (k : Nat) (x0 : List TVar) (x1 : List TVar) : ∀ (j4 : Nat) (v0 : List TVar) (v1 : List TVar) (v2 : Int), (loopGo EE (sp s) h_r07_sameVars co_r07_sameVars [] k Tryz.f33 4 [] j4 ({ tmps := ofL AV.any [(0, AV.c (CV.d (DV.sl 56 v0))), (1, AV.c (CV.d (DV.sl 56 v1))), (5, AV.c (CV.d (DV.lit (Go.Value.int Go.IntKind.i64 v2))))], boxes := ofL Option.none [], objs := ofL Option.none [], fxs := ofL Option.none [] : AS II })).run = (Lr07_sameVars_4 s k x0 x1 j4 v0 v1 v2).map rc_r07_sameVars.enc := by
  intro j4
  induction j4 with
  | zero => intros; rfl
  | succ j4 ih =>
    intros
    simp only [Lr07_sameVars_4, map_ite, map_bindO, map_someO, map_noneO, ← ih]
    kernel_rfl
theorem e_r07_sameVars (s : Fam) (k : Nat) (x : a_r07_sameVars) : (evFunC EE (sp s) h_r07_sameVars co_r07_sameVars k Tryz.f33 (c_r07_sameVars.enc x)).run = (B_r07_sameVars s k x.1 x.2.1).map rc_r07_sameVars.enc := by
  simp only [B_r07_sameVars, map_ite, map_bindO, map_someO, map_noneO, ← Lr07_sameVars_4_eq]
  kernel_rfl
-- 63 nodes
def Lr07_SameRoutines_10 (s : Fam) (k : Nat) (x0 : List TRoutine) (x1 : List TRoutine) (r4 : List TRoutine → List TRoutine → Int → Option (Bool)) : Nat → List TRoutine → List TRoutine → Int → Int → List ByteArray → List ByteArray → ByteArray → Int → List TParam → List TVar → List TRoutine → List TStmt → List ByteArray → List ByteArray → List ByteArray → ByteArray → Int → List TParam → List TVar → List TRoutine → List TStmt → List ByteArray → Option (Bool)
  | 0, _, _, _, _, _, _, _, _, _, _, _, _, _, _, _, _, _, _, _, _, _, _ => none
  | j10 + 1, uv0, uv1, uv2, uv3, uv4, uv5, uv6, uv7, uv8, uv9, uv10, uv11, uv12, uv13, uv14, uv15, uv16, uv17, uv18, uv19, uv20, uv21 => (if decide (uv3 < (↑uv8.length : Int)) = Bool.true then (if 0 ≤ uv3 then (if uv3 < (↑uv8.length : Int) then (if 0 ≤ uv3 then (if uv3 < (↑uv17.length : Int) then (if (!((uv8.getD uv3.toNat dd_TParam).Name.toList == (uv17.getD uv3.toNat dd_TParam).Name.toList && ((uv8.getD uv3.toNat dd_TParam).T_Kind == (uv17.getD uv3.toNat dd_TParam).T_Kind && ((uv8.getD uv3.toNat dd_TParam).T_Size == (uv17.getD uv3.toNat dd_TParam).T_Size && ((uv8.getD uv3.toNat dd_TParam).T_Name.toList == (uv17.getD uv3.toNat dd_TParam).T_Name.toList && Bool.true)) && ((uv8.getD uv3.toNat dd_TParam).Mode == (uv17.getD uv3.toNat dd_TParam).Mode && Bool.true)))) = Bool.true then some (Bool.false) else Lr07_SameRoutines_10 s k x0 x1 r4 j10 (uv0) (uv1) (uv2) (Go.IntKind.i64.wrap (uv3 + 1)) (uv4) (uv5) (uv6) (uv7) (uv8) (uv9) (uv10) (uv11) (uv12) (uv13) (uv14) (uv15) (uv16) (uv17) (uv18) (uv19) (uv20) (uv21)) else none) else none) else none) else none) else ((s.f_r07_sameVars (uv9, uv18, ())).bind fun t27 => (if (!t27) = Bool.false then ((s.f_r07_SameRoutines (uv10, uv19, ())).bind fun t29 => (if (Bool.false || !t29) = Bool.false then ((s.f_r07_SameStmts (uv11, uv20, ())).bind fun t31 => (if (Bool.false || !t31) = Bool.true then some (Bool.false) else r4 (uv0) (uv1) (Go.IntKind.i64.wrap (uv2 + 1)))) else some (Bool.false))) else some (Bool.false))))
def Lr07_SameRoutines_4 (s : Fam) (k : Nat) (x0 : List TRoutine) (x1 : List TRoutine) : Nat → List TRoutine → List TRoutine → Int → Option (Bool)
  | 0, _, _, _ => none
  | j4 + 1, v0, v1, v2 => (if decide (v2 < (↑v0.length : Int)) = Bool.true then (if 0 ≤ v2 then (if v2 < (↑v0.length : Int) then (if 0 ≤ v2 then (if v2 < (↑v1.length : Int) then ((s.f_r07_sameMarks ((v0.getD v2.toNat dd_TRoutine).sub_Marks, (v1.getD v2.toNat dd_TRoutine).sub_Marks, ())).bind fun t9 => (if (!t9 || !(v0.getD v2.toNat dd_TRoutine).Name.toList == (v1.getD v2.toNat dd_TRoutine).Name.toList || (v0.getD v2.toNat dd_TRoutine).Result != (v1.getD v2.toNat dd_TRoutine).Result || (↑(v0.getD v2.toNat dd_TRoutine).Params.length : Int) != (↑(v1.getD v2.toNat dd_TRoutine).Params.length : Int)) = Bool.false then ((s.f_r01_SameTexts ((v0.getD v2.toNat dd_TRoutine).End, (v1.getD v2.toNat dd_TRoutine).End, ())).bind fun t11 => (if (Bool.false || !t11) = Bool.true then some (Bool.false) else Lr07_SameRoutines_10 s k x0 x1 (Lr07_SameRoutines_4 s k x0 x1 j4) k (v0) (v1) (v2) (0) ((v0.getD v2.toNat dd_TRoutine).Marks_Before) ((v0.getD v2.toNat dd_TRoutine).Marks_Trail) ((v0.getD v2.toNat dd_TRoutine).Name) ((v0.getD v2.toNat dd_TRoutine).Result) ((v0.getD v2.toNat dd_TRoutine).Params) ((v0.getD v2.toNat dd_TRoutine).Vars) ((v0.getD v2.toNat dd_TRoutine).Inner) ((v0.getD v2.toNat dd_TRoutine).Body) ((v0.getD v2.toNat dd_TRoutine).End) ((v1.getD v2.toNat dd_TRoutine).Marks_Before) ((v1.getD v2.toNat dd_TRoutine).Marks_Trail) ((v1.getD v2.toNat dd_TRoutine).Name) ((v1.getD v2.toNat dd_TRoutine).Result) ((v1.getD v2.toNat dd_TRoutine).Params) ((v1.getD v2.toNat dd_TRoutine).Vars) ((v1.getD v2.toNat dd_TRoutine).Inner) ((v1.getD v2.toNat dd_TRoutine).Body) ((v1.getD v2.toNat dd_TRoutine).End))) else some (Bool.false))) else none) else none) else none) else none) else some (Bool.true))
def B_r07_SameRoutines (s : Fam) (k : Nat) (x0 : List TRoutine) (x1 : List TRoutine) : Option (Bool) := (if ((↑x0.length : Int) != (↑x1.length : Int)) = Bool.true then some (Bool.false) else Lr07_SameRoutines_4 s k x0 x1 k (x0) (x1) (0))
theorem Lr07_SameRoutines_10_eq (s : Fam) (k : Nat) (x0 : List TRoutine) (x1 : List TRoutine) (j4 : Nat) (r4 : List TRoutine → List TRoutine → Int → Option (Bool)) (h4 : ∀ (v0 : List TRoutine) (v1 : List TRoutine) (v2 : Int), (loopGo EE (sp s) h_r07_SameRoutines co_r07_SameRoutines [] k Tryz.f34 4 [] j4 ({ tmps := ofL AV.any [(0, AV.c (CV.d (DV.sl 90 v0))), (1, AV.c (CV.d (DV.sl 90 v1))), (5, AV.c (CV.d (DV.lit (Go.Value.int Go.IntKind.i64 v2))))], boxes := ofL Option.none [], objs := ofL Option.none [], fxs := ofL Option.none [] : AS II })).run = (r4 v0 v1 v2).map rc_r07_SameRoutines.enc) : ∀ (j10 : Nat) (uv0 : List TRoutine) (uv1 : List TRoutine) (uv2 : Int) (uv3 : Int) (uv4 : List ByteArray) (uv5 : List ByteArray) (uv6 : ByteArray) (uv7 : Int) (uv8 : List TParam) (uv9 : List TVar) (uv10 : List TRoutine) (uv11 : List TStmt) (uv12 : List ByteArray) (uv13 : List ByteArray) (uv14 : List ByteArray) (uv15 : ByteArray) (uv16 : Int) (uv17 : List TParam) (uv18 : List TVar) (uv19 : List TRoutine) (uv20 : List TStmt) (uv21 : List ByteArray), (loopGo EE (sp s) h_r07_SameRoutines co_r07_SameRoutines [] k Tryz.f34 10 [j4] j10 ({ tmps := ofL AV.any [(0, AV.c (CV.d (DV.sl 90 uv0))), (1, AV.c (CV.d (DV.sl 90 uv1))), (5, AV.c (CV.d (DV.lit (Go.Value.int Go.IntKind.i64 uv2)))), (6, AV.c (CV.ptr 6 0)), (7, AV.c (CV.ptr 7 0)), (8, AV.c (CV.d (DV.lit (Go.Value.int Go.IntKind.i64 uv3))))], boxes := ofL Option.none [(6, Option.some [CV.d (DV.sl 9 uv4), CV.d (DV.sl 9 uv5), CV.d (DV.lit (Go.Value.string uv6)), CV.d (DV.lit (Go.Value.int Go.IntKind.i64 uv7)), CV.d (DV.sl 92 uv8), CV.d (DV.sl 56 uv9), CV.d (DV.sl 90 uv10), CV.d (DV.sl 97 uv11), CV.d (DV.sl 9 uv12)]), (7, Option.some [CV.d (DV.sl 9 uv13), CV.d (DV.sl 9 uv14), CV.d (DV.lit (Go.Value.string uv15)), CV.d (DV.lit (Go.Value.int Go.IntKind.i64 uv16)), CV.d (DV.sl 92 uv17), CV.d (DV.sl 56 uv18), CV.d (DV.sl 90 uv19), CV.d (DV.sl 97 uv20), CV.d (DV.sl 9 uv21)])], objs := ofL Option.none [(1099511652352, Option.none), (1099511652353, Option.none), (1099511652356, Option.none), (1099511652357, Option.none), (1099511652358, Option.none), (1099511652359, Option.none), (1099511652360, Option.none), (1099511656448, Option.none), (1099511656449, Option.none), (1099511656452, Option.none), (1099511656453, Option.none), (1099511656454, Option.none), (1099511656455, Option.none), (1099511656456, Option.none)], fxs := ofL Option.none [(6, Option.none), (7, Option.none)] : AS II })).run = (Lr07_SameRoutines_10 s k x0 x1 r4 j10 uv0 uv1 uv2 uv3 uv4 uv5 uv6 uv7 uv8 uv9 uv10 uv11 uv12 uv13 uv14 uv15 uv16 uv17 uv18 uv19 uv20 uv21).map rc_r07_SameRoutines.enc := by
  intro j10
  induction j10 with
  | zero => intros; rfl
  | succ j10 ih =>
    intros
    simp only [Lr07_SameRoutines_10, map_ite, map_bindO, map_someO, map_noneO, ← ih, ← h4]
    kernel_rfl
theorem Lr07_SameRoutines_4_eq (s : Fam) (k : Nat) (x0 : List TRoutine) (x1 : List TRoutine) : ∀ (j4 : Nat) (v0 : List TRoutine) (v1 : List TRoutine) (v2 : Int), (loopGo EE (sp s) h_r07_SameRoutines co_r07_SameRoutines [] k Tryz.f34 4 [] j4 ({ tmps := ofL AV.any [(0, AV.c (CV.d (DV.sl 90 v0))), (1, AV.c (CV.d (DV.sl 90 v1))), (5, AV.c (CV.d (DV.lit (Go.Value.int Go.IntKind.i64 v2))))], boxes := ofL Option.none [], objs := ofL Option.none [], fxs := ofL Option.none [] : AS II })).run = (Lr07_SameRoutines_4 s k x0 x1 j4 v0 v1 v2).map rc_r07_SameRoutines.enc := by
  intro j4
  induction j4 with
  | zero => intros; rfl
  | succ j4 ih =>
    have q0 := Lr07_SameRoutines_10_eq s k x0 x1 j4 (Lr07_SameRoutines_4 s k x0 x1 j4) ih
    intros
    simp only [Lr07_SameRoutines_4, map_ite, map_bindO, map_someO, map_noneO, ← ih, ← q0]
    kernel_rfl
theorem e_r07_SameRoutines (s : Fam) (k : Nat) (x : a_r07_SameRoutines) : (evFunC EE (sp s) h_r07_SameRoutines co_r07_SameRoutines k Tryz.f34 (c_r07_SameRoutines.enc x)).run = (B_r07_SameRoutines s k x.1 x.2.1).map rc_r07_SameRoutines.enc := by
  simp only [B_r07_SameRoutines, map_ite, map_bindO, map_someO, map_noneO, ← Lr07_SameRoutines_4_eq]
  kernel_rfl
-- 54 nodes
end Go.Ev
end
section
open Go Go.Proofs
namespace Go.Ev
set_option linter.unusedVariables false
set_option linter.unusedSimpArgs false
set_option maxHeartbeats 4000000
set_option maxRecDepth 100000
def Lr07_SameStmts_4 (s : Fam) (k : Nat) (x0 : List TStmt) (x1 : List TStmt) : Nat → List TStmt → List TStmt → Int → Option (Bool)
  | 0, _, _, _ => none
  | j4 + 1, v0, v1, v2 => (if decide (v2 < (↑v0.length : Int)) = Bool.true then (if 0 ≤ v2 then (if v2 < (↑v0.length : Int) then (if 0 ≤ v2 then (if v2 < (↑v1.length : Int) then ((s.f_r07_sameMarks ((v0.getD v2.toNat dd_TStmt).sub_Marks, (v1.getD v2.toNat dd_TStmt).sub_Marks, ())).bind fun t9 => (if (!t9 || (v0.getD v2.toNat dd_TStmt).Op != (v1.getD v2.toNat dd_TStmt).Op || !(v0.getD v2.toNat dd_TStmt).Name.toList == (v1.getD v2.toNat dd_TStmt).Name.toList || !(v0.getD v2.toNat dd_TStmt).Down == (v1.getD v2.toNat dd_TStmt).Down || !(v0.getD v2.toNat dd_TStmt).More == (v1.getD v2.toNat dd_TStmt).More) = Bool.false then ((s.f_r07_SameExpr ((v0.getD v2.toNat dd_TStmt).sub_P, (v1.getD v2.toNat dd_TStmt).sub_P, ())).bind fun t11 => (if (Bool.false || !t11) = Bool.false then ((s.f_r07_SameExprs ((v0.getD v2.toNat dd_TStmt).E, (v1.getD v2.toNat dd_TStmt).E, ())).bind fun t13 => (if (Bool.false || !t13) = Bool.true then some (Bool.false) else ((s.f_r01_SameTexts ((v0.getD v2.toNat dd_TStmt).End, (v1.getD v2.toNat dd_TStmt).End, ())).bind fun t16 => (if (!t16) = Bool.false then ((s.f_r01_SameTexts ((v0.getD v2.toNat dd_TStmt).End2, (v1.getD v2.toNat dd_TStmt).End2, ())).bind fun t18 => (if (Bool.false || !t18) = Bool.false then ((s.f_r07_SameStmts ((v0.getD v2.toNat dd_TStmt).Body, (v1.getD v2.toNat dd_TStmt).Body, ())).bind fun t20 => (if (Bool.false || !t20) = Bool.false then ((s.f_r07_SameStmts ((v0.getD v2.toNat dd_TStmt).Else, (v1.getD v2.toNat dd_TStmt).Else, ())).bind fun t22 => (if (Bool.false || !t22) = Bool.true then some (Bool.false) else Lr07_SameStmts_4 s k x0 x1 j4 (v0) (v1) (Go.IntKind.i64.wrap (v2 + 1)))) else some (Bool.false))) else some (Bool.false))) else some (Bool.false))))) else some (Bool.false))) else some (Bool.false))) else none) else none) else none) else none) else some (Bool.true))
def B_r07_SameStmts (s : Fam) (k : Nat) (x0 : List TStmt) (x1 : List TStmt) : Option (Bool) := (if ((↑x0.length : Int) != (↑x1.length : Int)) = Bool.true then some (Bool.false) else Lr07_SameStmts_4 s k x0 x1 k (x0) (x1) (0))
theorem Lr07_SameStmts_4_eq (s : Fam) (k : Nat) (x0 : List TStmt) (x1 : List TStmt) : ∀ (j4 : Nat) (v0 : List TStmt) (v1 : List TStmt) (v2 : Int), (loopGo EE (sp s) h_r07_SameStmts co_r07_SameStmts [] k Tryz.f35 4 [] j4 ({ tmps := ofL AV.any [(0, AV.c (CV.d (DV.sl 97 v0))), (1, AV.c (CV.d (DV.sl 97 v1))), (5, AV.c (CV.d (DV.lit (Go.Value.int Go.IntKind.i64 v2))))], boxes := ofL Option.none [], objs := ofL Option.none [], fxs := ofL Option.none [] : AS II })).run = (Lr07_SameStmts_4 s k x0 x1 j4 v0 v1 v2).map rc_r07_SameStmts.enc := by
  intro j4
  induction j4 with
  | zero => intros; rfl
  | succ j4 ih =>
    intros
    simp only [Lr07_SameStmts_4, map_ite, map_bindO, map_someO, map_noneO, ← ih]
    kernel_rfl
theorem e_r07_SameStmts (s : Fam) (k : Nat) (x : a_r07_SameStmts) : (evFunC EE (sp s) h_r07_SameStmts co_r07_SameStmts k Tryz.f35 (c_r07_SameStmts.enc x)).run = (B_r07_SameStmts s k x.1 x.2.1).map rc_r07_SameStmts.enc := by
  simp only [B_r07_SameStmts, map_ite, map_bindO, map_someO, map_noneO, ← Lr07_SameStmts_4_eq]
  kernel_rfl
-- 62 nodes
def Lr07_ExprNames_3 (s : Fam) (k : Nat) (x0 : TExpr) : Nat → Int → Int → Int → ByteArray → ByteArray → List TExpr → List ByteArray → Option (List ByteArray)
  | 0, _, _, _, _, _, _, _ => none
  | j3 + 1, v0, v1, v2, v3, v4, v5, v6 => (if decide (v0 < (↑v5.length : Int)) = Bool.true then (if 0 ≤ v0 then (if v0 < (↑v5.length : Int) then ((s.f_r07_ExprNames ((v5.getD v0.toNat dd_TExpr).re, ())).bind fun t8 => (if (v6 ++ t8).length * 16 ≤ 140737488355328 then Lr07_ExprNames_3 s k x0 j3 (Go.IntKind.i64.wrap (v0 + 1)) (v1) (v2) (v3) (v4) (v5) (v6 ++ t8) else none)) else none) else none) else some (v6))
def B_r07_ExprNames (s : Fam) (k : Nat) (x0 : TExpr) : Option (List ByteArray) := ((s.f_r07_Parts (x0.Name, ())).bind fun t1 => ((s.f_r07_Parts (x0.Field, ())).bind fun t2 => (if (t1 ++ t2).length * 16 ≤ 140737488355328 then Lr07_ExprNames_3 s k x0 k (0) (x0.Op) (x0.N) (x0.Name) (x0.Field) (x0.L) (t1 ++ t2) else none)))
theorem Lr07_ExprNames_3_eq (s : Fam) (k : Nat) (x0 : TExpr) : ∀ (j3 : Nat) (v0 : Int) (v1 : Int) (v2 : Int) (v3 : ByteArray) (v4 : ByteArray) (v5 : List TExpr) (v6 : List ByteArray), (loopGo EE (sp s) h_r07_ExprNames co_r07_ExprNames [] k Tryz.f47 3 [] j3 ({ tmps := ofL AV.any [(1, AV.c (CV.ptr 1 0)), (3, AV.c (CV.own 3 0)), (4, AV.c (CV.d (DV.lit (Go.Value.int Go.IntKind.i64 v0))))], boxes := ofL Option.none [(1, Option.some [CV.d (DV.lit (Go.Value.int Go.IntKind.i64 v1)), CV.d (DV.lit (Go.Value.int Go.IntKind.i64 v2)), CV.d (DV.lit (Go.Value.string v3)), CV.d (DV.lit (Go.Value.string v4)), CV.d (DV.sl 95 v5)])], objs := ofL Option.none [(3, Option.some { ver := 0, t := 9, xs := v6 : Obj II }), (1099511631876, Option.none)], fxs := ofL Option.none [(1, Option.none)] : AS II })).run = (Lr07_ExprNames_3 s k x0 j3 v0 v1 v2 v3 v4 v5 v6).map rc_r07_ExprNames.enc := by
  intro j3
  induction j3 with
  | zero => intros; rfl
  | succ j3 ih =>
    intros
    simp only [Lr07_ExprNames_3, map_ite, map_bindO, map_someO, map_noneO, ← ih]
    kernel_rfl
theorem e_r07_ExprNames (s : Fam) (k : Nat) (x : a_r07_ExprNames) : (evFunC EE (sp s) h_r07_ExprNames co_r07_ExprNames k Tryz.f47 (c_r07_ExprNames.enc x)).run = (B_r07_ExprNames s k x.1).map rc_r07_ExprNames.enc := by
  simp only [B_r07_ExprNames, map_ite, map_bindO, map_someO, map_noneO, ← Lr07_ExprNames_3_eq]
  kernel_rfl
-- 15 nodes
def Lr07_turnExpr_3 (s : Fam) (k : Nat) (x0 : TExpr) (x1 : List TPair) : Nat → List TPair → Int → Int → Int → ByteArray → ByteArray → List TExpr → Int → Int → ByteArray → ByteArray → Int → Int → b_r07_Turned → b_r07_Turned → List TExpr → List TExpr → Option (TExpr)
  | 0, _, _, _, _, _, _, _, _, _, _, _, _, _, _, _, _, _ => none
  | j3 + 1, v0, v1, v2, v3, v4, v5, v6, v7, v8, v9, v10, v11, v12, v13, v14, v15, v16 => (if decide (v1 < (↑v6.length : Int)) = Bool.true then (if 0 ≤ v1 then (if v1 < (↑v6.length : Int) then ((s.f_r07_turnExpr ((v6.getD v1.toNat dd_TExpr).re, v0, ())).bind fun t7 => (if (v16 ++ [TExpr.re t7]).length * 72 ≤ 140737488355328 then Lr07_turnExpr_3 s k x0 x1 j3 (v0) (Go.IntKind.i64.wrap (v1 + 1)) (v2) (v3) (v4) (v5) (v6) (v7) (v8) (v9) (v10) (v11) (v12) (v13) (v14) (v15) (v16 ++ [TExpr.re t7]) else none)) else none) else none) else some ({ Op := v11, N := v12, Name := v13, Field := v14, L := v16 : TExpr }))
def B_r07_turnExpr (s : Fam) (k : Nat) (x0 : TExpr) (x1 : List TPair) : Option (TExpr) := ((s.f_r07_Turned (x0.Name, x1, ())).bind fun t1 => ((s.f_r07_Turned (x0.Field, x1, ())).bind fun t2 => Lr07_turnExpr_3 s k x0 x1 k (x1) (0) (x0.Op) (x0.N) (x0.Name) (x0.Field) (x0.L) (0) (0) ({ data := #[] : ByteArray }) ({ data := #[] : ByteArray }) (x0.Op) (x0.N) (t1) (t2) ([]) ([])))
theorem Lr07_turnExpr_3_eq (s : Fam) (k : Nat) (x0 : TExpr) (x1 : List TPair) : ∀ (j3 : Nat) (v0 : List TPair) (v1 : Int) (v2 : Int) (v3 : Int) (v4 : ByteArray) (v5 : ByteArray) (v6 : List TExpr) (v7 : Int) (v8 : Int) (v9 : ByteArray) (v10 : ByteArray) (v11 : Int) (v12 : Int) (v13 : b_r07_Turned) (v14 : b_r07_Turned) (v15 : List TExpr) (v16 : List TExpr), (loopGo EE (sp s) h_r07_turnExpr co_r07_turnExpr [] k Tryz.f48 3 [] j3 ({ tmps := ofL AV.any [(1, AV.c (CV.d (DV.sl 58 v0))), (2, AV.c (CV.ptr 2 0)), (4, AV.c (CV.ptr 4 0)), (5, AV.c (CV.ptr 5 0)), (6, AV.c (CV.d (DV.lit (Go.Value.int Go.IntKind.i64 v1))))], boxes := ofL Option.none [(2, Option.some [CV.d (DV.lit (Go.Value.int Go.IntKind.i64 v2)), CV.d (DV.lit (Go.Value.int Go.IntKind.i64 v3)), CV.d (DV.lit (Go.Value.string v4)), CV.d (DV.lit (Go.Value.string v5)), CV.d (DV.sl 95 v6)]), (4, Option.some [CV.d (DV.lit (Go.Value.int Go.IntKind.i64 v7)), CV.d (DV.lit (Go.Value.int Go.IntKind.i64 v8)), CV.d (DV.lit (Go.Value.string v9)), CV.d (DV.lit (Go.Value.string v10)), CV.own 1099511644164 0]), (5, Option.some [CV.d (DV.lit (Go.Value.int Go.IntKind.i64 v11)), CV.d (DV.lit (Go.Value.int Go.IntKind.i64 v12)), CV.d (DV.lit (Go.Value.string v13)), CV.d (DV.lit (Go.Value.string v14)), CV.own 1099511648260 0])], objs := ofL Option.none [(1099511635972, Option.none), (1099511644164, Option.some { ver := 0, t := 95, xs := v15 : Obj II }), (1099511648260, Option.some { ver := 0, t := 95, xs := v16 : Obj II })], fxs := ofL Option.none [(2, Option.none), (4, Option.none), (5, Option.none)] : AS II })).run = (Lr07_turnExpr_3 s k x0 x1 j3 v0 v1 v2 v3 v4 v5 v6 v7 v8 v9 v10 v11 v12 v13 v14 v15 v16).map rc_r07_turnExpr.enc := by
  intro j3
  induction j3 with
  | zero => intros; rfl
  | succ j3 ih =>
    intros
    simp only [Lr07_turnExpr_3, map_ite, map_bindO, map_someO, map_noneO, ← ih]
    kernel_rfl
theorem e_r07_turnExpr (s : Fam) (k : Nat) (x : a_r07_turnExpr) : (evFunC EE (sp s) h_r07_turnExpr co_r07_turnExpr k Tryz.f48 (c_r07_turnExpr.enc x)).run = (B_r07_turnExpr s k x.1 x.2.1).map rc_r07_turnExpr.enc := by
  simp only [B_r07_turnExpr, map_ite, map_bindO, map_someO, map_noneO, ← Lr07_turnExpr_3_eq]
  kernel_rfl
-- 13 nodes
def B_tree_mapper_program (s : Fam) (k : Nat) (x0 : Thing × Unit) (x1 : TProgram) : Option (TProgram × Thing × Unit) := ((s.f_tree_mapper_parts ((x0.fst, ()), x1.Name, ())).bind fun t1 => ((s.f_slices_Clone_string (x1.Before, ())).bind fun t2 => ((s.f_slices_Clone_string (x1.Mid, ())).bind fun t3 => ((s.f_slices_Clone_string (x1.After, ())).bind fun t4 => ((s.f_slices_Clone_string (x1.End, ())).bind fun t5 => ((s.f_tree_each_Rec (x1.Recs, (t1.snd.fst, ()), ())).bind fun t6 => ((s.f_tree_each_Var (x1.Vars, (t6.snd.fst, ()), ())).bind fun t7 => ((s.f_tree_each_Routine (x1.Routines, (t7.snd.fst, ()), ())).bind fun t8 => ((s.f_tree_each_Stmt (x1.Body, (t8.snd.fst, ()), ())).bind fun t9 => some (({ Name := t1.fst, Before := t2, Mid := t3, After := t4, Recs := t6.fst, Vars := t7.fst, Routines := t8.fst, Body := t9.fst, End := t5 : TProgram }, t9.snd.fst, ())))))))))))
theorem e_tree_mapper_program (s : Fam) (k : Nat) (x : a_tree_mapper_program) : (evFunC EE (sp s) h_tree_mapper_program co_tree_mapper_program k Tryz.f50 (c_tree_mapper_program.enc x)).run = (B_tree_mapper_program s k x.1 x.2.1).map rc_tree_mapper_program.enc := by
  simp only [B_tree_mapper_program, map_ite, map_bindO, map_someO, map_noneO]
  kernel_rfl
-- 10 nodes
def B_slices_Contains_string (s : Fam) (k : Nat) (x0 : List ByteArray) (x1 : ByteArray) : Option (Bool) := ((s.f_slices_Index_string (x0, x1, ())).bind fun t1 => some (decide (t1 ≥ 0)))
theorem e_slices_Contains_string (s : Fam) (k : Nat) (x : a_slices_Contains_string) : (evFunC EE (sp s) h_slices_Contains_string co_slices_Contains_string k Tryz.f53 (c_slices_Contains_string.enc x)).run = (B_slices_Contains_string s k x.1 x.2.1).map rc_slices_Contains_string.enc := by
  simp only [B_slices_Contains_string, map_ite, map_bindO, map_someO, map_noneO]
  kernel_rfl
-- 2 nodes
def Ltree_Rename_1_2 (s : Fam) (k : Nat) (x0 : ByteArray) (x1 : List TPair) : Nat → ByteArray → List TPair → Int → Int → Option (ByteArray)
  | 0, _, _, _, _ => none
  | j2 + 1, v0, v1, v2, v3 => (if decide (v3 < v2) = Bool.true then (if 0 ≤ v3 then (if v3 < (↑v1.length : Int) then (if ((v1.getD v3.toNat dd_TPair).Old.toList == v0.toList) = Bool.true then some ((v1.getD v3.toNat dd_TPair).New) else Ltree_Rename_1_2 s k x0 x1 j2 (v0) (v1) (v2) (Go.IntKind.i64.wrap (v3 + 1))) else none) else none) else some (v0))
def B_tree_Rename_1 (s : Fam) (k : Nat) (x0 : ByteArray) (x1 : List TPair) : Option (ByteArray) := Ltree_Rename_1_2 s k x0 x1 k (x0) (x1) ((↑x1.length : Int)) (0)
theorem Ltree_Rename_1_2_eq (s : Fam) (k : Nat) (x0 : ByteArray) (x1 : List TPair) : ∀ (j2 : Nat) (v0 : ByteArray) (v1 : List TPair) (v2 : Int) (v3 : Int), (loopGo EE (sp s) h_tree_Rename_1 co_tree_Rename_1 [] k Tryz.f55 2 [] j2 ({ tmps := ofL AV.any [(0, AV.c (CV.d (DV.lit (Go.Value.string v0)))), (6, AV.c (CV.d (DV.sl 58 v1))), (7, AV.c (CV.d (DV.lit (Go.Value.int Go.IntKind.i64 v2)))), (8, AV.c (CV.d (DV.lit (Go.Value.int Go.IntKind.i64 v3))))], boxes := ofL Option.none [], objs := ofL Option.none [(6, Option.none)], fxs := ofL Option.none [] : AS II })).run = (Ltree_Rename_1_2 s k x0 x1 j2 v0 v1 v2 v3).map rc_tree_Rename_1.enc := by
  intro j2
  induction j2 with
  | zero => intros; rfl
  | succ j2 ih =>
    intros
    simp only [Ltree_Rename_1_2, map_ite, map_bindO, map_someO, map_noneO, ← ih]
    kernel_rfl
theorem e_tree_Rename_1 (s : Fam) (k : Nat) (x : a_tree_Rename_1) : (evFunC EE (sp s) h_tree_Rename_1 co_tree_Rename_1 k Tryz.f55 (c_tree_Rename_1.enc x)).run = (B_tree_Rename_1 s k x.1 x.2.1).map rc_tree_Rename_1.enc := by
  simp only [B_tree_Rename_1, map_ite, map_bindO, map_someO, map_noneO, ← Ltree_Rename_1_2_eq]
  kernel_rfl
-- 10 nodes
def B_r04_All (s : Fam) (k : Nat) (x0 : Int) : Option (List ByteArray) := (if (x0 == 0) = Bool.true then some ([{ data := #[97, 110, 100] : ByteArray }, { data := #[97, 114, 114, 97, 121] : ByteArray }, { data := #[98, 101, 103, 105, 110] : ByteArray }, { data := #[98, 111, 111, 108, 101, 97, 110] : ByteArray }, { data := #[99, 104, 97, 114] : ByteArray }, { data := #[100, 105, 118] : ByteArray }, { data := #[100, 111] : ByteArray }, { data := #[100, 111, 119, 110, 116, 111] : ByteArray }, { data := #[101, 108, 115, 101] : ByteArray }, { data := #[101, 110, 100] : ByteArray }, { data := #[102, 97, 108, 115, 101] : ByteArray }, { data := #[102, 111, 114] : ByteArray }, { data := #[102, 111, 114, 119, 97, 114, 100] : ByteArray }, { data := #[102, 117, 110, 99, 116, 105, 111, 110] : ByteArray }, { data := #[105, 102] : ByteArray }, { data := #[105, 110, 116, 101, 103, 101, 114] : ByteArray }, { data := #[109, 111, 100] : ByteArray }, { data := #[110, 111, 116] : ByteArray }, { data := #[111, 102] : ByteArray }, { data := #[111, 114] : ByteArray }, { data := #[112, 114, 111, 99, 101, 100, 117, 114, 101] : ByteArray }, { data := #[112, 114, 111, 103, 114, 97, 109] : ByteArray }, { data := #[114, 101, 97, 100] : ByteArray }, { data := #[114, 101, 99, 111, 114, 100] : ByteArray }, { data := #[114, 101, 112, 101, 97, 116] : ByteArray }, { data := #[114, 101, 116, 117, 114, 110] : ByteArray }, { data := #[116, 104, 101, 110] : ByteArray }, { data := #[116, 111] : ByteArray }, { data := #[116, 114, 117, 101] : ByteArray }, { data := #[116, 121, 112, 101] : ByteArray }, { data := #[117, 110, 116, 105, 108] : ByteArray }, { data := #[118, 97, 114] : ByteArray }, { data := #[119, 104, 105, 108, 101] : ByteArray }, { data := #[119, 114, 105, 116, 101] : ByteArray }]) else (if (x0 == 1) = Bool.true then some ([{ data := #[98, 111, 111, 108] : ByteArray }, { data := #[99, 104, 97, 114] : ByteArray }, { data := #[100, 111] : ByteArray }, { data := #[100, 111, 119, 110, 116, 111] : ByteArray }, { data := #[101, 108, 115, 101] : ByteArray }, { data := #[102, 97, 108, 115, 101] : ByteArray }, { data := #[102, 111, 114] : ByteArray }, { data := #[103, 101, 116] : ByteArray }, { data := #[105, 102] : ByteArray }, { data := #[105, 110, 116] : ByteArray }, { data := #[109, 97, 105, 110] : ByteArray }, { data := #[112, 114, 111, 103, 114, 97, 109] : ByteArray }, { data := #[112, 117, 116] : ByteArray }, { data := #[114, 101, 116, 117, 114, 110] : ByteArray }, { data := #[115, 116, 114, 117, 99, 116] : ByteArray }, { data := #[116, 111] : ByteArray }, { data := #[116, 114, 117, 101] : ByteArray }, { data := #[117, 110, 116, 105, 108] : ByteArray }, { data := #[117, 112] : ByteArray }, { data := #[118, 111, 105, 100] : ByteArray }, { data := #[119, 104, 105, 108, 101] : ByteArray }]) else some ([])))
theorem e_r04_All (s : Fam) (k : Nat) (x : a_r04_All) : (evFunC EE (sp s) h_r04_All co_r04_All k Tryz.f56 (c_r04_All.enc x)).run = (B_r04_All s k x.1).map rc_r04_All.enc := by
  simp only [B_r04_All, map_ite, map_bindO, map_someO, map_noneO]
  kernel_rfl
-- 5 nodes
def B_r01_Digits (s : Fam) (k : Nat) (x0 : Int) : Option (ByteArray) := (if decide (x0 < 0) = Bool.true then ((s.f_r01_long (Go.IntKind.u64.wrap (0 - Go.IntKind.u64.wrap x0), ())).bind fun t2 => (if (↑({ data := #[45] : ByteArray }.size + ByteArray.size t2) : Int) > Go.IntKind.i64.max then none else some ({ data := #[45] : ByteArray } ++ t2))) else ((s.f_r01_long (Go.IntKind.u64.wrap x0, ())).bind fun t6 => some (t6)))
theorem e_r01_Digits (s : Fam) (k : Nat) (x : a_r01_Digits) : (evFunC EE (sp s) h_r01_Digits co_r01_Digits k Tryz.f57 (c_r01_Digits.enc x)).run = (B_r01_Digits s k x.1).map rc_r01_Digits.enc := by
  simp only [B_r01_Digits, map_ite, map_bindO, map_someO, map_noneO]
  kernel_rfl
-- 7 nodes
def B_r07_SameExpr (s : Fam) (k : Nat) (x0 : TExpr) (x1 : TExpr) : Option (Bool) := (if (x0.Op == x1.Op && x0.N == x1.N && x0.Name.toList == x1.Name.toList && x0.Field.toList == x1.Field.toList) = Bool.true then ((s.f_r07_SameExprs (x0.L, x1.L, ())).bind fun t2 => some (Bool.true && t2)) else some (Bool.false))
theorem e_r07_SameExpr (s : Fam) (k : Nat) (x : a_r07_SameExpr) : (evFunC EE (sp s) h_r07_SameExpr co_r07_SameExpr k Tryz.f58 (c_r07_SameExpr.enc x)).run = (B_r07_SameExpr s k x.1 x.2.1).map rc_r07_SameExpr.enc := by
  simp only [B_r07_SameExpr, map_ite, map_bindO, map_someO, map_noneO]
  kernel_rfl
-- 5 nodes
def Lr07_SameExprs_4 (s : Fam) (k : Nat) (x0 : List TExpr) (x1 : List TExpr) : Nat → List TExpr → List TExpr → Int → Option (Bool)
  | 0, _, _, _ => none
  | j4 + 1, v0, v1, v2 => (if decide (v2 < (↑v0.length : Int)) = Bool.true then (if 0 ≤ v2 then (if v2 < (↑v0.length : Int) then (if 0 ≤ v2 then (if v2 < (↑v1.length : Int) then ((s.f_r07_SameExpr ((v0.getD v2.toNat dd_TExpr).re, (v1.getD v2.toNat dd_TExpr).re, ())).bind fun t9 => (if (!t9) = Bool.true then some (Bool.false) else Lr07_SameExprs_4 s k x0 x1 j4 (v0) (v1) (Go.IntKind.i64.wrap (v2 + 1)))) else none) else none) else none) else none) else some (Bool.true))
def B_r07_SameExprs (s : Fam) (k : Nat) (x0 : List TExpr) (x1 : List TExpr) : Option (Bool) := (if ((↑x0.length : Int) != (↑x1.length : Int)) = Bool.true then some (Bool.false) else Lr07_SameExprs_4 s k x0 x1 k (x0) (x1) (0))
theorem Lr07_SameExprs_4_eq (s : Fam) (k : Nat) (x0 : List TExpr) (x1 : List TExpr) : ∀ (j4 : Nat) (v0 : List TExpr) (v1 : List TExpr) (v2 : Int), (loopGo EE (sp s) h_r07_SameExprs co_r07_SameExprs [] k Tryz.f59 4 [] j4 ({ tmps := ofL AV.any [(0, AV.c (CV.d (DV.sl 95 v0))), (1, AV.c (CV.d (DV.sl 95 v1))), (5, AV.c (CV.d (DV.lit (Go.Value.int Go.IntKind.i64 v2))))], boxes := ofL Option.none [], objs := ofL Option.none [], fxs := ofL Option.none [] : AS II })).run = (Lr07_SameExprs_4 s k x0 x1 j4 v0 v1 v2).map rc_r07_SameExprs.enc := by
  intro j4
  induction j4 with
  | zero => intros; rfl
  | succ j4 ih =>
    intros
    simp only [Lr07_SameExprs_4, map_ite, map_bindO, map_someO, map_noneO, ← ih]
    kernel_rfl
theorem e_r07_SameExprs (s : Fam) (k : Nat) (x : a_r07_SameExprs) : (evFunC EE (sp s) h_r07_SameExprs co_r07_SameExprs k Tryz.f59 (c_r07_SameExprs.enc x)).run = (B_r07_SameExprs s k x.1 x.2.1).map rc_r07_SameExprs.enc := by
  simp only [B_r07_SameExprs, map_ite, map_bindO, map_someO, map_noneO, ← Lr07_SameExprs_4_eq]
  kernel_rfl
-- 17 nodes
def Ltree_each_Rec_3 (s : Fam) (k : Nat) (x0 : List TRec) (x1 : Thing × Unit) : Nat → List TRec → Int → Int → List TRec → Thing → Option (List TRec × Thing × Unit)
  | 0, _, _, _, _, _ => none
  | j3 + 1, v0, v1, v2, v3, v4 => (if decide (v2 < v1) = Bool.true then (if 0 ≤ v2 then (if v2 < (↑v0.length : Int) then ((s.f_tree_mapper_rec ((v4, ()), v0.getD v2.toNat dd_TRec, ())).bind fun t5 => (if (v3 ++ [t5.fst]).length * 112 ≤ 140737488355328 then Ltree_each_Rec_3 s k x0 x1 j3 (v0) (v1) (Go.IntKind.i64.wrap (v2 + 1)) (v3 ++ [t5.fst]) (t5.snd.fst) else none)) else none) else none) else some ((v3, v4, ())))
def B_tree_each_Rec (s : Fam) (k : Nat) (x0 : List TRec) (x1 : Thing × Unit) : Option (List TRec × Thing × Unit) := Ltree_each_Rec_3 s k x0 x1 k (x0) ((↑x0.length : Int)) (0) ([]) (x1.fst)
theorem Ltree_each_Rec_3_eq (s : Fam) (k : Nat) (x0 : List TRec) (x1 : Thing × Unit) : ∀ (j3 : Nat) (v0 : List TRec) (v1 : Int) (v2 : Int) (v3 : List TRec) (v4 : Thing), (loopGo EE (sp s) h_tree_each_Rec co_tree_each_Rec (rootAs (unAs 1000004 (c_tree_each_Rec.enc (x0, x1, ()))).1) k Tryz.f76 3 [] j3 ({ tmps := ofL AV.any [(1, AV.c (CV.mth 77 [CV.fx 1000004])), (5, AV.c (CV.own 5 0)), (8, AV.c (CV.d (DV.sl 46 v0))), (9, AV.c (CV.d (DV.lit (Go.Value.int Go.IntKind.i64 v1)))), (10, AV.c (CV.d (DV.lit (Go.Value.int Go.IntKind.i64 v2))))], boxes := ofL Option.none [(1000004, Option.none)], objs := ofL Option.none [(5, Option.some { ver := 0, t := 46, xs := v3 : Obj II }), (8, Option.none)], fxs := ofL Option.none [(1000004, Option.some v4)] : AS II })).run = (Ltree_each_Rec_3 s k x0 x1 j3 v0 v1 v2 v3 v4).map rc_tree_each_Rec.enc := by
  intro j3
  induction j3 with
  | zero => intros; rfl
  | succ j3 ih =>
    intros
    simp only [Ltree_each_Rec_3, map_ite, map_bindO, map_someO, map_noneO, ← ih]
    kernel_rfl
theorem e_tree_each_Rec (s : Fam) (k : Nat) (x : a_tree_each_Rec) : (evFunC EE (sp s) h_tree_each_Rec co_tree_each_Rec k Tryz.f76 (c_tree_each_Rec.enc x)).run = (B_tree_each_Rec s k x.1 x.2.1).map rc_tree_each_Rec.enc := by
  simp only [B_tree_each_Rec, map_ite, map_bindO, map_someO, map_noneO, ← Ltree_each_Rec_3_eq]
  kernel_rfl
-- 11 nodes
def B_tree_mapper_rec (s : Fam) (k : Nat) (x0 : Thing × Unit) (x1 : TRec) : Option (TRec × Thing × Unit) := ((s.f_tree_mapper_marks ((x0.fst, ()), x1.sub_Marks, ())).bind fun t1 => ((s.f_tree_mapper_parts ((t1.snd.fst, ()), x1.Name, ())).bind fun t2 => ((s.f_tree_each_Field (x1.Fields, ((), (t2.snd.fst, ()), ()), ())).bind fun t3 => ((s.f_slices_Clone_string (x1.End, ())).bind fun t4 => some (({ Marks_Before := t1.fst.Before, Marks_Trail := t1.fst.Trail, Name := t2.fst, Fields := t3.fst, End := t4 : TRec }, t3.snd.fst, ()))))))
theorem e_tree_mapper_rec (s : Fam) (k : Nat) (x : a_tree_mapper_rec) : (evFunC EE (sp s) h_tree_mapper_rec co_tree_mapper_rec k Tryz.f77 (c_tree_mapper_rec.enc x)).run = (B_tree_mapper_rec s k x.1 x.2.1).map rc_tree_mapper_rec.enc := by
  simp only [B_tree_mapper_rec, map_ite, map_bindO, map_someO, map_noneO]
  kernel_rfl
-- 5 nodes
def Ltree_each_Var_3 (s : Fam) (k : Nat) (x0 : List TVar) (x1 : Thing × Unit) : Nat → List TVar → Int → Int → List TVar → Thing → Option (List TVar × Thing × Unit)
  | 0, _, _, _, _, _ => none
  | j3 + 1, v0, v1, v2, v3, v4 => (if decide (v2 < v1) = Bool.true then (if 0 ≤ v2 then (if v2 < (↑v0.length : Int) then ((s.f_tree_mapper_variable ((v4, ()), v0.getD v2.toNat dd_TVar, ())).bind fun t5 => (if (v3 ++ [t5.fst]).length * 96 ≤ 140737488355328 then Ltree_each_Var_3 s k x0 x1 j3 (v0) (v1) (Go.IntKind.i64.wrap (v2 + 1)) (v3 ++ [t5.fst]) (t5.snd.fst) else none)) else none) else none) else some ((v3, v4, ())))
def B_tree_each_Var (s : Fam) (k : Nat) (x0 : List TVar) (x1 : Thing × Unit) : Option (List TVar × Thing × Unit) := Ltree_each_Var_3 s k x0 x1 k (x0) ((↑x0.length : Int)) (0) ([]) (x1.fst)
theorem Ltree_each_Var_3_eq (s : Fam) (k : Nat) (x0 : List TVar) (x1 : Thing × Unit) : ∀ (j3 : Nat) (v0 : List TVar) (v1 : Int) (v2 : Int) (v3 : List TVar) (v4 : Thing), (loopGo EE (sp s) h_tree_each_Var co_tree_each_Var (rootAs (unAs 1000004 (c_tree_each_Var.enc (x0, x1, ()))).1) k Tryz.f78 3 [] j3 ({ tmps := ofL AV.any [(1, AV.c (CV.mth 79 [CV.fx 1000004])), (5, AV.c (CV.own 5 0)), (8, AV.c (CV.d (DV.sl 56 v0))), (9, AV.c (CV.d (DV.lit (Go.Value.int Go.IntKind.i64 v1)))), (10, AV.c (CV.d (DV.lit (Go.Value.int Go.IntKind.i64 v2))))], boxes := ofL Option.none [(1000004, Option.none)], objs := ofL Option.none [(5, Option.some { ver := 0, t := 56, xs := v3 : Obj II }), (8, Option.none)], fxs := ofL Option.none [(1000004, Option.some v4)] : AS II })).run = (Ltree_each_Var_3 s k x0 x1 j3 v0 v1 v2 v3 v4).map rc_tree_each_Var.enc := by
  intro j3
  induction j3 with
  | zero => intros; rfl
  | succ j3 ih =>
    intros
    simp only [Ltree_each_Var_3, map_ite, map_bindO, map_someO, map_noneO, ← ih]
    kernel_rfl
theorem e_tree_each_Var (s : Fam) (k : Nat) (x : a_tree_each_Var) : (evFunC EE (sp s) h_tree_each_Var co_tree_each_Var k Tryz.f78 (c_tree_each_Var.enc x)).run = (B_tree_each_Var s k x.1 x.2.1).map rc_tree_each_Var.enc := by
  simp only [B_tree_each_Var, map_ite, map_bindO, map_someO, map_noneO, ← Ltree_each_Var_3_eq]
  kernel_rfl
-- 11 nodes
def B_tree_mapper_variable (s : Fam) (k : Nat) (x0 : Thing × Unit) (x1 : TVar) : Option (TVar × Thing × Unit) := ((s.f_tree_mapper_marks ((x0.fst, ()), x1.sub_Marks, ())).bind fun t1 => ((s.f_tree_mapper_parts ((t1.snd.fst, ()), x1.Name, ())).bind fun t2 => ((s.f_tree_mapper_typ ((t2.snd.fst, ()), x1.sub_T, ())).bind fun t3 => some (({ Marks_Before := t1.fst.Before, Marks_Trail := t1.fst.Trail, Name := t2.fst, T_Kind := t3.fst.Kind, T_Size := t3.fst.Size, T_Name := t3.fst.Name : TVar }, t3.snd.fst, ())))))
theorem e_tree_mapper_variable (s : Fam) (k : Nat) (x : a_tree_mapper_variable) : (evFunC EE (sp s) h_tree_mapper_variable co_tree_mapper_variable k Tryz.f79 (c_tree_mapper_variable.enc x)).run = (B_tree_mapper_variable s k x.1 x.2.1).map rc_tree_mapper_variable.enc := by
  simp only [B_tree_mapper_variable, map_ite, map_bindO, map_someO, map_noneO]
  kernel_rfl
-- 4 nodes
def Ltree_each_Routine_3 (s : Fam) (k : Nat) (x0 : List TRoutine) (x1 : Thing × Unit) : Nat → List TRoutine → Int → Int → List TRoutine → Thing → Option (List TRoutine × Thing × Unit)
  | 0, _, _, _, _, _ => none
  | j3 + 1, v0, v1, v2, v3, v4 => (if decide (v2 < v1) = Bool.true then (if 0 ≤ v2 then (if v2 < (↑v0.length : Int) then ((s.f_tree_mapper_routine ((v4, ()), (v0.getD v2.toNat dd_TRoutine).re, ())).bind fun t5 => (if (v3 ++ [t5.fst.re]).length * 192 ≤ 140737488355328 then Ltree_each_Routine_3 s k x0 x1 j3 (v0) (v1) (Go.IntKind.i64.wrap (v2 + 1)) (v3 ++ [t5.fst.re]) (t5.snd.fst) else none)) else none) else none) else some ((v3, v4, ())))
def B_tree_each_Routine (s : Fam) (k : Nat) (x0 : List TRoutine) (x1 : Thing × Unit) : Option (List TRoutine × Thing × Unit) := Ltree_each_Routine_3 s k x0 x1 k (x0) ((↑x0.length : Int)) (0) ([]) (x1.fst)
theorem Ltree_each_Routine_3_eq (s : Fam) (k : Nat) (x0 : List TRoutine) (x1 : Thing × Unit) : ∀ (j3 : Nat) (v0 : List TRoutine) (v1 : Int) (v2 : Int) (v3 : List TRoutine) (v4 : Thing), (loopGo EE (sp s) h_tree_each_Routine co_tree_each_Routine (rootAs (unAs 1000004 (c_tree_each_Routine.enc (x0, x1, ()))).1) k Tryz.f80 3 [] j3 ({ tmps := ofL AV.any [(1, AV.c (CV.mth 81 [CV.fx 1000004])), (5, AV.c (CV.own 5 0)), (8, AV.c (CV.d (DV.sl 90 v0))), (9, AV.c (CV.d (DV.lit (Go.Value.int Go.IntKind.i64 v1)))), (10, AV.c (CV.d (DV.lit (Go.Value.int Go.IntKind.i64 v2))))], boxes := ofL Option.none [(1000004, Option.none)], objs := ofL Option.none [(5, Option.some { ver := 0, t := 90, xs := v3 : Obj II }), (8, Option.none)], fxs := ofL Option.none [(1000004, Option.some v4)] : AS II })).run = (Ltree_each_Routine_3 s k x0 x1 j3 v0 v1 v2 v3 v4).map rc_tree_each_Routine.enc := by
  intro j3
  induction j3 with
  | zero => intros; rfl
  | succ j3 ih =>
    intros
    simp only [Ltree_each_Routine_3, map_ite, map_bindO, map_someO, map_noneO, ← ih]
    kernel_rfl
theorem e_tree_each_Routine (s : Fam) (k : Nat) (x : a_tree_each_Routine) : (evFunC EE (sp s) h_tree_each_Routine co_tree_each_Routine k Tryz.f80 (c_tree_each_Routine.enc x)).run = (B_tree_each_Routine s k x.1 x.2.1).map rc_tree_each_Routine.enc := by
  simp only [B_tree_each_Routine, map_ite, map_bindO, map_someO, map_noneO, ← Ltree_each_Routine_3_eq]
  kernel_rfl
-- 11 nodes
def B_tree_mapper_routine (s : Fam) (k : Nat) (x0 : Thing × Unit) (x1 : TRoutine) : Option (TRoutine × Thing × Unit) := ((s.f_tree_mapper_marks ((x0.fst, ()), x1.sub_Marks, ())).bind fun t1 => ((s.f_tree_mapper_parts ((t1.snd.fst, ()), x1.Name, ())).bind fun t2 => ((s.f_tree_each_Param (x1.Params, ((), (t2.snd.fst, ()), ()), ())).bind fun t3 => ((s.f_tree_each_Var (x1.Vars, (t3.snd.fst, ()), ())).bind fun t4 => ((s.f_tree_each_Routine (x1.Inner, (t4.snd.fst, ()), ())).bind fun t5 => ((s.f_tree_each_Stmt (x1.Body, (t5.snd.fst, ()), ())).bind fun t6 => ((s.f_slices_Clone_string (x1.End, ())).bind fun t7 => some (({ Marks_Before := t1.fst.Before, Marks_Trail := t1.fst.Trail, Name := t2.fst, Result := x1.Result, Params := t3.fst, Vars := t4.fst, Inner := t5.fst, Body := t6.fst, End := t7 : TRoutine }, t6.snd.fst, ())))))))))
theorem e_tree_mapper_routine (s : Fam) (k : Nat) (x : a_tree_mapper_routine) : (evFunC EE (sp s) h_tree_mapper_routine co_tree_mapper_routine k Tryz.f81 (c_tree_mapper_routine.enc x)).run = (B_tree_mapper_routine s k x.1 x.2.1).map rc_tree_mapper_routine.enc := by
  simp only [B_tree_mapper_routine, map_ite, map_bindO, map_someO, map_noneO]
  kernel_rfl
-- 8 nodes
def Ltree_each_Stmt_3 (s : Fam) (k : Nat) (x0 : List TStmt) (x1 : Thing × Unit) : Nat → List TStmt → Int → Int → List TStmt → Thing → Option (List TStmt × Thing × Unit)
  | 0, _, _, _, _, _ => none
  | j3 + 1, v0, v1, v2, v3, v4 => (if decide (v2 < v1) = Bool.true then (if 0 ≤ v2 then (if v2 < (↑v0.length : Int) then ((s.f_tree_mapper_stmt ((v4, ()), (v0.getD v2.toNat dd_TStmt).re, ())).bind fun t5 => (if (v3 ++ [t5.fst.re]).length * 272 ≤ 140737488355328 then Ltree_each_Stmt_3 s k x0 x1 j3 (v0) (v1) (Go.IntKind.i64.wrap (v2 + 1)) (v3 ++ [t5.fst.re]) (t5.snd.fst) else none)) else none) else none) else some ((v3, v4, ())))
def B_tree_each_Stmt (s : Fam) (k : Nat) (x0 : List TStmt) (x1 : Thing × Unit) : Option (List TStmt × Thing × Unit) := Ltree_each_Stmt_3 s k x0 x1 k (x0) ((↑x0.length : Int)) (0) ([]) (x1.fst)
theorem Ltree_each_Stmt_3_eq (s : Fam) (k : Nat) (x0 : List TStmt) (x1 : Thing × Unit) : ∀ (j3 : Nat) (v0 : List TStmt) (v1 : Int) (v2 : Int) (v3 : List TStmt) (v4 : Thing), (loopGo EE (sp s) h_tree_each_Stmt co_tree_each_Stmt (rootAs (unAs 1000004 (c_tree_each_Stmt.enc (x0, x1, ()))).1) k Tryz.f82 3 [] j3 ({ tmps := ofL AV.any [(1, AV.c (CV.mth 83 [CV.fx 1000004])), (5, AV.c (CV.own 5 0)), (8, AV.c (CV.d (DV.sl 97 v0))), (9, AV.c (CV.d (DV.lit (Go.Value.int Go.IntKind.i64 v1)))), (10, AV.c (CV.d (DV.lit (Go.Value.int Go.IntKind.i64 v2))))], boxes := ofL Option.none [(1000004, Option.none)], objs := ofL Option.none [(5, Option.some { ver := 0, t := 97, xs := v3 : Obj II }), (8, Option.none)], fxs := ofL Option.none [(1000004, Option.some v4)] : AS II })).run = (Ltree_each_Stmt_3 s k x0 x1 j3 v0 v1 v2 v3 v4).map rc_tree_each_Stmt.enc := by
  intro j3
  induction j3 with
  | zero => intros; rfl
  | succ j3 ih =>
    intros
    simp only [Ltree_each_Stmt_3, map_ite, map_bindO, map_someO, map_noneO, ← ih]
    kernel_rfl
theorem e_tree_each_Stmt (s : Fam) (k : Nat) (x : a_tree_each_Stmt) : (evFunC EE (sp s) h_tree_each_Stmt co_tree_each_Stmt k Tryz.f82 (c_tree_each_Stmt.enc x)).run = (B_tree_each_Stmt s k x.1 x.2.1).map rc_tree_each_Stmt.enc := by
  simp only [B_tree_each_Stmt, map_ite, map_bindO, map_someO, map_noneO, ← Ltree_each_Stmt_3_eq]
  kernel_rfl
-- 11 nodes
def B_tree_mapper_stmt (s : Fam) (k : Nat) (x0 : Thing × Unit) (x1 : TStmt) : Option (TStmt × Thing × Unit) := ((s.f_tree_mapper_marks ((x0.fst, ()), x1.sub_Marks, ())).bind fun t1 => ((s.f_tree_mapper_parts ((t1.snd.fst, ()), x1.Name, ())).bind fun t2 => ((s.f_tree_mapper_expr ((t2.snd.fst, ()), x1.sub_P, ())).bind fun t3 => ((s.f_tree_each_Expr (x1.E, (t3.snd.fst, ()), ())).bind fun t4 => ((s.f_tree_each_Stmt (x1.Body, (t4.snd.fst, ()), ())).bind fun t5 => ((s.f_tree_each_Stmt (x1.Else, (t5.snd.fst, ()), ())).bind fun t6 => ((s.f_slices_Clone_string (x1.End, ())).bind fun t7 => ((s.f_slices_Clone_string (x1.End2, ())).bind fun t8 => some (({ Marks_Before := t1.fst.Before, Marks_Trail := t1.fst.Trail, Op := x1.Op, Name := t2.fst, P_Op := t3.fst.Op, P_N := t3.fst.N, P_Name := t3.fst.Name, P_Field := t3.fst.Field, P_L := t3.fst.L, E := t4.fst, Down := x1.Down, More := x1.More, Body := t5.fst, Else := t6.fst, End := t7, End2 := t8 : TStmt }, t6.snd.fst, ()))))))))))
theorem e_tree_mapper_stmt (s : Fam) (k : Nat) (x : a_tree_mapper_stmt) : (evFunC EE (sp s) h_tree_mapper_stmt co_tree_mapper_stmt k Tryz.f83 (c_tree_mapper_stmt.enc x)).run = (B_tree_mapper_stmt s k x.1 x.2.1).map rc_tree_mapper_stmt.enc := by
  simp only [B_tree_mapper_stmt, map_ite, map_bindO, map_someO, map_noneO]
  kernel_rfl
-- 9 nodes
def Lslices_Index_string_2 (s : Fam) (k : Nat) (x0 : List ByteArray) (x1 : ByteArray) : Nat → List ByteArray → ByteArray → Int → Int → Option (Int)
  | 0, _, _, _, _ => none
  | j2 + 1, v0, v1, v2, v3 => (if decide (v3 < v2) = Bool.true then (if 0 ≤ v3 then (if v3 < (↑v0.length : Int) then (if (v1.toList == (v0.getD v3.toNat { data := #[] : ByteArray }).toList) = Bool.true then some (v3) else Lslices_Index_string_2 s k x0 x1 j2 (v0) (v1) (v2) (Go.IntKind.i64.wrap (v3 + 1))) else none) else none) else some (-1))
def B_slices_Index_string (s : Fam) (k : Nat) (x0 : List ByteArray) (x1 : ByteArray) : Option (Int) := Lslices_Index_string_2 s k x0 x1 k (x0) (x1) ((↑x0.length : Int)) (0)
theorem Lslices_Index_string_2_eq (s : Fam) (k : Nat) (x0 : List ByteArray) (x1 : ByteArray) : ∀ (j2 : Nat) (v0 : List ByteArray) (v1 : ByteArray) (v2 : Int) (v3 : Int), (loopGo EE (sp s) h_slices_Index_string co_slices_Index_string [] k Tryz.f86 2 [] j2 ({ tmps := ofL AV.any [(0, AV.c (CV.d (DV.sl 9 v0))), (1, AV.c (CV.d (DV.lit (Go.Value.string v1)))), (7, AV.c (CV.d (DV.lit (Go.Value.int Go.IntKind.i64 v2)))), (8, AV.c (CV.d (DV.lit (Go.Value.int Go.IntKind.i64 v3))))], boxes := ofL Option.none [], objs := ofL Option.none [], fxs := ofL Option.none [] : AS II })).run = (Lslices_Index_string_2 s k x0 x1 j2 v0 v1 v2 v3).map rc_slices_Index_string.enc := by
  intro j2
  induction j2 with
  | zero => intros; rfl
  | succ j2 ih =>
    intros
    simp only [Lslices_Index_string_2, map_ite, map_bindO, map_someO, map_noneO, ← ih]
    kernel_rfl
theorem e_slices_Index_string (s : Fam) (k : Nat) (x : a_slices_Index_string) : (evFunC EE (sp s) h_slices_Index_string co_slices_Index_string k Tryz.f86 (c_slices_Index_string.enc x)).run = (B_slices_Index_string s k x.1 x.2.1).map rc_slices_Index_string.enc := by
  simp only [B_slices_Index_string, map_ite, map_bindO, map_someO, map_noneO, ← Lslices_Index_string_2_eq]
  kernel_rfl
-- 10 nodes
def B_r01_long (s : Fam) (k : Nat) (x0 : Int) : Option (ByteArray) := (if decide (x0 < 10) = Bool.true then (if 0 ≤ x0 then (if x0 ≤ Go.IntKind.u64.wrap (x0 + 1) then (if Go.IntKind.u64.wrap (x0 + 1) ≤ (↑{ data := #[48, 49, 50, 51, 52, 53, 54, 55, 56, 57] : ByteArray }.size : Int) then some ({ data := #[48, 49, 50, 51, 52, 53, 54, 55, 56, 57] : ByteArray }.extract x0.toNat (Go.IntKind.u64.wrap (x0 + 1)).toNat) else none) else none) else none) else ((s.f_r01_long (Go.IntKind.u64.wrap (x0.tdiv 10), ())).bind fun t9 => (if 0 ≤ x0.tmod 10 then (if x0.tmod 10 ≤ Go.IntKind.u64.wrap (x0.tmod 10 + 1) then (if Go.IntKind.u64.wrap (x0.tmod 10 + 1) ≤ (↑{ data := #[48, 49, 50, 51, 52, 53, 54, 55, 56, 57] : ByteArray }.size : Int) then (if (↑(ByteArray.size t9 + ({ data := #[48, 49, 50, 51, 52, 53, 54, 55, 56, 57] : ByteArray }.extract (x0.tmod 10).toNat (Go.IntKind.u64.wrap (x0.tmod 10 + 1)).toNat).size) : Int) > Go.IntKind.i64.max then none else some (t9 ++ { data := #[48, 49, 50, 51, 52, 53, 54, 55, 56, 57] : ByteArray }.extract (x0.tmod 10).toNat (Go.IntKind.u64.wrap (x0.tmod 10 + 1)).toNat)) else none) else none) else none)))
theorem e_r01_long (s : Fam) (k : Nat) (x : a_r01_long) : (evFunC EE (sp s) h_r01_long co_r01_long k Tryz.f88 (c_r01_long.enc x)).run = (B_r01_long s k x.1).map rc_r01_long.enc := by
  simp only [B_r01_long, map_ite, map_bindO, map_someO, map_noneO]
  kernel_rfl
-- 18 nodes
def B_tree_mapper_marks (s : Fam) (k : Nat) (x0 : Thing × Unit) (x1 : TMarks) : Option (TMarks × Thing × Unit) := ((s.f_slices_Clone_string (x1.Before, ())).bind fun t1 => ((s.f_slices_Clone_string (x1.Trail, ())).bind fun t2 => some (({ Before := t1, Trail := t2 : TMarks }, x0.fst, ()))))
theorem e_tree_mapper_marks (s : Fam) (k : Nat) (x : a_tree_mapper_marks) : (evFunC EE (sp s) h_tree_mapper_marks co_tree_mapper_marks k Tryz.f97 (c_tree_mapper_marks.enc x)).run = (B_tree_mapper_marks s k x.1 x.2.1).map rc_tree_mapper_marks.enc := by
  simp only [B_tree_mapper_marks, map_ite, map_bindO, map_someO, map_noneO]
  kernel_rfl
-- 3 nodes
def Ltree_each_Field_3 (s : Fam) (k : Nat) (x0 : List TField) (x1 : Unit × (Thing × Unit) × Unit) : Nat → List TField → Int → Int → List TField → Thing → Option (List TField × Thing × Unit)
  | 0, _, _, _, _, _ => none
  | j3 + 1, v0, v1, v2, v3, v4 => (if decide (v2 < v1) = Bool.true then (if 0 ≤ v2 then (if v2 < (↑v0.length : Int) then ((s.f_tree_mapper_rec_1 (v0.getD v2.toNat dd_TField, (v4, ()), ())).bind fun t5 => (if (v3 ++ [t5.fst]).length * 72 ≤ 140737488355328 then Ltree_each_Field_3 s k x0 x1 j3 (v0) (v1) (Go.IntKind.i64.wrap (v2 + 1)) (v3 ++ [t5.fst]) (t5.snd.fst) else none)) else none) else none) else some ((v3, v4, ())))
def B_tree_each_Field (s : Fam) (k : Nat) (x0 : List TField) (x1 : Unit × (Thing × Unit) × Unit) : Option (List TField × Thing × Unit) := Ltree_each_Field_3 s k x0 x1 k (x0) ((↑x0.length : Int)) (0) ([]) (x1.snd.fst.fst)
theorem Ltree_each_Field_3_eq (s : Fam) (k : Nat) (x0 : List TField) (x1 : Unit × (Thing × Unit) × Unit) : ∀ (j3 : Nat) (v0 : List TField) (v1 : Int) (v2 : Int) (v3 : List TField) (v4 : Thing), (loopGo EE (sp s) h_tree_each_Field co_tree_each_Field (rootAs (unAs 1000004 (c_tree_each_Field.enc (x0, x1, ()))).1) k Tryz.f98 3 [] j3 ({ tmps := ofL AV.any [(1, AV.c (CV.clo 99 [] [CV.rq [CV.fx 1000004] 0])), (5, AV.c (CV.own 5 0)), (8, AV.c (CV.d (DV.sl 48 v0))), (9, AV.c (CV.d (DV.lit (Go.Value.int Go.IntKind.i64 v1)))), (10, AV.c (CV.d (DV.lit (Go.Value.int Go.IntKind.i64 v2))))], boxes := ofL Option.none [(1000004, Option.none)], objs := ofL Option.none [(5, Option.some { ver := 0, t := 48, xs := v3 : Obj II }), (8, Option.none)], fxs := ofL Option.none [(1000004, Option.some v4)] : AS II })).run = (Ltree_each_Field_3 s k x0 x1 j3 v0 v1 v2 v3 v4).map rc_tree_each_Field.enc := by
  intro j3
  induction j3 with
  | zero => intros; rfl
  | succ j3 ih =>
    intros
    simp only [Ltree_each_Field_3, map_ite, map_bindO, map_someO, map_noneO, ← ih]
    kernel_rfl
theorem e_tree_each_Field (s : Fam) (k : Nat) (x : a_tree_each_Field) : (evFunC EE (sp s) h_tree_each_Field co_tree_each_Field k Tryz.f98 (c_tree_each_Field.enc x)).run = (B_tree_each_Field s k x.1 x.2.1).map rc_tree_each_Field.enc := by
  simp only [B_tree_each_Field, map_ite, map_bindO, map_someO, map_noneO, ← Ltree_each_Field_3_eq]
  kernel_rfl
-- 11 nodes
def B_tree_mapper_rec_1 (s : Fam) (k : Nat) (x0 : TField) (x1 : Thing × Unit) : Option (TField × Thing × Unit) := ((s.f_tree_mapper_marks ((x1.fst, ()), x0.sub_Marks, ())).bind fun t1 => ((s.f_tree_mapper_parts ((t1.snd.fst, ()), x0.Name, ())).bind fun t2 => some (({ Marks_Before := t1.fst.Before, Marks_Trail := t1.fst.Trail, Name := t2.fst, Kind := x0.Kind : TField }, t2.snd.fst, ()))))
theorem e_tree_mapper_rec_1 (s : Fam) (k : Nat) (x : a_tree_mapper_rec_1) : (evFunC EE (sp s) h_tree_mapper_rec_1 co_tree_mapper_rec_1 k Tryz.f99 (c_tree_mapper_rec_1.enc x)).run = (B_tree_mapper_rec_1 s k x.1 x.2.1).map rc_tree_mapper_rec_1.enc := by
  simp only [B_tree_mapper_rec_1, map_ite, map_bindO, map_someO, map_noneO]
  kernel_rfl
-- 3 nodes
def B_tree_mapper_typ (s : Fam) (k : Nat) (x0 : Thing × Unit) (x1 : TType) : Option (TType × Thing × Unit) := ((s.f_tree_mapper_parts ((x0.fst, ()), x1.Name, ())).bind fun t1 => some (({ Kind := x1.Kind, Size := x1.Size, Name := t1.fst : TType }, t1.snd.fst, ())))
theorem e_tree_mapper_typ (s : Fam) (k : Nat) (x : a_tree_mapper_typ) : (evFunC EE (sp s) h_tree_mapper_typ co_tree_mapper_typ k Tryz.f100 (c_tree_mapper_typ.enc x)).run = (B_tree_mapper_typ s k x.1 x.2.1).map rc_tree_mapper_typ.enc := by
  simp only [B_tree_mapper_typ, map_ite, map_bindO, map_someO, map_noneO]
  kernel_rfl
-- 2 nodes
def Ltree_each_Param_3 (s : Fam) (k : Nat) (x0 : List TParam) (x1 : Unit × (Thing × Unit) × Unit) : Nat → List TParam → Int → Int → List TParam → Thing → Option (List TParam × Thing × Unit)
  | 0, _, _, _, _, _ => none
  | j3 + 1, v0, v1, v2, v3, v4 => (if decide (v2 < v1) = Bool.true then (if 0 ≤ v2 then (if v2 < (↑v0.length : Int) then ((s.f_tree_mapper_routine_1 (v0.getD v2.toNat dd_TParam, (v4, ()), ())).bind fun t5 => (if (v3 ++ [t5.fst]).length * 56 ≤ 140737488355328 then Ltree_each_Param_3 s k x0 x1 j3 (v0) (v1) (Go.IntKind.i64.wrap (v2 + 1)) (v3 ++ [t5.fst]) (t5.snd.fst) else none)) else none) else none) else some ((v3, v4, ())))
def B_tree_each_Param (s : Fam) (k : Nat) (x0 : List TParam) (x1 : Unit × (Thing × Unit) × Unit) : Option (List TParam × Thing × Unit) := Ltree_each_Param_3 s k x0 x1 k (x0) ((↑x0.length : Int)) (0) ([]) (x1.snd.fst.fst)
theorem Ltree_each_Param_3_eq (s : Fam) (k : Nat) (x0 : List TParam) (x1 : Unit × (Thing × Unit) × Unit) : ∀ (j3 : Nat) (v0 : List TParam) (v1 : Int) (v2 : Int) (v3 : List TParam) (v4 : Thing), (loopGo EE (sp s) h_tree_each_Param co_tree_each_Param (rootAs (unAs 1000004 (c_tree_each_Param.enc (x0, x1, ()))).1) k Tryz.f101 3 [] j3 ({ tmps := ofL AV.any [(1, AV.c (CV.clo 102 [] [CV.rq [CV.fx 1000004] 0])), (5, AV.c (CV.own 5 0)), (8, AV.c (CV.d (DV.sl 92 v0))), (9, AV.c (CV.d (DV.lit (Go.Value.int Go.IntKind.i64 v1)))), (10, AV.c (CV.d (DV.lit (Go.Value.int Go.IntKind.i64 v2))))], boxes := ofL Option.none [(1000004, Option.none)], objs := ofL Option.none [(5, Option.some { ver := 0, t := 92, xs := v3 : Obj II }), (8, Option.none)], fxs := ofL Option.none [(1000004, Option.some v4)] : AS II })).run = (Ltree_each_Param_3 s k x0 x1 j3 v0 v1 v2 v3 v4).map rc_tree_each_Param.enc := by
  intro j3
  induction j3 with
  | zero => intros; rfl
  | succ j3 ih =>
    intros
    simp only [Ltree_each_Param_3, map_ite, map_bindO, map_someO, map_noneO, ← ih]
    kernel_rfl
theorem e_tree_each_Param (s : Fam) (k : Nat) (x : a_tree_each_Param) : (evFunC EE (sp s) h_tree_each_Param co_tree_each_Param k Tryz.f101 (c_tree_each_Param.enc x)).run = (B_tree_each_Param s k x.1 x.2.1).map rc_tree_each_Param.enc := by
  simp only [B_tree_each_Param, map_ite, map_bindO, map_someO, map_noneO, ← Ltree_each_Param_3_eq]
  kernel_rfl
-- 11 nodes
def B_tree_mapper_routine_1 (s : Fam) (k : Nat) (x0 : TParam) (x1 : Thing × Unit) : Option (TParam × Thing × Unit) := ((s.f_tree_mapper_parts ((x1.fst, ()), x0.Name, ())).bind fun t1 => ((s.f_tree_mapper_typ ((t1.snd.fst, ()), x0.sub_T, ())).bind fun t2 => some (({ Name := t1.fst, T_Kind := t2.fst.Kind, T_Size := t2.fst.Size, T_Name := t2.fst.Name, Mode := x0.Mode : TParam }, t2.snd.fst, ()))))
theorem e_tree_mapper_routine_1 (s : Fam) (k : Nat) (x : a_tree_mapper_routine_1) : (evFunC EE (sp s) h_tree_mapper_routine_1 co_tree_mapper_routine_1 k Tryz.f102 (c_tree_mapper_routine_1.enc x)).run = (B_tree_mapper_routine_1 s k x.1 x.2.1).map rc_tree_mapper_routine_1.enc := by
  simp only [B_tree_mapper_routine_1, map_ite, map_bindO, map_someO, map_noneO]
  kernel_rfl
-- 3 nodes
def B_tree_mapper_expr (s : Fam) (k : Nat) (x0 : Thing × Unit) (x1 : TExpr) : Option (TExpr × Thing × Unit) := ((s.f_tree_mapper_parts ((x0.fst, ()), x1.Name, ())).bind fun t1 => ((s.f_tree_mapper_parts ((t1.snd.fst, ()), x1.Field, ())).bind fun t2 => ((s.f_tree_each_Expr (x1.L, (t2.snd.fst, ()), ())).bind fun t3 => some (({ Op := x1.Op, N := x1.N, Name := t1.fst, Field := t2.fst, L := t3.fst : TExpr }, t3.snd.fst, ())))))
theorem e_tree_mapper_expr (s : Fam) (k : Nat) (x : a_tree_mapper_expr) : (evFunC EE (sp s) h_tree_mapper_expr co_tree_mapper_expr k Tryz.f103 (c_tree_mapper_expr.enc x)).run = (B_tree_mapper_expr s k x.1 x.2.1).map rc_tree_mapper_expr.enc := by
  simp only [B_tree_mapper_expr, map_ite, map_bindO, map_someO, map_noneO]
  kernel_rfl
-- 4 nodes
def Ltree_each_Expr_3 (s : Fam) (k : Nat) (x0 : List TExpr) (x1 : Thing × Unit) : Nat → List TExpr → Int → Int → List TExpr → Thing → Option (List TExpr × Thing × Unit)
  | 0, _, _, _, _, _ => none
  | j3 + 1, v0, v1, v2, v3, v4 => (if decide (v2 < v1) = Bool.true then (if 0 ≤ v2 then (if v2 < (↑v0.length : Int) then ((s.f_tree_mapper_expr ((v4, ()), (v0.getD v2.toNat dd_TExpr).re, ())).bind fun t5 => (if (v3 ++ [t5.fst.re]).length * 72 ≤ 140737488355328 then Ltree_each_Expr_3 s k x0 x1 j3 (v0) (v1) (Go.IntKind.i64.wrap (v2 + 1)) (v3 ++ [t5.fst.re]) (t5.snd.fst) else none)) else none) else none) else some ((v3, v4, ())))
def B_tree_each_Expr (s : Fam) (k : Nat) (x0 : List TExpr) (x1 : Thing × Unit) : Option (List TExpr × Thing × Unit) := Ltree_each_Expr_3 s k x0 x1 k (x0) ((↑x0.length : Int)) (0) ([]) (x1.fst)
theorem Ltree_each_Expr_3_eq (s : Fam) (k : Nat) (x0 : List TExpr) (x1 : Thing × Unit) : ∀ (j3 : Nat) (v0 : List TExpr) (v1 : Int) (v2 : Int) (v3 : List TExpr) (v4 : Thing), (loopGo EE (sp s) h_tree_each_Expr co_tree_each_Expr (rootAs (unAs 1000004 (c_tree_each_Expr.enc (x0, x1, ()))).1) k Tryz.f104 3 [] j3 ({ tmps := ofL AV.any [(1, AV.c (CV.mth 103 [CV.fx 1000004])), (5, AV.c (CV.own 5 0)), (8, AV.c (CV.d (DV.sl 95 v0))), (9, AV.c (CV.d (DV.lit (Go.Value.int Go.IntKind.i64 v1)))), (10, AV.c (CV.d (DV.lit (Go.Value.int Go.IntKind.i64 v2))))], boxes := ofL Option.none [(1000004, Option.none)], objs := ofL Option.none [(5, Option.some { ver := 0, t := 95, xs := v3 : Obj II }), (8, Option.none)], fxs := ofL Option.none [(1000004, Option.some v4)] : AS II })).run = (Ltree_each_Expr_3 s k x0 x1 j3 v0 v1 v2 v3 v4).map rc_tree_each_Expr.enc := by
  intro j3
  induction j3 with
  | zero => intros; rfl
  | succ j3 ih =>
    intros
    simp only [Ltree_each_Expr_3, map_ite, map_bindO, map_someO, map_noneO, ← ih]
    kernel_rfl
theorem e_tree_each_Expr (s : Fam) (k : Nat) (x : a_tree_each_Expr) : (evFunC EE (sp s) h_tree_each_Expr co_tree_each_Expr k Tryz.f104 (c_tree_each_Expr.enc x)).run = (B_tree_each_Expr s k x.1 x.2.1).map rc_tree_each_Expr.enc := by
  simp only [B_tree_each_Expr, map_ite, map_bindO, map_someO, map_noneO, ← Ltree_each_Expr_3_eq]
  kernel_rfl
-- 11 nodes
end Go.Ev
end
section
open Go
namespace Go.Ev
def sep36 : ByteArray := ⟨#[36]⟩
def cutD (s : ByteArray) : List ByteArray := Lib.splitB sep36 0 (Lib.countB s sep36) s
def joinD (l : List ByteArray) : ByteArray := ⟨(Lib.join (l.map (·.data.toList)) sep36.data.toList).toArray⟩
def stepT (x : a_by) : Option b_by := match x.1 with
  | .ren l => some ((match l.find? fun p => p.Old.toList == x.2.1.toList with | some p => p.New | none => x.2.1), .ren l, ())
  | .names l => if x.2.1.size ≤ maxLen then (if (l.any fun z => z.toList == x.2.1.toList) = true then some (x.2.1, .names l, ()) else if (l.length + 1) * 16 ≤ 140737488355328 then some (x.2.1, .names (l ++ [x.2.1]), ()) else none) else none
def partsT (s : Fam) (th : Thing) : List ByteArray → Option (List ByteArray × Thing)
  | [] => some ([], th)
  | p :: r => if p.size = 0 then (partsT s th r).map fun q => (p :: q.1, q.2) else (s.f_by (th, p, ())).bind fun t => (partsT s t.2.1 r).map fun q => (t.1 :: q.1, q.2)
def B_tree_mapper_parts (s : Fam) (_ : Nat) (m : Thing × Unit) (x : ByteArray) : Option b_tree_mapper_parts :=
  if x.size = 0 then some (ByteArray.empty, m.1, ()) else if 4294967280 < x.size then none else if 1000000000000 < (cutD x).length then none else
    (partsT s m.1 (cutD x)).bind fun q => if (Lib.join (q.1.map (·.data.toList)) sep36.data.toList).length ≤ 140737488355328 then some (joinD q.1, q.2, ()) else none
def B_tree_Names (s : Fam) (_ : Nat) (p : TProgram) : Option (List ByteArray) :=
  (s.f_tree_mapper_program ((.names [], ()), p, ())).bind fun r => match r.2.1 with
    | .names l => some l
    | _ => none
def B_tree_Rename (s : Fam) (_ : Nat) (p : TProgram) (l : List TPair) : Option TProgram := (s.f_tree_mapper_program ((.ren l, ()), p, ())).map (·.1)
def cutL : List UInt8 → List (List UInt8)
  | [] => [[]]
  | c :: r => if c = 36 then [] :: cutL r else match cutL r with
    | [] => [[c]]
    | p :: q => (c :: p) :: q
def cutP (s : ByteArray) : List ByteArray := (cutL s.data.toList).map fun l => ⟨l.toArray⟩
end Go.Ev
end
section
open Go Go.Proofs
namespace Go.Ev
set_option linter.unusedVariables false
set_option maxHeartbeats 4000000
set_option maxRecDepth 100000
def mkFam (h : Fam) (s : Fam) (k : Nat) : Fam where
  f_w16_RenameTables x := B_w16_RenameTables s k x.1 x.2.1
  f_r07_Names x := B_r07_Names s k x.1
  f_w16_awake x := B_w16_awake s k
  f_r07_Rename x := B_r07_Rename s k x.1 x.2.1
  f_rename_Table x := B_rename_Table s k x.1 x.2.1
  f_rename_Apply x := B_rename_Apply s k x.1 x.2.1
  f_r16_Table x := B_r16_Table s k x.1 x.2.1
  f_r16_SamePairs x := B_r16_SamePairs s k x.1 x.2.1
  f_r07_Same x := B_r07_Same s k x.1 x.2.1
  f_r07_Parts x := B_r07_Parts s k x.1
  f_r07_varNames x := B_r07_varNames s k x.1
  f_r07_routineNames x := B_r07_routineNames s k x.1
  f_r07_stmtNames x := B_r07_stmtNames s k x.1
  f_r04_Among x := B_r04_Among s k x.1 x.2.1
  f_r07_Turned x := B_r07_Turned s k x.1 x.2.1
  f_r07_turnVars x := B_r07_turnVars s k x.1 x.2.1
  f_r07_turnRoutines x := B_r07_turnRoutines s k x.1 x.2.1
  f_r07_turnStmts x := B_r07_turnStmts s k x.1 x.2.1
  f_tree_Names x := B_tree_Names s k x.1
  f_slices_Clone_string := h.f_slices_Clone_string
  f_words_Clash := h.f_words_Clash
  f_words_Fresh x := B_words_Fresh s k x.1 x.2.1
  f_tree_Rename x := B_tree_Rename s k x.1 x.2.1
  f_r04_Is x := B_r04_Is s k x.1 x.2.1
  f_r04_Fresh x := B_r04_Fresh s k x.1 x.2.1
  f_r01_SameTexts x := B_r01_SameTexts s k x.1 x.2.1
  f_r07_sameMarks x := B_r07_sameMarks s k x.1 x.2.1
  f_r07_sameVars x := B_r07_sameVars s k x.1 x.2.1
  f_r07_SameRoutines x := B_r07_SameRoutines s k x.1 x.2.1
  f_r07_SameStmts x := B_r07_SameStmts s k x.1 x.2.1
  f_r07_ExprNames x := B_r07_ExprNames s k x.1
  f_r07_turnExpr x := B_r07_turnExpr s k x.1 x.2.1
  f_tree_mapper_program x := B_tree_mapper_program s k x.1 x.2.1
  f_words_Is := h.f_words_Is
  f_slices_Contains_string x := B_slices_Contains_string s k x.1 x.2.1
  f_strconv_Itoa := h.f_strconv_Itoa
  f_tree_Rename_1 x := B_tree_Rename_1 s k x.1 x.2.1
  f_r04_All x := B_r04_All s k x.1
  f_r01_Digits x := B_r01_Digits s k x.1
  f_r07_SameExpr x := B_r07_SameExpr s k x.1 x.2.1
  f_r07_SameExprs x := B_r07_SameExprs s k x.1 x.2.1
  f_tree_mapper_parts x := B_tree_mapper_parts s k x.1 x.2.1
  f_tree_each_Rec x := B_tree_each_Rec s k x.1 x.2.1
  f_tree_mapper_rec x := B_tree_mapper_rec s k x.1 x.2.1
  f_tree_each_Var x := B_tree_each_Var s k x.1 x.2.1
  f_tree_mapper_variable x := B_tree_mapper_variable s k x.1 x.2.1
  f_tree_each_Routine x := B_tree_each_Routine s k x.1 x.2.1
  f_tree_mapper_routine x := B_tree_mapper_routine s k x.1 x.2.1
  f_tree_each_Stmt x := B_tree_each_Stmt s k x.1 x.2.1
  f_tree_mapper_stmt x := B_tree_mapper_stmt s k x.1 x.2.1
  f_slices_Index_string x := B_slices_Index_string s k x.1 x.2.1
  f_r01_long x := B_r01_long s k x.1
  f_tree_mapper_marks x := B_tree_mapper_marks s k x.1 x.2.1
  f_tree_each_Field x := B_tree_each_Field s k x.1 x.2.1
  f_tree_mapper_rec_1 x := B_tree_mapper_rec_1 s k x.1 x.2.1
  f_tree_mapper_typ x := B_tree_mapper_typ s k x.1 x.2.1
  f_tree_each_Param x := B_tree_each_Param s k x.1 x.2.1
  f_tree_mapper_routine_1 x := B_tree_mapper_routine_1 s k x.1 x.2.1
  f_tree_mapper_expr x := B_tree_mapper_expr s k x.1 x.2.1
  f_tree_each_Expr x := B_tree_each_Expr s k x.1 x.2.1
  f_by := h.f_by
def noFam (h : Fam) : Fam where
  f_w16_RenameTables _ := none
  f_r07_Names _ := none
  f_w16_awake _ := none
  f_r07_Rename _ := none
  f_rename_Table _ := none
  f_rename_Apply _ := none
  f_r16_Table _ := none
  f_r16_SamePairs _ := none
  f_r07_Same _ := none
  f_r07_Parts _ := none
  f_r07_varNames _ := none
  f_r07_routineNames _ := none
  f_r07_stmtNames _ := none
  f_r04_Among _ := none
  f_r07_Turned _ := none
  f_r07_turnVars _ := none
  f_r07_turnRoutines _ := none
  f_r07_turnStmts _ := none
  f_tree_Names _ := none
  f_slices_Clone_string := h.f_slices_Clone_string
  f_words_Clash := h.f_words_Clash
  f_words_Fresh _ := none
  f_tree_Rename _ := none
  f_r04_Is _ := none
  f_r04_Fresh _ := none
  f_r01_SameTexts _ := none
  f_r07_sameMarks _ := none
  f_r07_sameVars _ := none
  f_r07_SameRoutines _ := none
  f_r07_SameStmts _ := none
  f_r07_ExprNames _ := none
  f_r07_turnExpr _ := none
  f_tree_mapper_program _ := none
  f_words_Is := h.f_words_Is
  f_slices_Contains_string _ := none
  f_strconv_Itoa := h.f_strconv_Itoa
  f_tree_Rename_1 _ := none
  f_r04_All _ := none
  f_r01_Digits _ := none
  f_r07_SameExpr _ := none
  f_r07_SameExprs _ := none
  f_tree_mapper_parts _ := none
  f_tree_each_Rec _ := none
  f_tree_mapper_rec _ := none
  f_tree_each_Var _ := none
  f_tree_mapper_variable _ := none
  f_tree_each_Routine _ := none
  f_tree_mapper_routine _ := none
  f_tree_each_Stmt _ := none
  f_tree_mapper_stmt _ := none
  f_slices_Index_string _ := none
  f_r01_long _ := none
  f_tree_mapper_marks _ := none
  f_tree_each_Field _ := none
  f_tree_mapper_rec_1 _ := none
  f_tree_mapper_typ _ := none
  f_tree_each_Param _ := none
  f_tree_mapper_routine_1 _ := none
  f_tree_mapper_expr _ := none
  f_tree_each_Expr _ := none
  f_by := h.f_by
def FF (h : Fam) : Nat → Fam
  | 0 => noFam h
  | k + 1 => mkFam h (FF h k) k
structure HandOK (h : Fam) : Prop where
  o_tree_Names : ∀ (s : Fam) (k : Nat), (∀ f, SpecOK Tryz.prog EE (sp s) f) → SpecA Tryz.prog EE 24 (ansOf c_tree_Names rc_tree_Names.enc fun x => B_tree_Names s k x.1)
  o_slices_Clone_string : SpecA Tryz.prog EE 25 (ansOf c_slices_Clone_string rc_slices_Clone_string.enc h.f_slices_Clone_string)
  o_words_Clash : SpecA Tryz.prog EE 26 (ansOf c_words_Clash rc_words_Clash.enc h.f_words_Clash)
  o_tree_Rename : ∀ (s : Fam) (k : Nat), (∀ f, SpecOK Tryz.prog EE (sp s) f) → SpecA Tryz.prog EE 28 (ansOf c_tree_Rename rc_tree_Rename.enc fun x => B_tree_Rename s k x.1 x.2.1)
  o_words_Is : SpecA Tryz.prog EE 52 (ansOf c_words_Is rc_words_Is.enc h.f_words_Is)
  o_strconv_Itoa : SpecA Tryz.prog EE 54 (ansOf c_strconv_Itoa rc_strconv_Itoa.enc h.f_strconv_Itoa)
  o_tree_mapper_parts : ∀ (s : Fam) (k : Nat), (∀ f, SpecOK Tryz.prog EE (sp s) f) → SpecA Tryz.prog EE 75 (ansOf c_tree_mapper_parts rc_tree_mapper_parts.enc fun x => B_tree_mapper_parts s k x.1 x.2.1)
  o_by : SpecA Tryz.prog EE 1000003 (ansOf c_by rc_by.enc h.f_by)
theorem hEE : EnvOK Tryz.prog EE := envOK EE rfl rfl rfl
def nilFam : Fam where
  f_w16_RenameTables _ := none
  f_r07_Names _ := none
  f_w16_awake _ := none
  f_r07_Rename _ := none
  f_rename_Table _ := none
  f_rename_Apply _ := none
  f_r16_Table _ := none
  f_r16_SamePairs _ := none
  f_r07_Same _ := none
  f_r07_Parts _ := none
  f_r07_varNames _ := none
  f_r07_routineNames _ := none
  f_r07_stmtNames _ := none
  f_r04_Among _ := none
  f_r07_Turned _ := none
  f_r07_turnVars _ := none
  f_r07_turnRoutines _ := none
  f_r07_turnStmts _ := none
  f_tree_Names _ := none
  f_slices_Clone_string _ := none
  f_words_Clash _ := none
  f_words_Fresh _ := none
  f_tree_Rename _ := none
  f_r04_Is _ := none
  f_r04_Fresh _ := none
  f_r01_SameTexts _ := none
  f_r07_sameMarks _ := none
  f_r07_sameVars _ := none
  f_r07_SameRoutines _ := none
  f_r07_SameStmts _ := none
  f_r07_ExprNames _ := none
  f_r07_turnExpr _ := none
  f_tree_mapper_program _ := none
  f_words_Is _ := none
  f_slices_Contains_string _ := none
  f_strconv_Itoa _ := none
  f_tree_Rename_1 _ := none
  f_r04_All _ := none
  f_r01_Digits _ := none
  f_r07_SameExpr _ := none
  f_r07_SameExprs _ := none
  f_tree_mapper_parts _ := none
  f_tree_each_Rec _ := none
  f_tree_mapper_rec _ := none
  f_tree_each_Var _ := none
  f_tree_mapper_variable _ := none
  f_tree_each_Routine _ := none
  f_tree_mapper_routine _ := none
  f_tree_each_Stmt _ := none
  f_tree_mapper_stmt _ := none
  f_slices_Index_string _ := none
  f_r01_long _ := none
  f_tree_mapper_marks _ := none
  f_tree_each_Field _ := none
  f_tree_mapper_rec_1 _ := none
  f_tree_mapper_typ _ := none
  f_tree_each_Param _ := none
  f_tree_mapper_routine_1 _ := none
  f_tree_mapper_expr _ := none
  f_tree_each_Expr _ := none
  f_by _ := none
theorem nil_ok : AllA Tryz.prog EE (table nilFam) :=
  .cons (specA_none _ _) <|
  .cons (specA_none _ _) <|
  .cons (specA_none _ _) <|
  .cons (specA_none _ _) <|
  .cons (specA_none _ _) <|
  .cons (specA_none _ _) <|
  .cons (specA_none _ _) <|
  .cons (specA_none _ _) <|
  .cons (specA_none _ _) <|
  .cons (specA_none _ _) <|
  .cons (specA_none _ _) <|
  .cons (specA_none _ _) <|
  .cons (specA_none _ _) <|
  .cons (specA_none _ _) <|
  .cons (specA_none _ _) <|
  .cons (specA_none _ _) <|
  .cons (specA_none _ _) <|
  .cons (specA_none _ _) <|
  .cons (specA_none _ _) <|
  .cons (specA_none _ _) <|
  .cons (specA_none _ _) <|
  .cons (specA_none _ _) <|
  .cons (specA_none _ _) <|
  .cons (specA_none _ _) <|
  .cons (specA_none _ _) <|
  .cons (specA_none _ _) <|
  .cons (specA_none _ _) <|
  .cons (specA_none _ _) <|
  .cons (specA_none _ _) <|
  .cons (specA_none _ _) <|
  .cons (specA_none _ _) <|
  .cons (specA_none _ _) <|
  .cons (specA_none _ _) <|
  .cons (specA_none _ _) <|
  .cons (specA_none _ _) <|
  .cons (specA_none _ _) <|
  .cons (specA_none _ _) <|
  .cons (specA_none _ _) <|
  .cons (specA_none _ _) <|
  .cons (specA_none _ _) <|
  .cons (specA_none _ _) <|
  .cons (specA_none _ _) <|
  .cons (specA_none _ _) <|
  .cons (specA_none _ _) <|
  .cons (specA_none _ _) <|
  .cons (specA_none _ _) <|
  .cons (specA_none _ _) <|
  .cons (specA_none _ _) <|
  .cons (specA_none _ _) <|
  .cons (specA_none _ _) <|
  .cons (specA_none _ _) <|
  .cons (specA_none _ _) <|
  .cons (specA_none _ _) <|
  .cons (specA_none _ _) <|
  .cons (specA_none _ _) <|
  .cons (specA_none _ _) <|
  .cons (specA_none _ _) <|
  .cons (specA_none _ _) <|
  .cons (specA_none _ _) <|
  .cons (specA_none _ _) <|
  .cons (specA_none _ _) <|
  .nil
theorem specs0 {h : Fam} (hh : HandOK h) : AllA Tryz.prog EE (table (noFam h)) :=
  .cons (specA_none _ _) <|
  .cons (specA_none _ _) <|
  .cons (specA_none _ _) <|
  .cons (specA_none _ _) <|
  .cons (specA_none _ _) <|
  .cons (specA_none _ _) <|
  .cons (specA_none _ _) <|
  .cons (specA_none _ _) <|
  .cons (specA_none _ _) <|
  .cons (specA_none _ _) <|
  .cons (specA_none _ _) <|
  .cons (specA_none _ _) <|
  .cons (specA_none _ _) <|
  .cons (specA_none _ _) <|
  .cons (specA_none _ _) <|
  .cons (specA_none _ _) <|
  .cons (specA_none _ _) <|
  .cons (specA_none _ _) <|
  .cons (specA_none _ _) <|
  .cons (hh.o_slices_Clone_string) <|
  .cons (hh.o_words_Clash) <|
  .cons (specA_none _ _) <|
  .cons (specA_none _ _) <|
  .cons (specA_none _ _) <|
  .cons (specA_none _ _) <|
  .cons (specA_none _ _) <|
  .cons (specA_none _ _) <|
  .cons (specA_none _ _) <|
  .cons (specA_none _ _) <|
  .cons (specA_none _ _) <|
  .cons (specA_none _ _) <|
  .cons (specA_none _ _) <|
  .cons (specA_none _ _) <|
  .cons (hh.o_words_Is) <|
  .cons (specA_none _ _) <|
  .cons (hh.o_strconv_Itoa) <|
  .cons (specA_none _ _) <|
  .cons (specA_none _ _) <|
  .cons (specA_none _ _) <|
  .cons (specA_none _ _) <|
  .cons (specA_none _ _) <|
  .cons (specA_none _ _) <|
  .cons (specA_none _ _) <|
  .cons (specA_none _ _) <|
  .cons (specA_none _ _) <|
  .cons (specA_none _ _) <|
  .cons (specA_none _ _) <|
  .cons (specA_none _ _) <|
  .cons (specA_none _ _) <|
  .cons (specA_none _ _) <|
  .cons (specA_none _ _) <|
  .cons (specA_none _ _) <|
  .cons (specA_none _ _) <|
  .cons (specA_none _ _) <|
  .cons (specA_none _ _) <|
  .cons (specA_none _ _) <|
  .cons (specA_none _ _) <|
  .cons (specA_none _ _) <|
  .cons (specA_none _ _) <|
  .cons (specA_none _ _) <|
  .cons (hh.o_by) <|
  .nil
theorem specsS {h : Fam} (hh : HandOK h) (k : Nat) (ih : ∀ f, SpecOK Tryz.prog EE (sp (FF h k)) f) : AllA Tryz.prog EE (table (FF h (k + 1))) :=
  .cons (specA_of hEE ih Tryz.func3 (by kernel_rfl) (by decide) c_w16_RenameTables rc_w16_RenameTables.enc _ (fun x => e_w16_RenameTables (FF h k) k x)) <|
  .cons (specA_of hEE ih Tryz.func5 (by kernel_rfl) (by decide) c_r07_Names rc_r07_Names.enc _ (fun x => e_r07_Names (FF h k) k x)) <|
  .cons (specA_of hEE ih Tryz.func6 (by kernel_rfl) (by decide) c_w16_awake rc_w16_awake.enc _ (fun x => e_w16_awake (FF h k) k x)) <|
  .cons (specA_of hEE ih Tryz.func7 (by kernel_rfl) (by decide) c_r07_Rename rc_r07_Rename.enc _ (fun x => e_r07_Rename (FF h k) k x)) <|
  .cons (specA_of hEE ih Tryz.func8 (by kernel_rfl) (by decide) c_rename_Table rc_rename_Table.enc _ (fun x => e_rename_Table (FF h k) k x)) <|
  .cons (specA_of hEE ih Tryz.func9 (by kernel_rfl) (by decide) c_rename_Apply rc_rename_Apply.enc _ (fun x => e_rename_Apply (FF h k) k x)) <|
  .cons (specA_of hEE ih Tryz.func10 (by kernel_rfl) (by decide) c_r16_Table rc_r16_Table.enc _ (fun x => e_r16_Table (FF h k) k x)) <|
  .cons (specA_of hEE ih Tryz.func11 (by kernel_rfl) (by decide) c_r16_SamePairs rc_r16_SamePairs.enc _ (fun x => e_r16_SamePairs (FF h k) k x)) <|
  .cons (specA_of hEE ih Tryz.func12 (by kernel_rfl) (by decide) c_r07_Same rc_r07_Same.enc _ (fun x => e_r07_Same (FF h k) k x)) <|
  .cons (specA_of hEE ih Tryz.func15 (by kernel_rfl) (by decide) c_r07_Parts rc_r07_Parts.enc _ (fun x => e_r07_Parts (FF h k) k x)) <|
  .cons (specA_of hEE ih Tryz.func16 (by kernel_rfl) (by decide) c_r07_varNames rc_r07_varNames.enc _ (fun x => e_r07_varNames (FF h k) k x)) <|
  .cons (specA_of hEE ih Tryz.func17 (by kernel_rfl) (by decide) c_r07_routineNames rc_r07_routineNames.enc _ (fun x => e_r07_routineNames (FF h k) k x)) <|
  .cons (specA_of hEE ih Tryz.func18 (by kernel_rfl) (by decide) c_r07_stmtNames rc_r07_stmtNames.enc _ (fun x => e_r07_stmtNames (FF h k) k x)) <|
  .cons (specA_of hEE ih Tryz.func19 (by kernel_rfl) (by decide) c_r04_Among rc_r04_Among.enc _ (fun x => e_r04_Among (FF h k) k x)) <|
  .cons (specA_of hEE ih Tryz.func20 (by kernel_rfl) (by decide) c_r07_Turned rc_r07_Turned.enc _ (fun x => e_r07_Turned (FF h k) k x)) <|
  .cons (specA_of hEE ih Tryz.func21 (by kernel_rfl) (by decide) c_r07_turnVars rc_r07_turnVars.enc _ (fun x => e_r07_turnVars (FF h k) k x)) <|
  .cons (specA_of hEE ih Tryz.func22 (by kernel_rfl) (by decide) c_r07_turnRoutines rc_r07_turnRoutines.enc _ (fun x => e_r07_turnRoutines (FF h k) k x)) <|
  .cons (specA_of hEE ih Tryz.func23 (by kernel_rfl) (by decide) c_r07_turnStmts rc_r07_turnStmts.enc _ (fun x => e_r07_turnStmts (FF h k) k x)) <|
  .cons (hh.o_tree_Names _ k ih) <|
  .cons (hh.o_slices_Clone_string) <|
  .cons (hh.o_words_Clash) <|
  .cons (specA_of hEE ih Tryz.func27 (by kernel_rfl) (by decide) c_words_Fresh rc_words_Fresh.enc _ (fun x => e_words_Fresh (FF h k) k x)) <|
  .cons (hh.o_tree_Rename _ k ih) <|
  .cons (specA_of hEE ih Tryz.func29 (by kernel_rfl) (by decide) c_r04_Is rc_r04_Is.enc _ (fun x => e_r04_Is (FF h k) k x)) <|
  .cons (specA_of hEE ih Tryz.func30 (by kernel_rfl) (by decide) c_r04_Fresh rc_r04_Fresh.enc _ (fun x => e_r04_Fresh (FF h k) k x)) <|
  .cons (specA_of hEE ih Tryz.func31 (by kernel_rfl) (by decide) c_r01_SameTexts rc_r01_SameTexts.enc _ (fun x => e_r01_SameTexts (FF h k) k x)) <|
  .cons (specA_of hEE ih Tryz.func32 (by kernel_rfl) (by decide) c_r07_sameMarks rc_r07_sameMarks.enc _ (fun x => e_r07_sameMarks (FF h k) k x)) <|
  .cons (specA_of hEE ih Tryz.func33 (by kernel_rfl) (by decide) c_r07_sameVars rc_r07_sameVars.enc _ (fun x => e_r07_sameVars (FF h k) k x)) <|
  .cons (specA_of hEE ih Tryz.func34 (by kernel_rfl) (by decide) c_r07_SameRoutines rc_r07_SameRoutines.enc _ (fun x => e_r07_SameRoutines (FF h k) k x)) <|
  .cons (specA_of hEE ih Tryz.func35 (by kernel_rfl) (by decide) c_r07_SameStmts rc_r07_SameStmts.enc _ (fun x => e_r07_SameStmts (FF h k) k x)) <|
  .cons (specA_of hEE ih Tryz.func47 (by kernel_rfl) (by decide) c_r07_ExprNames rc_r07_ExprNames.enc _ (fun x => e_r07_ExprNames (FF h k) k x)) <|
  .cons (specA_of hEE ih Tryz.func48 (by kernel_rfl) (by decide) c_r07_turnExpr rc_r07_turnExpr.enc _ (fun x => e_r07_turnExpr (FF h k) k x)) <|
  .cons (specA_of hEE ih Tryz.func50 (by kernel_rfl) (by decide) c_tree_mapper_program rc_tree_mapper_program.enc _ (fun x => e_tree_mapper_program (FF h k) k x)) <|
  .cons (hh.o_words_Is) <|
  .cons (specA_of hEE ih Tryz.func53 (by kernel_rfl) (by decide) c_slices_Contains_string rc_slices_Contains_string.enc _ (fun x => e_slices_Contains_string (FF h k) k x)) <|
  .cons (hh.o_strconv_Itoa) <|
  .cons (specA_of hEE ih Tryz.func55 (by kernel_rfl) (by decide) c_tree_Rename_1 rc_tree_Rename_1.enc _ (fun x => e_tree_Rename_1 (FF h k) k x)) <|
  .cons (specA_of hEE ih Tryz.func56 (by kernel_rfl) (by decide) c_r04_All rc_r04_All.enc _ (fun x => e_r04_All (FF h k) k x)) <|
  .cons (specA_of hEE ih Tryz.func57 (by kernel_rfl) (by decide) c_r01_Digits rc_r01_Digits.enc _ (fun x => e_r01_Digits (FF h k) k x)) <|
  .cons (specA_of hEE ih Tryz.func58 (by kernel_rfl) (by decide) c_r07_SameExpr rc_r07_SameExpr.enc _ (fun x => e_r07_SameExpr (FF h k) k x)) <|
  .cons (specA_of hEE ih Tryz.func59 (by kernel_rfl) (by decide) c_r07_SameExprs rc_r07_SameExprs.enc _ (fun x => e_r07_SameExprs (FF h k) k x)) <|
  .cons (hh.o_tree_mapper_parts _ k ih) <|
  .cons (specA_of hEE ih Tryz.func76 (by kernel_rfl) (by decide) c_tree_each_Rec rc_tree_each_Rec.enc _ (fun x => e_tree_each_Rec (FF h k) k x)) <|
  .cons (specA_of hEE ih Tryz.func77 (by kernel_rfl) (by decide) c_tree_mapper_rec rc_tree_mapper_rec.enc _ (fun x => e_tree_mapper_rec (FF h k) k x)) <|
  .cons (specA_of hEE ih Tryz.func78 (by kernel_rfl) (by decide) c_tree_each_Var rc_tree_each_Var.enc _ (fun x => e_tree_each_Var (FF h k) k x)) <|
  .cons (specA_of hEE ih Tryz.func79 (by kernel_rfl) (by decide) c_tree_mapper_variable rc_tree_mapper_variable.enc _ (fun x => e_tree_mapper_variable (FF h k) k x)) <|
  .cons (specA_of hEE ih Tryz.func80 (by kernel_rfl) (by decide) c_tree_each_Routine rc_tree_each_Routine.enc _ (fun x => e_tree_each_Routine (FF h k) k x)) <|
  .cons (specA_of hEE ih Tryz.func81 (by kernel_rfl) (by decide) c_tree_mapper_routine rc_tree_mapper_routine.enc _ (fun x => e_tree_mapper_routine (FF h k) k x)) <|
  .cons (specA_of hEE ih Tryz.func82 (by kernel_rfl) (by decide) c_tree_each_Stmt rc_tree_each_Stmt.enc _ (fun x => e_tree_each_Stmt (FF h k) k x)) <|
  .cons (specA_of hEE ih Tryz.func83 (by kernel_rfl) (by decide) c_tree_mapper_stmt rc_tree_mapper_stmt.enc _ (fun x => e_tree_mapper_stmt (FF h k) k x)) <|
  .cons (specA_of hEE ih Tryz.func86 (by kernel_rfl) (by decide) c_slices_Index_string rc_slices_Index_string.enc _ (fun x => e_slices_Index_string (FF h k) k x)) <|
  .cons (specA_of hEE ih Tryz.func88 (by kernel_rfl) (by decide) c_r01_long rc_r01_long.enc _ (fun x => e_r01_long (FF h k) k x)) <|
  .cons (specA_of hEE ih Tryz.func97 (by kernel_rfl) (by decide) c_tree_mapper_marks rc_tree_mapper_marks.enc _ (fun x => e_tree_mapper_marks (FF h k) k x)) <|
  .cons (specA_of hEE ih Tryz.func98 (by kernel_rfl) (by decide) c_tree_each_Field rc_tree_each_Field.enc _ (fun x => e_tree_each_Field (FF h k) k x)) <|
  .cons (specA_of hEE ih Tryz.func99 (by kernel_rfl) (by decide) c_tree_mapper_rec_1 rc_tree_mapper_rec_1.enc _ (fun x => e_tree_mapper_rec_1 (FF h k) k x)) <|
  .cons (specA_of hEE ih Tryz.func100 (by kernel_rfl) (by decide) c_tree_mapper_typ rc_tree_mapper_typ.enc _ (fun x => e_tree_mapper_typ (FF h k) k x)) <|
  .cons (specA_of hEE ih Tryz.func101 (by kernel_rfl) (by decide) c_tree_each_Param rc_tree_each_Param.enc _ (fun x => e_tree_each_Param (FF h k) k x)) <|
  .cons (specA_of hEE ih Tryz.func102 (by kernel_rfl) (by decide) c_tree_mapper_routine_1 rc_tree_mapper_routine_1.enc _ (fun x => e_tree_mapper_routine_1 (FF h k) k x)) <|
  .cons (specA_of hEE ih Tryz.func103 (by kernel_rfl) (by decide) c_tree_mapper_expr rc_tree_mapper_expr.enc _ (fun x => e_tree_mapper_expr (FF h k) k x)) <|
  .cons (specA_of hEE ih Tryz.func104 (by kernel_rfl) (by decide) c_tree_each_Expr rc_tree_each_Expr.enc _ (fun x => e_tree_each_Expr (FF h k) k x)) <|
  .cons (hh.o_by) <|
  .nil
theorem specs {h : Fam} (hh : HandOK h) : ∀ k f, SpecOK Tryz.prog EE (sp (FF h k)) f
  | 0 => look_ok (specs0 hh)
  | k + 1 => look_ok (specsS hh k (specs hh k))
end Go.Ev
end
section
open Go
namespace Go.Ev
theorem wrap_ok {n : Int} (h0 : -9223372036854775808 ≤ n) (h1 : n ≤ 9223372036854775807) : IntKind.i64.wrap n = n := by rw [IntKind.wrap_i64]; omega
theorem wrap_succ {i n : Nat} (h : i < n) (hn : n ≤ maxLen) : IntKind.i64.wrap ((i : Int) + 1) = ((i + 1 : Nat) : Int) := by
  simp only [maxLen] at hn
  rw [wrap_ok (by omega) (by omega)]
  rfl
theorem ba_beq (a b : ByteArray) : (a.toList == b.toList) = decide (a = b) := by
  rw [ByteArray.toList_eq, ByteArray.toList_eq]
  by_cases h : a = b
  · subst h; simp
  · have : a.data.toList ≠ b.data.toList := fun he => h (by cases a; cases b; simp at he; simp [he])
    have h2 : (a.data.toList == b.data.toList) = false := by simpa using this
    rw [h2, decide_eq_false h]
theorem up_ind {C : Nat → Nat → Prop} (n : Nat) (h0 : ∀ j, C (j + 1) n) (hs : ∀ j i, i < n → C j (i + 1) → C (j + 1) i) : ∀ j i, i ≤ n → n - i < j → C j i := by
  intro j
  induction j with
  | zero => intro i _ h; omega
  | succ j ih =>
    intro i hi hj
    rcases Nat.lt_or_ge i n with h | h
    · exact hs j i h (ih (i + 1) (by omega) (by omega))
    · have : i = n := by omega
      subst this
      exact h0 j
def eqG {α : Type} (d : α) (f : α → α → Option Bool) : Nat → List α → List α → Int → Int → Option Bool
  | 0, _, _, _, _ => none
  | j + 1, v0, v1, v2, v3 => (if decide (v3 < v2) = true then (if 0 ≤ v3 then (if v3 < (v1.length : Int) then (if 0 ≤ v3 then (if v3 < (v0.length : Int) then ((f (v1.getD v3.toNat d) (v0.getD v3.toNat d)).bind fun t9 => (if (!t9) = true then some false else eqG d f j v0 v1 v2 (IntKind.i64.wrap (v3 + 1)))) else none) else none) else none) else none) else some true)
end Go.Ev
end
section
namespace Go.Ev
open Go.RowKit
variable {I : Nat → Type}
inductive KD where
  | bool | str | int (k : IntKind) | sl (e : Nat) | no
  deriving DecidableEq
def kd : DV I → KD
  | .lit (.bool _) => .bool
  | .lit (.string _) => .str
  | .lit (.int k _) => .int k
  | .sl e _ => .sl e
  | _ => .no
theorem kd_bool {d : DV I} (h : kd d = .bool) : ∃ b, d = .lit (.bool b) := by
  unfold kd at h
  split at h <;> first | exact ⟨_, rfl⟩ | cases h
theorem kd_str {d : DV I} (h : kd d = .str) : ∃ b, d = .lit (.string b) := by
  unfold kd at h
  split at h <;> first | exact ⟨_, rfl⟩ | cases h
theorem kd_int {d : DV I} {k : IntKind} (h : kd d = .int k) : ∃ b, d = .lit (.int k b) := by
  unfold kd at h
  split at h <;> first | (injection h with h; subst h; exact ⟨_, rfl⟩) | cases h
theorem kd_sl {d : DV I} {e : Nat} (h : kd d = .sl e) : ∃ b, d = .sl e b := by
  unfold kd at h
  split at h <;> first | (injection h with h; subst h; exact ⟨_, rfl⟩) | cases h
def flatK (ty : Nat → Option TI) : Nat → Nat → Option (List KD)
  | 0, _ => none
  | n + 1, t => match ty t with
    | none => none
    | some ti => match ti.td with
      | .bool => some [.bool]
      | .string => some [.str]
      | .int k => some [.int k]
      | .slice e => some [.sl e]
      | .struct fs => (fs.mapM fun p => flatK ty n p.2).map List.flatten
      | _ => none
def contig (ty : Nat → Option TI) : Nat → List (Nat × Nat) → Option Nat
  | o, [] => some o
  | o, (off, t) :: r => match Nat.beq off o, ty t with
    | true, some ti => contig ty (o + ti.size) r
    | _, _ => none
def contigOk (ty : Nat → Option TI) (p : Nat × TI) : Bool := match p.2.td with
  | .struct fs => match contig ty 0 fs with
    | some o => Nat.beq o p.2.size
    | none => false
  | .slice e => match ty e with
    | some ei => Nat.blt 0 ei.size && Nat.beq p.2.size 1
    | none => false
  | .bool | .string | .int _ => Nat.beq p.2.size 1
  | _ => true
def QD (Q : (t : Nat) → I t → Prop) : DV I → Prop
  | .sl t xs => xs.length ≤ maxLen ∧ ∀ x ∈ xs, Q t x
  | .lit (.string s) => s.size ≤ maxLen
  | .lit (.int k n) => (Lit.int k n).wf = true
  | _ => True
def bkD (bk : (t : Nat) → I t → Nat) : DV I → Nat
  | .sl t xs => (xs.map (bk t)).sum + 1
  | .lit (.string s) => s.size + 1
  | _ => 1
section
variable {P : Program} {E : Env I} {H : Type} {enc : TypeId × Value → H} {w : World} {base : Nat} {spare : Nat → Bool} {held : Bool}
def allS (w : World) : Nat → Nat → Prop := fun g _ => g < w.heap.size
inductive DReps (E : Env I) (Sl : Nat → Nat → Prop) (w : World) : List Value → List (DV I) → Prop
  | nil : DReps E Sl w [] []
  | cons {v : Value} {vs : List Value} {x : DV I} {xs : List (DV I)} (h : DRep E Sl w v x) (hs : DReps E Sl w vs xs) : DReps E Sl w (v :: vs) (x :: xs)
theorem DReps.append {Sl : Nat → Nat → Prop} {us vs : List Value} {xs ys : List (DV I)} (h : DReps E Sl w us xs) (k : DReps E Sl w vs ys) : DReps E Sl w (us ++ vs) (xs ++ ys) := by
  induction h with
  | nil => exact k
  | cons h _ ih => exact .cons h ih
theorem DReps.len {Sl : Nat → Nat → Prop} {us : List Value} {xs : List (DV I)} (h : DReps E Sl w us xs) : us.length = xs.length := by
  induction h with
  | nil => rfl
  | cons _ _ ih => simp [ih]
theorem DReps.get {Sl : Nat → Nat → Prop} {us : List Value} {xs : List (DV I)} (h : DReps E Sl w us xs) : ∀ (j : Nat) (y : DV I), xs[j]? = some y → ∃ u, us[j]? = some u ∧ DRep E Sl w u y := by
  induction h with
  | nil => intro j y h; simp at h
  | cons h _ ih =>
    intro j y hj
    cases j with
    | zero => simp at hj; subst hj; exact ⟨_, by simp, h⟩
    | succ j => simp at hj; simpa using ih j y hj
theorem DReps.preps {Sl : Nat → Nat → Prop} {X0 : Nat → Prop} {B0 : Nat} {us : List Value} {xs : List (DV I)} (h : DReps E Sl w us xs) : PReps E Sl w X0 B0 us (xs.map .d) [] [] := by
  induction h with
  | nil => exact .nil
  | cons h _ ih => exact .cons _ _ _ _ [] [] [] [] (.d _ _ h) ih
structure Meas (E : Env I) (Q : (t : Nat) → I t → Prop) (bk : (t : Nat) → I t → Nat) (ub : DataW H → Nat) (rows : List Nat) : Prop where
  contig : ∀ t ti, E.ty t = some ti → contigOk E.ty (t, ti) = true
  rowsIn : ∀ t ti e, E.ty t = some ti → ti.td = .slice e → flatK E.ty 9 t ≠ none → e ∈ rows
  rowsK : ∀ e ∈ rows, ∃ l, flatK E.ty 9 e = some l
  full : ∀ e ∈ rows, ∀ ds, flatK E.ty 9 e = some (ds.map kd) → ∃ x : I e, E.row e x = ds
  q : ∀ e ∈ rows, ∀ (x : I e), (∀ d ∈ E.row e x, QD Q d) → Q e x
  b : ∀ e ∈ rows, ∀ (x : I e) ti, E.ty e = some ti → bk e x ≤ ((E.row e x).map (bkD bk)).sum + (match ti.td with | .struct _ => 1 | _ => 0)
  nil : 1 ≤ ub .nil
  lit : ∀ l, 1 ≤ ub (.lit l)
  str : ∀ l, l.length + 1 ≤ ub (.lit (.string l))
  sl : ∀ a b, (a.map ub).sum + 1 ≤ ub (.slice a b)
  agg : ∀ a, (a.map ub).sum + 1 ≤ ub (.agg a)
theorem mapM_mono {α β : Type} {f g : α → Option β} : ∀ {l : List α} {r : List β}, l.mapM f = some r → (∀ a ∈ l, ∀ b, f a = some b → g a = some b) → l.mapM g = some r
  | [], r, h, _ => by simpa using h
  | a :: l, r, h, hg => by
    simp only [List.mapM_cons, Option.bind_eq_bind, Option.pure_def] at h ⊢
    obtain ⟨b, h1, h⟩ := Option.bind_eq_some_iff.1 h
    obtain ⟨bs, h2, h3⟩ := Option.bind_eq_some_iff.1 h
    rw [hg a List.mem_cons_self b h1, mapM_mono h2 (fun x hx => hg x (List.mem_cons_of_mem _ hx))]
    exact h3
theorem flatK_mono {ty : Nat → Option TI} : ∀ (n t : Nat) (l : List KD), flatK ty n t = some l → flatK ty (n + 1) t = some l
  | 0, t, l, h => by cases h
  | n + 1, t, l, h => by
    unfold flatK at h ⊢
    cases ht : ty t with
    | none => rw [ht] at h; cases h
    | some ti =>
      rw [ht] at h
      simp only at h ⊢
      cases htd : ti.td with
      | struct fs =>
        rw [htd] at h
        simp only at h ⊢
        obtain ⟨ls, h1, h2⟩ := Option.map_eq_some_iff.1 h
        rw [mapM_mono h1 (fun p _ b hb => flatK_mono n p.2 b hb)]
        simp [h2]
      | _ => rw [htd] at h; exact h
theorem cellsOf_size (hE : EnvOK P E) {t : Nat} {ti : TI} (h : E.ty t = some ti) : P.cellsOf t = ti.size := by
  have := hE.size h
  unfold Program.cellsOf
  cases hq : P.info? t with
  | none => rw [hq] at this; cases this
  | some i => rw [hq] at this; simpa using this
def Rdd (E : Env I) (Q : (t : Nat) → I t → Prop) (bk : (t : Nat) → I t → Nat) (w : World) (cs : List Value) (n : Nat) (l : List KD) : Prop :=
  ∃ ds, DReps E (allS w) w cs ds ∧ ds.map kd = l ∧ (∀ d ∈ ds, QD Q d) ∧ (ds.map (bkD bk)).sum ≤ n
theorem rd_fields (hE : EnvOK P E) {Q : (t : Nat) → I t → Prop} {bk : (t : Nat) → I t → Nat} {ub : DataW H → Nat}
    (f : Nat → List Value → Option (DataW H × List MemPlace)) (hf : ∀ t ti cs y l, E.ty t = some ti → flatK E.ty 9 t = some l → f t cs = some y → Rdd E Q bk w cs (ub y.1) l) :
    ∀ (fs : List (Nat × Nat)) (o : Nat) (cs : List Value) (ys : List (DataW H × List MemPlace)) (ls : List (List KD)) (e : Nat), contig E.ty o fs = some e → cs.length = e →
      fs.mapM (fun p => f p.2 ((cs.drop p.1).take (P.cellsOf p.2))) = some ys → fs.mapM (fun p => flatK E.ty 9 p.2) = some ls → Rdd E Q bk w (cs.drop o) ((ys.map fun y => ub y.1).sum) ls.flatten
  | [], o, cs, ys, ls, e, hc, hl, h1, h2 => by
    simp only [contig, Option.some.injEq] at hc
    simp only [List.mapM_nil, Option.pure_def, Option.some.injEq] at h1 h2
    subst h1; subst h2
    refine ⟨[], ?_, rfl, fun d hd => (by cases hd), Nat.le_refl _⟩
    rw [List.drop_eq_nil_of_le (by omega)]
    exact .nil
  | (off, t) :: fs, o, cs, ys, ls, e, hc, hl, h1, h2 => by
    simp only [contig] at hc
    split at hc
    · rename_i ti hoff ht
      have hoff := Nat.eq_of_beq_eq_true hoff
      subst hoff
      simp only [List.mapM_cons, Option.bind_eq_bind, Option.pure_def] at h1 h2
      obtain ⟨y, h11, h1⟩ := Option.bind_eq_some_iff.1 h1
      obtain ⟨ys', h12, h13⟩ := Option.bind_eq_some_iff.1 h1
      obtain ⟨l, h21, h2⟩ := Option.bind_eq_some_iff.1 h2
      obtain ⟨ls', h22, h23⟩ := Option.bind_eq_some_iff.1 h2
      injection h13 with h13
      injection h23 with h23
      subst h13; subst h23
      obtain ⟨ds, a1, a2, a3, a4⟩ := hf t ti _ y l ht h21 h11
      obtain ⟨es, b1, b2, b3, b4⟩ := rd_fields hE f hf fs (off + ti.size) cs ys' ls' e hc hl h12 h22
      rw [cellsOf_size hE ht] at a1
      refine ⟨ds ++ es, ?_, by simp [a2, b2], fun d hd => ?_, ?_⟩
      · have := a1.append b1
        rwa [← List.drop_drop, List.take_append_drop] at this
      · rcases List.mem_append.1 hd with hd | hd
        · exact a3 d hd
        · exact b3 d hd
      · simp only [List.map_append, List.sum_append, List.map_cons, List.sum_cons]
        omega
    · cases hc
theorem trod_bool {t : TypeId} {fuel : Nat} {cs : List Value} {x : DataW H × List MemPlace} (ht : P.underlying t = some .bool) (h : DataW.trod enc P w base spare held fuel t cs = some x) : ∃ b, cs = [.bool b] ∧ x = (.lit (.bool b), []) := by
  cases fuel with
  | zero => simp [DataW.trod] at h
  | succ n =>
    unfold DataW.trod at h
    rw [ht] at h
    split at h <;> simp_all
theorem trod_struct {t : TypeId} {fuel : Nat} {fs : Array Field} {cs : List Value} {x : DataW H × List MemPlace} (ht : P.underlying t = some (.struct fs)) (h : DataW.trod enc P w base spare held fuel t cs = some x) :
    ∃ n xs, fuel = n + 1 ∧ cs.length = P.cellsOf t ∧ (fs.toList.mapM fun f => DataW.trod enc P w base spare held n f.type ((cs.drop f.offset).take (P.cellsOf f.type))) = some xs ∧ x.1 = .agg (xs.map (·.1)) := by
  cases fuel with
  | zero => simp [DataW.trod] at h
  | succ n =>
    unfold DataW.trod at h
    rw [ht] at h
    simp only at h
    split at h
    · rename_i hl
      obtain ⟨xs, h1, h2⟩ := Option.map_eq_some_iff.1 h
      exact ⟨n, xs, rfl, hl, h1, by rw [← h2]⟩
    · cases h
theorem add_spot {a : Addr} {u : Value} (h : w.cell? a = some u) : a = ⟨a.block, a.off, none⟩ := by
  obtain ⟨b, o, sp⟩ := a
  cases sp with
  | none => rfl
  | some q =>
    exfalso
    unfold World.cell? at h
    split at h
    · simp at h
    · cases h
theorem rd (hE : EnvOK P E) {Q : (t : Nat) → I t → Prop} {bk : (t : Nat) → I t → Nat} {ub : DataW H → Nat} {rows : List Nat} (m : Meas E Q bk ub rows) :
    ∀ (n t : Nat) (ti : TI) (cs : List Value) (y : DataW H × List MemPlace) (l : List KD), E.ty t = some ti → flatK E.ty 9 t = some l → DataW.trod enc P w base spare held n t cs = some y →
      Rdd E Q bk w cs (ub y.1 - (match ti.td with | .struct _ => 1 | _ => 0)) l ∧ (match ti.td with | .struct _ => 1 | _ => 0) ≤ ub y.1 ∧ cs.length = ti.size
  | 0, t, ti, cs, y, l, ht, hl, h => by simp [DataW.trod] at h
  | n + 1, t, ti, cs, y, l, ht, hl, h => by
    obtain ⟨d, hd, hdt⟩ := hE.desc ht
    have hcont := m.contig t ti ht
    have hl0 := hl
    unfold flatK at hl
    rw [ht] at hl
    simp only at hl
    have one : ∀ {v : Value} {x : DV I}, cs = [v] → DRep E (allS w) w v x → QD Q x → bkD bk x ≤ ub y.1 → l = [kd x] → ti.size = 1 → Rdd E Q bk w cs (ub y.1 - 0) l ∧ 0 ≤ ub y.1 ∧ cs.length = ti.size := by
      intro v x hcs hr hq hb hk hs
      refine ⟨⟨[x], ?_, ?_, ?_, ?_⟩, Nat.zero_le _, ?_⟩
      · rw [hcs]; exact .cons hr .nil
      · rw [hk]; rfl
      · intro d hd; rw [List.mem_singleton] at hd; rw [hd]; exact hq
      · simpa using hb
      · rw [hcs, hs]; rfl
    cases htd : ti.td with
    | bool =>
      rw [htd] at hl hdt
      simp only [Option.some.injEq] at hl
      have hsz : ti.size = 1 := by simp only [contigOk, htd] at hcont; exact Nat.eq_of_beq_eq_true hcont
      have hd' : P.underlying t = some .bool := by rw [hd]; cases d <;> simp [tdOf] at hdt; rfl
      obtain ⟨b, rfl, rfl⟩ := trod_bool hd' h
      exact one (x := .lit (.bool b)) rfl (.lit _ rfl) trivial (m.lit _) hl.symm hsz
    | string =>
      rw [htd] at hl hdt
      simp only [Option.some.injEq] at hl
      have hsz : ti.size = 1 := by simp only [contigOk, htd] at hcont; exact Nat.eq_of_beq_eq_true hcont
      have hd' : P.underlying t = some .string := by rw [hd]; cases d <;> simp [tdOf] at hdt; rfl
      obtain ⟨b, rfl, rfl, hb⟩ := DataW.trod_string hd' h
      exact one (x := .lit (.string b)) rfl (.lit _ rfl) hb (by have := m.str b.data.toList; simpa [bkD] using this) hl.symm hsz
    | int k =>
      rw [htd] at hl hdt
      simp only [Option.some.injEq] at hl
      have hsz : ti.size = 1 := by simp only [contigOk, htd] at hcont; exact Nat.eq_of_beq_eq_true hcont
      have hd' : P.underlying t = some (.int k) := by
        rw [hd]
        cases d <;> simp [tdOf] at hdt
        rw [hdt]
      obtain ⟨b, rfl, rfl, hb⟩ := DataW.trod_int hd' h
      exact one (x := .lit (.int k b)) rfl (.lit _ rfl) hb (m.lit _) hl.symm hsz
    | other => rw [htd] at hl; cases hl
    | array a b => rw [htd] at hl; cases hl
    | struct fs =>
      rw [htd] at hl hdt
      simp only at hl
      obtain ⟨ls, h1, h2⟩ := Option.map_eq_some_iff.1 hl
      have : ∃ fa : Array Field, d = .struct fa ∧ fa.toList.map (fun f => (f.offset, f.type)) = fs := by
        cases d <;> simp [tdOf] at hdt
        exact ⟨_, rfl, hdt⟩
      obtain ⟨fa, rfl, hfs⟩ := this
      obtain ⟨n', xs, hn, hcl, hm, hy⟩ := trod_struct hd h
      have hn : n = n' := by omega
      subst hn
      rw [cellsOf_size hE ht] at hcl
      simp only [contigOk, htd] at hcont
      split at hcont
      · rename_i e he
        have he' := Nat.eq_of_beq_eq_true hcont
        have hmm : fs.mapM (fun p => (fun t cs => DataW.trod enc P w base spare held n t cs) p.2 ((cs.drop p.1).take (P.cellsOf p.2))) = some xs := by
          rw [← hfs, List.mapM_map]
          exact hm
        have h9 : fs.mapM (fun p => flatK E.ty 9 p.2) = some ls := mapM_mono h1 fun p _ b hb => flatK_mono 8 p.2 b hb
        have key := rd_fields (Q := Q) (bk := bk) (ub := ub) (w := w) hE (fun t cs => DataW.trod enc P w base spare held n t cs) (fun t ti cs y l ht hl h => by
          obtain ⟨⟨ds, a1, a2, a3, a4⟩, _, _⟩ := rd hE m n t ti cs y l ht hl h
          exact ⟨ds, a1, a2, a3, by omega⟩) fs 0 cs xs ls e he (by rw [hcl, he']) hmm h9
        obtain ⟨ds, b1, b2, b3, b4⟩ := key
        have hub := m.agg (xs.map (·.1))
        rw [List.map_map] at hub
        rw [hy]
        refine ⟨⟨ds, by simpa using b1, by rw [b2, h2], b3, ?_⟩, by simp only; omega, hcl⟩
        have : (xs.map (ub ∘ fun x => x.1)) = xs.map fun y => ub y.1 := rfl
        rw [this] at hub
        simp only
        omega
      · cases hcont
    | slice e =>
      rw [htd] at hl hdt
      simp only [Option.some.injEq] at hl
      have hd' : P.underlying t = some (.slice e) := by
        rw [hd]
        cases d <;> simp [tdOf] at hdt
        rw [hdt]
      have her : e ∈ rows := m.rowsIn t ti e ht htd (by rw [hl0]; simp)
      obtain ⟨le, hle⟩ := m.rowsK e her
      simp only [contigOk, htd] at hcont
      split at hcont
      · rename_i ei hei
        rw [Bool.and_eq_true] at hcont
        have hpos : 0 < ei.size := by have := hcont.1; simp [Nat.blt] at this; omega
        have hcof := cellsOf_size hE hei
        have hsz : ti.size = 1 := Nat.eq_of_beq_eq_true hcont.2
        rcases DataW.trod_slice hd' h with ⟨rfl, rfl⟩ | ⟨a, len, cap, elems, rest, n', hn, rfl, rfl, hb, hlc, hcm, hel, hget, _, _⟩
        · exact one (x := .sl e []) rfl (.sl e [] none 0 0 0 0 (fun _ => undef) rfl (Nat.le_refl _) (by omega) (by omega) (by simp) (by simp)) ⟨Nat.zero_le _, by simp⟩ (by simpa [bkD] using m.nil) hl.symm hsz
        · have hn : n = n' := by omega
          subst hn
          have each : ∀ i, i < len → ∃ (x : I e) (cs' : List Value), DReps E (allS w) w cs' (E.row e x) ∧ Q e x ∧ cs'.length = ei.size ∧ (∀ j u, cs'[j]? = some u → w.cell? (a.add (i * ei.size + j)) = some u) ∧ ∃ y', elems[i]? = some y' ∧ bk e x ≤ ub y'.1 := by
            intro i hi
            have h1 := hget i hi
            rw [List.getElem?_eq_getElem (by omega)] at h1
            obtain ⟨cs', hc, ht'⟩ := Option.bind_eq_some_iff.1 h1
            obtain ⟨⟨ds, a1, a2, a3, a4⟩, a5, a6⟩ := rd hE m n e ei cs' _ le hei hle ht'
            obtain ⟨x, hx⟩ := m.full e her ds (by rw [hle, a2])
            obtain ⟨_, hcl, hcell⟩ := World.cells?_some hc
            refine ⟨x, cs', by rw [hx]; exact a1, m.q e her x (by rw [hx]; exact a3), a6, fun j u hu => ?_, _, List.getElem?_eq_getElem (by omega), ?_⟩
            · have hj : j < P.cellsOf e := by rw [← hcl]; exact (List.getElem?_eq_some_iff.1 hu).1
              rw [← hu, ← hcell j hj, Addr.add_add, hcof]
            · have := m.b e her x ei hei
              rw [hx] at this
              omega
          have pick : ∀ q, q ≤ len → ∃ xs : List (I e), xs.length = q ∧ (∀ x ∈ xs, Q e x) ∧ (xs.map (bk e)).sum ≤ ((elems.take q).map fun y => ub y.1).sum ∧
              ∀ i x, xs[i]? = some x → ∃ cs', DReps E (allS w) w cs' (E.row e x) ∧ cs'.length = ei.size ∧ ∀ j u, cs'[j]? = some u → w.cell? (a.add (i * ei.size + j)) = some u := by
            intro q
            induction q with
            | zero => intro _; exact ⟨[], rfl, by simp, by simp, fun j p hj => by simp at hj⟩
            | succ q ih =>
              intro hq
              obtain ⟨xs, hxl, hxo, hxs, hx⟩ := ih (by omega)
              obtain ⟨x, cs', k1, k2, k3, k4, y', k5, k6⟩ := each q (by omega)
              refine ⟨xs ++ [x], by simp [hxl], ?_, ?_, fun j p hj => ?_⟩
              · intro z hz
                rcases List.mem_append.1 hz with hz | hz
                · exact hxo z hz
                · rw [List.mem_singleton.1 hz]; exact k2
              · rw [List.take_add_one, k5]
                simp only [Option.toList_some, List.map_append, List.sum_append, List.map_cons, List.map_nil, List.sum_cons, List.sum_nil]
                omega
              · rcases Nat.lt_or_ge j xs.length with hlt | hge
                · rw [List.getElem?_append_left hlt] at hj
                  exact hx j p hj
                · have hj' : j = xs.length := by
                    have := (List.getElem?_eq_some_iff.1 hj).1
                    rw [List.length_append, List.length_singleton] at this
                    omega
                  subst hj'
                  have : x = p := by simpa using hj
                  subst this
                  rw [hxl]
                  exact ⟨cs', k1, k3, k4⟩
          obtain ⟨xs, hxl, hxo, hxs, hx⟩ := pick len (Nat.le_refl _)
          have htk : elems.take len = elems := List.take_of_length_le (by omega)
          rw [htk] at hxs
          have hsp : 0 < len → a = ⟨a.block, a.off, none⟩ := by
            intro h0
            obtain ⟨x, cs', _, _, k3, k4, _⟩ := each 0 h0
            have : 0 < cs'.length := by rw [k3]; exact hpos
            have h0 := k4 0 cs'[0] (List.getElem?_eq_getElem this)
            rw [Nat.zero_mul, Nat.zero_add] at h0
            exact add_spot (by simpa [Addr.add] using h0)
          have cellAt : ∀ i x j y, xs[i]? = some x → (E.row e x)[j]? = some y → ∃ u, w.cell? ⟨a.block, a.off + (i * (E.row e x).length + j), none⟩ = some u ∧ DRep E (allS w) w u y := by
            intro i x j y hi hj
            obtain ⟨cs', k1, k2, k3⟩ := hx i x hi
            obtain ⟨u, hu, hr⟩ := k1.get j y hj
            have h0 : 0 < len := by have := (List.getElem?_eq_some_iff.1 hi).1; omega
            have hc := k3 j u hu
            rw [hsp h0, add_at] at hc
            refine ⟨u, ?_, hr⟩
            rw [← k1.len, k2]
            exact hc
          refine one (x := .sl e xs) rfl (.sl e xs (some a) len cap a.block a.off (fun q => (w.cell? ⟨a.block, a.off + q, none⟩).getD undef) hxl hlc (by simp only [maxLen] at hcm; omega) (fun h0 => by rw [← hsp h0]) (fun i x j y hi hj => ?_) (fun i x j y hi hj => ?_)) ⟨by omega, hxo⟩ ?_ hl.symm hsz
          · obtain ⟨u, hu, _⟩ := cellAt i x j y hi hj
            exact ⟨by rw [hu]; rfl, cell_block hu⟩
          · obtain ⟨u, hu, hr⟩ := cellAt i x j y hi hj
            simp only [hu, Option.getD_some]
            exact hr
          · have := m.sl (elems.map (·.1)) (rest.map (·.1))
            rw [List.map_map] at this
            simp only [bkD]
            have h2 : (elems.map (ub ∘ fun x => x.1)) = elems.map fun y => ub y.1 := rfl
            rw [h2] at this
            omega
      · cases hcont
end
end Go.Ev
end

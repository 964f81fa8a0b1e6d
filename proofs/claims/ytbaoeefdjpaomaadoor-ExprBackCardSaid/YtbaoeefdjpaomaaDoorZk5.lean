/- What a proof needs: rules of walking, mirrors of functions and their plain laws. No condition. -/
import Derived.Test.YtbaoeefdjpaomaaDoorZk4
import Derived.RangeFuncLeaves
import Derived.Below
import Derived.Lib.Join
import Derived.Shelf.Strings.Builder1
import Derived.Shelf.Strings.Builder2
import Derived.Shelf.Strings.OnBuilder
import Derived.Shelf.Strconv.Atoi
import Derived.Shelf.Strconv.AtoiErrFast
import Derived.Shelf.Strconv.ParseIntEmpty
import Derived.Shelf.Strconv.AtoiFail
import Derived.Shelf.LaysM
import Derived.Shelf.Strconv.Clone
import Derived.Shelf.Strconv.SyntaxError
import Derived.Shelf.LaysC
import Derived.Shelf.Strconv.ToError
import Derived.Shelf.Strconv.Lower
import Derived.Shelf.Strconv.ParseUint10
import Derived.Shelf.Strconv.ParseUint10Empty
import Derived.Shelf.Strconv.ParseUint10Any
import Derived.Shelf.Strconv.ParseInt10
import Derived.Shelf.Strconv.AtoiLong
import Derived.Shelf.Strconv.AtoiInnerAll
import Derived.Shelf.Strconv.RangeError
import Derived.Shelf.Strconv.ToErrorRange
import Derived.Shelf.Strconv.AtoiAll
import Derived.Shelf.Strconv.ErrVarAll
import Derived.Shelf.Strings.Search1
import Derived.Shelf.Strings.Search2
import Derived.Shelf.Strings.Search3
import Derived.Shelf.Strings.Shaped
import Derived.Shelf.Bits.Mul64
import Derived.RecoverIn
import Derived.Lib.AtoiAll
import Derived.Lib.Bytealg
import Derived.Shelf.Strconv.Itoa3
set_option linter.unusedVariables false
set_option linter.unusedSimpArgs false
namespace Go.Proofs
open Go.Shelf
def Tryd.lays156_ren : Go.Shelf.Ren := ⟨fun | 156 => 37 | 165 => 45 | 166 => 46 | 169 => 47 | 240 => 65 | 241 => 66 | 276 => 79 | 277 => 80 | n => n, fun | 31 => 68 | 9 => 9 | 3 => 3 | 4 => 4 | 0 => 0 | 20 => 20 | 72 => 86 | 76 => 77 | 70 => 84 | 37 => 41 | 75 => 76 | 127 => 101 | 164 => 116 | 5 => 5 | 80 => 66 | n => n, fun | n => n⟩
theorem Tryd.lays156 : Go.Proofs.Lays.n156 Tryd.prog Tryd.lays156_ren := {
  mixed := by kernel_rfl
  f156 := Tryd.func37.trans (congrArg some (by kernel_rfl))
  f165 := Tryd.func45.trans (congrArg some (by kernel_rfl))
  f166 := Tryd.func46.trans (congrArg some (by kernel_rfl))
  f169 := Tryd.func47.trans (congrArg some (by kernel_rfl))
  f240 := Tryd.func65.trans (congrArg some (by kernel_rfl))
  f241 := Tryd.func66.trans (congrArg some (by kernel_rfl))
  f276 := Tryd.func79.trans (congrArg some (by kernel_rfl))
  f277 := Tryd.func80.trans (congrArg some (by kernel_rfl))
  t0 := Tryd.underlying0
  a0 := Tryd.isAgg0
  z0 := Tryd.sizeOf0
  v0 := Tryd.zeroValue0
  t3 := Tryd.underlying3
  a3 := Tryd.isAgg3
  z3 := Tryd.sizeOf3
  v3 := Tryd.zeroValue3
  t4 := Tryd.underlying4
  a4 := Tryd.isAgg4
  z4 := Tryd.sizeOf4
  v4 := Tryd.zeroValue4
  t9 := Tryd.underlying9
  a9 := Tryd.isAgg9
  z9 := Tryd.sizeOf9
  v9 := Tryd.zeroValue9
  t20 := Tryd.underlying20
  a20 := Tryd.isAgg20
  z20 := Tryd.sizeOf20
  v20 := Tryd.zeroValue20
  t31 := Tryd.underlying68
  a31 := Tryd.isAgg68
  z31 := Tryd.sizeOf68
  v31 := Tryd.zeroValue68
  t37 := Tryd.underlying41
  a37 := Tryd.isAgg41
  z37 := Tryd.sizeOf41
  v37 := Tryd.zeroValue41
  t70 := Tryd.underlying84
  a70 := Tryd.isAgg84
  z70 := Tryd.sizeOf84
  v70 := Tryd.zeroValue84
  t72 := Tryd.underlying86
  a72 := Tryd.isAgg86
  z72 := Tryd.sizeOf86
  v72 := Tryd.zeroValue86
  t75 := Tryd.underlying76
  a75 := Tryd.isAgg76
  z75 := Tryd.sizeOf76
  v75 := Tryd.zeroValue76
  t76 := Tryd.underlying77
  a76 := Tryd.isAgg77
  z76 := Tryd.sizeOf77
  v76 := Tryd.zeroValue77
  t127 := Tryd.underlying101
  a127 := Tryd.isAgg101
  z127 := Tryd.sizeOf101
  v127 := Tryd.zeroValue101
  t164 := Tryd.underlying116
  a164 := Tryd.isAgg116
  z164 := Tryd.sizeOf116
  v164 := Tryd.zeroValue116 }
theorem Tryd.Builder_Extra_156 : Builder.Extra Tryd.prog Tryd.lays156_ren := {
  sizeBuilder := by kernel_rfl
  liesBuilder := by kernel_rfl
  t5 := Tryd.underlying5
  a5 := Tryd.isAgg5
  z5 := Tryd.sizeOf5
  v5 := Tryd.zeroValue5
  infoByte := by kernel_rfl
  cellsByte := by kernel_rfl
  sizeByte := by kernel_rfl
  neB5 := by decide }
open Go.RowKit in
theorem Tryd.strings_Join_none (a : Option Addr) (c : Nat) (sep : ByteArray) (w : World) :
    Calls Tryd.prog 37 #[.slice a 0 c, .string sep] w fun e w' => e = .returned (.string ⟨#[]⟩) ∧ w' = w := Any.strings_Join_none Tryd.lays156 Tryd.Builder_Extra_156 a c sep w
open Go.RowKit in
theorem Tryd.strings_Join (bk o c : Nat) (xs : List ByteArray) (sep : ByteArray) (w : World) (hcells : ∀ (j : Nat) x, xs[j]? = some x → w.cell? ⟨bk, o + j, none⟩ = some (.string x)) (hbk : bk < w.heap.size) (hN : xs.length ≤ 140737488355328) (hcap : xs.length ≤ c) (hlen : (Lib.join (xs.map (·.data.toList)) sep.data.toList).length ≤ 140737488355328) :
    Calls Tryd.prog 37 #[.slice (some ⟨bk, o, none⟩) xs.length c, .string sep] w fun e w' => e = .returned (.string ⟨(Lib.join (xs.map (·.data.toList)) sep.data.toList).toArray⟩) ∧ Below w.heap.size w w' := Any.strings_Join Tryd.lays156 Tryd.Builder_Extra_156 bk o c xs sep w hcells hbk hN hcap hlen
end Go.Proofs
namespace Go.Proofs
open Go.Shelf
def Tryd.laysM171_ren : Go.Shelf.Ren := ⟨fun | 171 => 21 | 243 => 27 | 246 => 38 | 283 => 48 | 284 => 49 | 285 => 50 | 286 => 51 | 129 => 68 | 317 => 67 | 318 => 69 | 319 => 70 | 320 => 71 | 337 => 81 | 338 => 82 | n => n, fun | 3 => 3 | 9 => 9 | 2 => 2 | 4 => 4 | 171 => 88 | 0 => 0 | 53 => 57 | 37 => 41 | 5 => 5 | 173 => 91 | 212 => 103 | 51 => 104 | 20 => 20 | 213 => 105 | 46 => 95 | 232 => 126 | 233 => 127 | n => n, fun | 17 => 3 | 18 => 6 | 19 => 7 | n => n⟩
theorem Tryd.laysM171 : Go.Proofs.LaysM.n171 Tryd.prog Tryd.laysM171_ren := {
  mixed := by kernel_rfl
  f129 := Tryd.func68.trans (congrArg some (by kernel_rfl))
  f171 := Tryd.func21.trans (congrArg some (by kernel_rfl))
  f243 := Tryd.func27.trans (congrArg some (by kernel_rfl))
  f246 := Tryd.func38.trans (congrArg some (by kernel_rfl))
  f283 := Tryd.func48.trans (congrArg some (by kernel_rfl))
  f284 := Tryd.func49.trans (congrArg some (by kernel_rfl))
  f285 := Tryd.func50.trans (congrArg some (by kernel_rfl))
  f286 := Tryd.func51.trans (congrArg some (by kernel_rfl))
  f317 := Tryd.func67.trans (congrArg some (by kernel_rfl))
  f318 := Tryd.func69.trans (congrArg some (by kernel_rfl))
  f319 := Tryd.func70.trans (congrArg some (by kernel_rfl))
  f320 := Tryd.func71.trans (congrArg some (by kernel_rfl))
  f337 := Tryd.func81.trans (congrArg some (by kernel_rfl))
  f338 := Tryd.func82.trans (congrArg some (by kernel_rfl))
  t0 := Tryd.underlying0
  a0 := Tryd.isAgg0
  z0 := Tryd.sizeOf0
  v0 := Tryd.zeroValue0
  t2 := Tryd.underlying2
  a2 := Tryd.isAgg2
  z2 := Tryd.sizeOf2
  v2 := Tryd.zeroValue2
  t3 := Tryd.underlying3
  a3 := Tryd.isAgg3
  z3 := Tryd.sizeOf3
  v3 := Tryd.zeroValue3
  t4 := Tryd.underlying4
  a4 := Tryd.isAgg4
  z4 := Tryd.sizeOf4
  v4 := Tryd.zeroValue4
  t5 := Tryd.underlying5
  a5 := Tryd.isAgg5
  z5 := Tryd.sizeOf5
  v5 := Tryd.zeroValue5
  t9 := Tryd.underlying9
  a9 := Tryd.isAgg9
  z9 := Tryd.sizeOf9
  v9 := Tryd.zeroValue9
  t20 := Tryd.underlying20
  a20 := Tryd.isAgg20
  z20 := Tryd.sizeOf20
  v20 := Tryd.zeroValue20
  t37 := Tryd.underlying41
  a37 := Tryd.isAgg41
  z37 := Tryd.sizeOf41
  v37 := Tryd.zeroValue41
  t46 := Tryd.underlying95
  a46 := Tryd.isAgg95
  z46 := Tryd.sizeOf95
  v46 := Tryd.zeroValue95
  t51 := Tryd.underlying104
  a51 := Tryd.isAgg104
  z51 := Tryd.sizeOf104
  v51 := Tryd.zeroValue104
  t53 := Tryd.underlying57
  a53 := Tryd.isAgg57
  z53 := Tryd.sizeOf57
  v53 := Tryd.zeroValue57
  t171 := Tryd.underlying88
  a171 := Tryd.isAgg88
  z171 := Tryd.sizeOf88
  v171 := Tryd.zeroValue88
  t173 := Tryd.underlying91
  a173 := Tryd.isAgg91
  z173 := Tryd.sizeOf91
  v173 := Tryd.zeroValue91
  t212 := Tryd.underlying103
  a212 := Tryd.isAgg103
  z212 := Tryd.sizeOf103
  v212 := Tryd.zeroValue103
  t213 := Tryd.underlying105
  a213 := Tryd.isAgg105
  z213 := Tryd.sizeOf105
  t232 := Tryd.underlying126
  a232 := Tryd.isAgg126
  z232 := Tryd.sizeOf126
  v232 := Tryd.zeroValue126
  t233 := Tryd.underlying127
  a233 := Tryd.isAgg127
  z233 := Tryd.sizeOf127
  v233 := Tryd.zeroValue127
  g17 := by kernel_rfl
  g18 := by kernel_rfl
  g19 := by kernel_rfl
  i0 := by kernel_rfl
  i2 := by kernel_rfl
  i3 := by kernel_rfl
  i4 := by kernel_rfl
  i5 := by kernel_rfl
  i9 := by kernel_rfl
  i20 := by kernel_rfl
  i37 := by kernel_rfl
  i46 := by kernel_rfl
  i51 := by kernel_rfl
  i53 := by kernel_rfl
  i171 := by kernel_rfl
  i173 := by kernel_rfl
  i212 := by kernel_rfl
  i232 := by kernel_rfl
  i233 := by kernel_rfl
  m17 := by kernel_rfl
  m18 := by kernel_rfl
  m19 := by kernel_rfl }
def Tryd.laysC172_ren : Go.Shelf.Ren := ⟨fun | 172 => 40 | 244 => 56 | 245 => 57 | 247 => 74 | 279 => 75 | 280 => 76 | 281 => 77 | 282 => 78 | 287 => 83 | 316 => 84 | 171 => 21 | 205 => 85 | 321 => 86 | 322 => 87 | 243 => 27 | 246 => 38 | 283 => 48 | 284 => 49 | 285 => 50 | 286 => 51 | 129 => 68 | 317 => 67 | 318 => 69 | 319 => 70 | 320 => 71 | 337 => 81 | 338 => 82 | n => n, fun | 9 => 9 | 3 => 3 | 75 => 76 | 76 => 77 | 4 => 4 | 5 => 5 | 167 => 110 | 37 => 41 | 0 => 0 | 85 => 111 | 2 => 2 | 168 => 113 | 53 => 57 | 175 => 120 | 46 => 95 | 210 => 124 | 127 => 101 | 145 => 132 | 143 => 130 | 21 => 21 | 171 => 88 | 173 => 91 | 212 => 103 | 51 => 104 | 20 => 20 | 213 => 105 | 232 => 126 | 233 => 127 | 80 => 66 | n => n, fun | 15 => 4 | 16 => 5 | 17 => 3 | 18 => 6 | 19 => 7 | n => n⟩
theorem Tryd.laysC172 : Go.Proofs.LaysC.n172 Tryd.prog Tryd.laysC172_ren := {
  mixed := by kernel_rfl
  f129 := Tryd.func68.trans (congrArg some (by kernel_rfl))
  f171 := Tryd.func21.trans (congrArg some (by kernel_rfl))
  f172 := Tryd.func40.trans (congrArg some (by kernel_rfl))
  f205 := Tryd.func85.trans (congrArg some (by kernel_rfl))
  f243 := Tryd.func27.trans (congrArg some (by kernel_rfl))
  f244 := Tryd.func56.trans (congrArg some (by kernel_rfl))
  f245 := Tryd.func57.trans (congrArg some (by kernel_rfl))
  f246 := Tryd.func38.trans (congrArg some (by kernel_rfl))
  f247 := Tryd.func74.trans (congrArg some (by kernel_rfl))
  f279 := Tryd.func75.trans (congrArg some (by kernel_rfl))
  f280 := Tryd.func76.trans (congrArg some (by kernel_rfl))
  f281 := Tryd.func77.trans (congrArg some (by kernel_rfl))
  f282 := Tryd.func78.trans (congrArg some (by kernel_rfl))
  f283 := Tryd.func48.trans (congrArg some (by kernel_rfl))
  f284 := Tryd.func49.trans (congrArg some (by kernel_rfl))
  f285 := Tryd.func50.trans (congrArg some (by kernel_rfl))
  f286 := Tryd.func51.trans (congrArg some (by kernel_rfl))
  f287 := Tryd.func83.trans (congrArg some (by kernel_rfl))
  f316 := Tryd.func84.trans (congrArg some (by kernel_rfl))
  f317 := Tryd.func67.trans (congrArg some (by kernel_rfl))
  f318 := Tryd.func69.trans (congrArg some (by kernel_rfl))
  f319 := Tryd.func70.trans (congrArg some (by kernel_rfl))
  f320 := Tryd.func71.trans (congrArg some (by kernel_rfl))
  f321 := Tryd.func86.trans (congrArg some (by kernel_rfl))
  f322 := Tryd.func87.trans (congrArg some (by kernel_rfl))
  f337 := Tryd.func81.trans (congrArg some (by kernel_rfl))
  f338 := Tryd.func82.trans (congrArg some (by kernel_rfl))
  t0 := Tryd.underlying0
  a0 := Tryd.isAgg0
  z0 := Tryd.sizeOf0
  v0 := Tryd.zeroValue0
  t2 := Tryd.underlying2
  a2 := Tryd.isAgg2
  z2 := Tryd.sizeOf2
  v2 := Tryd.zeroValue2
  t3 := Tryd.underlying3
  a3 := Tryd.isAgg3
  z3 := Tryd.sizeOf3
  v3 := Tryd.zeroValue3
  t4 := Tryd.underlying4
  a4 := Tryd.isAgg4
  z4 := Tryd.sizeOf4
  v4 := Tryd.zeroValue4
  t5 := Tryd.underlying5
  a5 := Tryd.isAgg5
  z5 := Tryd.sizeOf5
  v5 := Tryd.zeroValue5
  t9 := Tryd.underlying9
  a9 := Tryd.isAgg9
  z9 := Tryd.sizeOf9
  v9 := Tryd.zeroValue9
  t20 := Tryd.underlying20
  a20 := Tryd.isAgg20
  z20 := Tryd.sizeOf20
  v20 := Tryd.zeroValue20
  t21 := Tryd.underlying21
  a21 := Tryd.isAgg21
  z21 := Tryd.sizeOf21
  v21 := Tryd.zeroValue21
  t37 := Tryd.underlying41
  a37 := Tryd.isAgg41
  z37 := Tryd.sizeOf41
  v37 := Tryd.zeroValue41
  t46 := Tryd.underlying95
  a46 := Tryd.isAgg95
  z46 := Tryd.sizeOf95
  v46 := Tryd.zeroValue95
  t51 := Tryd.underlying104
  a51 := Tryd.isAgg104
  z51 := Tryd.sizeOf104
  v51 := Tryd.zeroValue104
  t53 := Tryd.underlying57
  a53 := Tryd.isAgg57
  z53 := Tryd.sizeOf57
  v53 := Tryd.zeroValue57
  t75 := Tryd.underlying76
  a75 := Tryd.isAgg76
  z75 := Tryd.sizeOf76
  v75 := Tryd.zeroValue76
  t76 := Tryd.underlying77
  a76 := Tryd.isAgg77
  z76 := Tryd.sizeOf77
  v76 := Tryd.zeroValue77
  t85 := Tryd.underlying111
  a85 := Tryd.isAgg111
  z85 := Tryd.sizeOf111
  v85 := Tryd.zeroValue111
  t127 := Tryd.underlying101
  a127 := Tryd.isAgg101
  z127 := Tryd.sizeOf101
  v127 := Tryd.zeroValue101
  t143 := Tryd.underlying130
  a143 := Tryd.isAgg130
  z143 := Tryd.sizeOf130
  v143 := Tryd.zeroValue130
  t145 := Tryd.underlying132
  a145 := Tryd.isAgg132
  z145 := Tryd.sizeOf132
  v145 := Tryd.zeroValue132
  t167 := Tryd.underlying110
  a167 := Tryd.isAgg110
  z167 := Tryd.sizeOf110
  v167 := Tryd.zeroValue110
  t168 := Tryd.underlying113
  a168 := Tryd.isAgg113
  z168 := Tryd.sizeOf113
  v168 := Tryd.zeroValue113
  t171 := Tryd.underlying88
  a171 := Tryd.isAgg88
  z171 := Tryd.sizeOf88
  v171 := Tryd.zeroValue88
  t173 := Tryd.underlying91
  a173 := Tryd.isAgg91
  z173 := Tryd.sizeOf91
  v173 := Tryd.zeroValue91
  t175 := Tryd.underlying120
  a175 := Tryd.isAgg120
  z175 := Tryd.sizeOf120
  v175 := Tryd.zeroValue120
  t210 := Tryd.underlying124
  a210 := Tryd.isAgg124
  z210 := Tryd.sizeOf124
  v210 := Tryd.zeroValue124
  t212 := Tryd.underlying103
  a212 := Tryd.isAgg103
  z212 := Tryd.sizeOf103
  v212 := Tryd.zeroValue103
  t213 := Tryd.underlying105
  a213 := Tryd.isAgg105
  z213 := Tryd.sizeOf105
  t232 := Tryd.underlying126
  a232 := Tryd.isAgg126
  z232 := Tryd.sizeOf126
  v232 := Tryd.zeroValue126
  t233 := Tryd.underlying127
  a233 := Tryd.isAgg127
  z233 := Tryd.sizeOf127
  v233 := Tryd.zeroValue127
  g15 := by kernel_rfl
  g16 := by kernel_rfl
  g17 := by kernel_rfl
  g18 := by kernel_rfl
  g19 := by kernel_rfl
  t80 := Tryd.underlying66
  a80 := Tryd.isAgg66
  z80 := Tryd.sizeOf66
  v80 := Tryd.zeroValue66
  i0 := by kernel_rfl
  i2 := by kernel_rfl
  i3 := by kernel_rfl
  i4 := by kernel_rfl
  i5 := by kernel_rfl
  i9 := by kernel_rfl
  i20 := by kernel_rfl
  i21 := by kernel_rfl
  i37 := by kernel_rfl
  i46 := by kernel_rfl
  i51 := by kernel_rfl
  i53 := by kernel_rfl
  i75 := by kernel_rfl
  i76 := by kernel_rfl
  i80 := by kernel_rfl
  i85 := by kernel_rfl
  i127 := by kernel_rfl
  i143 := by kernel_rfl
  i145 := by kernel_rfl
  i167 := by kernel_rfl
  i168 := by kernel_rfl
  i171 := by kernel_rfl
  i173 := by kernel_rfl
  i175 := by kernel_rfl
  i210 := by kernel_rfl
  i212 := by kernel_rfl
  i232 := by kernel_rfl
  i233 := by kernel_rfl
  m15 := by kernel_rfl
  m16 := by kernel_rfl
  m17 := by kernel_rfl
  m18 := by kernel_rfl
  m19 := by kernel_rfl
  c0 := by kernel_rfl
  c2 := by kernel_rfl
  c3 := by kernel_rfl
  c4 := by kernel_rfl
  c5 := by kernel_rfl
  c9 := by kernel_rfl
  c20 := by kernel_rfl
  c21 := by kernel_rfl
  c37 := by kernel_rfl
  c46 := by kernel_rfl
  c51 := by kernel_rfl
  c53 := by kernel_rfl
  c75 := by kernel_rfl
  c76 := by kernel_rfl
  c80 := by kernel_rfl
  c85 := by kernel_rfl
  c127 := by kernel_rfl
  c143 := by kernel_rfl
  c145 := by kernel_rfl
  c167 := by kernel_rfl
  c168 := by kernel_rfl
  c171 := by kernel_rfl
  c173 := by kernel_rfl
  c175 := by kernel_rfl
  c210 := by kernel_rfl
  c212 := by kernel_rfl
  c213 := by kernel_rfl
  c232 := by kernel_rfl
  c233 := by kernel_rfl }
def Tryd.lays144_ren : Go.Shelf.Ren := ⟨fun | 144 => 22 | 143 => 28 | 219 => 39 | 217 => 52 | 225 => 53 | 224 => 54 | 267 => 55 | 266 => 72 | 314 => 73 | n => n, fun | 9 => 9 | 4 => 4 | 3 => 3 | 5 => 5 | 46 => 95 | 146 => 108 | 51 => 104 | n => n, fun | 1 => 0 | n => n⟩
theorem Tryd.lays144 : Go.Proofs.Lays.n144 Tryd.prog Tryd.lays144_ren := {
  mixed := by kernel_rfl
  f143 := Tryd.func28.trans (congrArg some (by kernel_rfl))
  f144 := Tryd.func22.trans (congrArg some (by kernel_rfl))
  f217 := Tryd.func52.trans (congrArg some (by kernel_rfl))
  f219 := Tryd.func39.trans (congrArg some (by kernel_rfl))
  f224 := Tryd.func54.trans (congrArg some (by kernel_rfl))
  f225 := Tryd.func53.trans (congrArg some (by kernel_rfl))
  f266 := Tryd.func72.trans (congrArg some (by kernel_rfl))
  f267 := Tryd.func55.trans (congrArg some (by kernel_rfl))
  f314 := Tryd.func73.trans (congrArg some (by kernel_rfl))
  t3 := Tryd.underlying3
  a3 := Tryd.isAgg3
  z3 := Tryd.sizeOf3
  v3 := Tryd.zeroValue3
  t4 := Tryd.underlying4
  a4 := Tryd.isAgg4
  z4 := Tryd.sizeOf4
  v4 := Tryd.zeroValue4
  t5 := Tryd.underlying5
  a5 := Tryd.isAgg5
  z5 := Tryd.sizeOf5
  v5 := Tryd.zeroValue5
  t9 := Tryd.underlying9
  a9 := Tryd.isAgg9
  z9 := Tryd.sizeOf9
  v9 := Tryd.zeroValue9
  t46 := Tryd.underlying95
  a46 := Tryd.isAgg95
  z46 := Tryd.sizeOf95
  v46 := Tryd.zeroValue95
  t51 := Tryd.underlying104
  a51 := Tryd.isAgg104
  z51 := Tryd.sizeOf104
  v51 := Tryd.zeroValue104
  t146 := Tryd.underlying108
  a146 := Tryd.isAgg108
  z146 := Tryd.sizeOf108
  v146 := Tryd.zeroValue108
  g1 := by kernel_rfl }
theorem Tryd.contains_one (s : ByteArray) (c : UInt8) (w : World) :
    Calls Tryd.prog (Tryd.lays144_ren.f 144) #[.string s, .string ⟨#[c]⟩] w fun e w' => e = .returned (.bool (decide (0 ≤ Lib.indexByte s.data.toList c))) ∧ w' = w := Any.strings_Contains_one Tryd.lays144 s c w
end Go.Proofs
namespace Go.Proofs.YtbaoeefdjpaomaaDoor
section
section
variable {P : Program} {cf : Cf} {fr : Fr} {cx kp σ : Sg} {vs vs' : Nat → Value} {env env0 : Env} {w : World} {R : Type} {r : R} {N : Nd} {Q : Qs}
theorem RS_app {a b : List (Nat × Nat × Dv)} : RS P vs env (a ++ b) = RS P vs env a ++ RS P vs env b := List.map_append
theorem out_s {sh : Sh} {k : DsD sh.ds → Option R} (h : outS (addC cx kp) sh σ k = some r) (hK : Bd cx kp) : ∃ x, k x = some r ∧ ∀ (fr : Fr) env w, Rel P fr (addC cx kp) σ env w → Rel P fr cx (bldS sh x kp) env w := by
  unfold outS at h
  simp only at h
  obtain ⟨hns, h⟩ := grd_s h
  obtain ⟨x, os, h1, h0, h2, h3⟩ := gat_s (ds := sh.ds) (i := 0) (fun j a hj => by rw [Nat.zero_add]; exact hj) h
  refine ⟨x, h1, fun fr env w hR => ?_⟩
  have hR1 := rel_frzS sh.ds hR
  generalize frzS (addC cx kp) σ sh.ds = σ1 at *
  obtain ⟨hB, vs, hst⟩ := hR1
  have hst2 := h3 P vs fr env (GS P vs env fr (addC cx kp) σ1) w (fun S w hΓ => gs_lk hΓ) hst
  have hst3 := St.dropM hst2
  generalize hUe : valU (addC cx kp) σ1 sh.ds vs env = U at *
  have hvo : ∀ o, o < kp.nx → nvs vs U kp.nx o = vs o := fun o ho => if_pos ho
  have hvn : ∀ j, j < sh.ds.length → nvs vs U kp.nx (kp.nx + j) = U (0 + j) := fun j hj => by
    unfold nvs
    rw [if_neg (by omega), show kp.nx + j - kp.nx = j by omega, Nat.zero_add]
  have hb1 := fun e he => bld_ob (n0 := kp.nx) (l := sh.ds) (x := x) (o := kp.nx) e he
  have hb2 : ∀ e ∈ (bld kp.nx sh.ds x kp.nx).1, ∀ p, refO e.2.2 = some p → p < kp.nx + sh.ds.length := fun e he p hp => by
    rcases bld_ref (n0 := kp.nx) (n := sh.ds.length) (l := sh.ds) (x := x) (o := kp.nx) h0 e he p hp with h | h <;> exact h
  refine ⟨⟨fun e he => ?_, fun e he => ?_, fun e he p hp => ?_, fun e he p hp => ?_⟩, nvs vs U kp.nx, ?_⟩
  · rcases List.mem_append.1 he with he | he
    · exact (hb1 e he).2
    · exact Nat.lt_of_lt_of_le (hK.o1 e he) (Nat.le_add_right _ _)
  · exact Nat.lt_of_lt_of_le (hK.o2 e he) (Nat.le_add_right _ _)
  · rcases List.mem_append.1 he with he | he
    · rcases List.mem_append.1 he with he | he
      · exact bldN_ref (fun e he p hp => hb2 e he p hp) e he p hp
      · exact hb2 e he p hp
    · exact Nat.lt_of_lt_of_le (hK.r1 e he p hp) (Nat.le_add_right _ _)
  · exact Nat.lt_of_lt_of_le (hK.r2 e he p hp) (Nat.le_add_right _ _)
  · have e1 : OS (nvs vs U kp.nx) fr cx ((bld kp.nx sh.ds x kp.nx).2 ++ kp.ob) = dsM U sh.ds x 0 ++ (MS vs (kp.ob ++ cx.ob) ++ fr.F) := by
      show MS _ (_ ++ kp.ob) ++ (MS _ cx.ob ++ _) = _
      rw [show MS (nvs vs U kp.nx) ((bld kp.nx sh.ds x kp.nx).2 ++ kp.ob) = MS _ _ ++ MS _ _ from List.map_append, bld_ms hvn, MS_congr fun e he => hvo _ (hK.o1 e he), MS_congr (ob := cx.ob) fun e he => hvo _ (hK.o2 e he),
        show MS vs (kp.ob ++ cx.ob) = MS _ _ ++ MS _ _ from List.map_append, List.append_assoc, List.append_assoc]
    show St _ _ (OS (nvs vs U kp.nx) fr cx ((bld kp.nx sh.ds x kp.nx).2 ++ kp.ob)) _ _
    rw [e1]
    refine hst3.weak fun S w hΓ => ?_
    have hl : ∀ t, Lk P vs env S w (addC cx kp) σ1 t := gs_lk hΓ
    have hy : All S (RS P (nvs vs U kp.nx) env (bld kp.nx sh.ds x kp.nx).1) w := bld_rs (U := U) (n := sh.ds.length) (fun j hj => by rw [hvn j hj, Nat.zero_add]) h0 hvn (by rw [← hUe]; exact h2 P vs env S w hl)
    have hkc : All S (RS P vs env kp.rg ++ RS P vs env cx.rg) w := by
      have := All.left (All.right hΓ)
      rwa [show RS P vs env (addC cx kp).rg = RS P vs env kp.rg ++ RS P vs env cx.rg from List.map_append] at this
    have hn := bldN_rs hy (ns := sh.ns) fun t f hm => by
      have hg := ns_get hns t f hm
      cases f
      · split at hg <;> simp_all
        next b c h3 => exact hl t 0 _ h3
      · split at hg <;> simp_all
        next h3 => exact hl t 0 _ h3
      · split at hg <;> simp_all
        next a b h3 =>
        have := hl t 0 _ h3
        simp only [eqI, decide_eq_true_eq] at hg
        rw [hg]; exact this
      · split at hg <;> simp_all
        next a b h3 =>
        have := hl t 0 _ h3
        simp only [eqU, decide_eq_true_eq] at hg
        rw [hg]; exact this
      · next s =>
        cases hgt : get (addC cx kp) σ1 t 0 with
        | none => rw [hgt] at hg; cases hg
        | some v =>
          rw [hgt] at hg
          cases v <;> simp only [Bool.false_eq_true] at hg
          · next o =>
            cases hgs : get (addC cx kp) σ1 s 0 with
            | none => rw [hgs] at hg; cases hg
            | some v' =>
              rw [hgs] at hg
              cases v' <;> simp only [Bool.false_eq_true] at hg
              have a1 : env t = vs o := hl t 0 _ hgt
              have a2 := hl s 0 _ hgs
              have := beq_t hg
              subst this
              exact a1.trans (show env s = _ from a2).symm
          · next o _ =>
            cases hgs : get (addC cx kp) σ1 s 0 with
            | none => rw [hgs] at hg; cases hg
            | some v' =>
              rw [hgs] at hg
              cases v' <;> simp only [Bool.false_eq_true] at hg
              have a1 : env t = vs o := (hl t 0 _ hgt).1
              have a2 := (hl s 0 _ hgs).1
              have := beq_t hg
              subst this
              exact a1.trans a2.symm
          · next o =>
            cases hgs : get (addC cx kp) σ1 s 0 with
            | none => rw [hgs] at hg; cases hg
            | some v' =>
              rw [hgs] at hg
              cases v' <;> simp only [Bool.false_eq_true] at hg
              have a1 : env t = outW (vs o) := hl t 0 _ hgt
              have a2 := hl s 0 _ hgs
              have := beq_t hg
              subst this
              exact a1.trans (show env s = _ from a2).symm
      · next s f =>
        cases hgt : get (addC cx kp) σ1 t 0 with
        | none => rw [hgt] at hg; cases hg
        | some v =>
          rw [hgt] at hg
          cases v <;> simp only [Bool.false_eq_true] at hg
          next f' o _ =>
          cases hgs : get (addC cx kp) σ1 s 0 with
          | none => rw [hgs] at hg; cases hg
          | some v' =>
            rw [hgs] at hg
            cases v' <;> simp only [Bool.false_eq_true] at hg
            rw [Bool.and_eq_true] at hg
            have a1 := (hl t 0 _ hgt).1
            have a2 := (hl s 0 _ hgs).1
            have e1 := beq_t hg.1
            have e2 := beq_t hg.2
            subst e1
            subst e2
            show env t = .func (.func f) #[env s] #[]
            rw [a2]; exact a1
    show All S (RS P _ env ((bldN (bld kp.nx sh.ds x kp.nx).1 sh.ns ++ (bld kp.nx sh.ds x kp.nx).1) ++ kp.rg) ++ (RS P _ env cx.rg ++ fr.G)) w
    refine All.append ?_ (All.append ?_ (All.right (All.right hΓ)))
    · rw [RS_app, RS_app]
      refine All.append (All.append hn hy) ?_
      rw [RS_congr (fun e he p hp => hvo _ (hK.r1 e he p hp)) (fun _ _ => rfl)]
      exact All.left hkc
    · rw [RS_congr (fun e he p hp => hvo _ (hK.r2 e he p hp)) (fun _ _ => rfl)]
      exact All.right hkc
theorem tg_eqR {a t : Tg} (hp : ∀ q, t ≠ .p q) (h : tgEq a t = true) : a = t := by
  cases a <;> cases t <;> first | rfl | cases h | skip
  · rw [beq_t (show Nat.beq _ _ = true from h)]
  · exact absurd rfl (hp _)
theorem end_s {t : Tg} (hK : Bd cx kp) {a : Tg × Sh} {k : EndD a → Option R} (ht : tgEq a.1 t = true) (h : endS (addC cx kp) σ t a k = some r) : ∃ (y : EndD a) (σt : Sg), k y = some r ∧ (∀ {R' : Type} (K : Tg → Sg → Option R'), elimE kp K a y = K t σt) ∧ ∀ (fr : Fr) env w, Rel P fr (addC cx kp) σ env w → Rel P fr cx σt env w := by
  obtain ⟨τ, sh⟩ := a
  cases τ with
  | p q0 =>
    cases t with
    | p q =>
      obtain ⟨x, h1, h2⟩ := out_s (P := P) (show outS (addC cx kp) sh σ (fun x => k (q, x)) = some r from h) hK
      exact ⟨(q, x), _, h1, fun K => rfl, h2⟩
    | n => cases ht
    | x i => cases ht
    | r => cases ht
  | n =>
    obtain ⟨x, h1, h2⟩ := out_s (P := P) (show outS (addC cx kp) sh σ k = some r from h) hK
    cases t with
    | n => exact ⟨x, _, h1, fun K => rfl, h2⟩
    | _ => cases ht
  | x i =>
    obtain ⟨x, h1, h2⟩ := out_s (P := P) (show outS (addC cx kp) sh σ k = some r from h) hK
    cases t with
    | x j =>
      obtain rfl : i = j := beq_t ht
      exact ⟨x, _, h1, fun K => rfl, h2⟩
    | _ => cases ht
  | r =>
    obtain ⟨x, h1, h2⟩ := out_s (P := P) (show outS (addC cx kp) sh σ k = some r from h) hK
    cases t with
    | r => exact ⟨x, _, h1, fun K => rfl, h2⟩
    | _ => cases ht
theorem inj_s {t : Tg} (hK : Bd cx kp) : ∀ {l : List (Tg × Sh)} {k : SmD l → Option R}, injS (addC cx kp) σ t l k = some r → ∃ (y : SmD l) (σt : Sg), k y = some r ∧ (∀ {R' : Type} (K : Tg → Sg → Option R'), elimS kp K l y = K t σt) ∧ ∀ (fr : Fr) env w, Rel P fr (addC cx kp) σ env w → Rel P fr cx σt env w
  | [], k, h => by cases h
  | [a], k, h => by
    obtain ⟨ht, h⟩ := grd_s h
    obtain ⟨y, σt, h1, h2, h3⟩ := end_s (P := P) hK ht h
    exact ⟨y, σt, h1, fun K => h2 K, h3⟩
  | a :: b :: l, k, h => by
    unfold injS at h
    cases ht : tgEq a.1 t <;> rw [ht] at h
    · obtain ⟨y, σt, h1, h2, h3⟩ := inj_s hK (l := b :: l) h
      exact ⟨.inr y, σt, h1, fun K => h2 K, h3⟩
    · obtain ⟨y, σt, h1, h2, h3⟩ := end_s (P := P) hK ht h
      exact ⟨.inl y, σt, h1, fun K => h2 K, h3⟩
abbrev Qd := Exit → List Nat → Env → World → Prop
def mDef (D : Nat) : MF where
  blk k := k = D
  p _ w := w.heap[D]? = some (.deferred (some []))
  keep h _ hb := (hb D rfl).trans h
  sub h _ := h
  lt h k hk := by subst hk; exact (Array.getElem?_eq_some_iff.1 h).1
def mkD (D : Nat) : Deferred := { target := .collected D, args := #[] }
def Nd.wd (N : Nd) (Ds : List Nat) : Nd := ⟨N.n, Ds.map mkD ++ N.ds, N.rd⟩
def Fr.wd (fr : Fr) (Ds : List Nat) : Fr := ⟨fr.we, fr.Se, Ds.map mDef ++ fr.F, fr.G⟩
def liftD (N : Nd) (Q : Qd) : Exit → Act → World → Prop := fun e a w => a.tmps.size = N.n ∧ ∃ Ds : List Nat, a.defers = Ds.map mkD ++ N.ds ∧ Q e Ds (envOf a) w
def WpD (P : Program) (N : Nd) (c : Code) (Q : Qd) (Ds : List Nat) (env : Env) (w : World) : Prop :=
  ∀ a : Act, a.tmps.size = N.n → a.defers = Ds.map mkD ++ N.ds → envOf a = env → c.wpIn N.F 0 P (liftD N Q) a w
section
variable {N : Nd} {Q Q' : Qd} {Ds : List Nat}
theorem WpD_of {c : Code} (h : Wp P (N.wd Ds) c (fun e env w => Q e Ds env w) env w) : WpD P N c Q Ds env w := fun a h1 h2 h3 => wpIn_mono (h a h1 h2 h3) fun e a' w' ⟨q1, q2, q3⟩ => ⟨q1, Ds, q2, q3⟩
def thenD (K : List Nat → Env → World → Prop) (Q : Qd) : Qd
  | .normal, Ds, env, w => K Ds env w
  | e, Ds, env, w => Q e Ds env w
def blockD (id : Nat) (Q : Qd) : Qd
  | .exit id', Ds, env, w => bif Nat.beq id' id then Q .normal Ds env w else Q (.exit id') Ds env w
  | e, Ds, env, w => Q e Ds env w
def sansD (Q : Qd) : Qd
  | .goto _, _, _, _ => False
  | e, Ds, env, w => Q e Ds env w
theorem WpD_seq {x y : Code} (h : WpD P N x (thenD (WpD P N y Q) Q) Ds env w) : WpD P N (.seq x y) Q Ds env w := by
  intro a h1 h2 h3
  refine wpIn_seq (wpIn_mono (h a h1 h2 h3) ?_)
  intro e a' w' ⟨q1, Ds', q2, q3⟩
  cases e <;> first | exact q3 a' q1 q2 rfl | exact ⟨q1, Ds', q2, q3⟩
theorem WpD_mono {c : Code} (h : WpD P N c Q Ds env w) (hq : ∀ e Ds env w, Q e Ds env w → Q' e Ds env w) : WpD P N c Q' Ds env w :=
  fun a h1 h2 h3 => wpIn_mono (h a h1 h2 h3) fun e a' w' ⟨q1, Ds', q2, q3⟩ => ⟨q1, Ds', q2, hq e _ _ _ q3⟩
theorem WpD_block {id : Nat} {c : Code} (h : WpD P N c (blockD id Q) Ds env w) : WpD P N (.block id c) Q Ds env w := by
  intro a h1 h2 h3
  refine wpIn_block (wpIn_mono (h a h1 h2 h3) ?_)
  intro e a' w' ⟨q1, Ds', q2, q3⟩
  cases e with
  | exit i =>
    simp only [blockD] at q3
    simp only [Exit.inBlock]
    cases hb : Nat.beq i id
    · rw [hb] at q3
      rw [if_neg (fun e => by subst e; simp at hb)]
      exact ⟨q1, Ds', q2, q3⟩
    · rw [hb] at q3
      rw [if_pos (Nat.eq_of_beq_eq_true hb)]
      exact ⟨q1, Ds', q2, q3⟩
  | _ => exact ⟨q1, Ds', q2, q3⟩
theorem WpD_scope {c : Code} (h : WpD P N c (sansD Q) Ds env w) : WpD P N (.scope c) Q Ds env w := by
  intro a h1 h2 h3
  refine wpIn_scope (wpIn_mono (h a h1 h2 h3) ?_)
  intro e a' w' ⟨q1, Ds', q2, q3⟩
  cases e <;> first | exact ⟨q1, Ds', q2, q3⟩ | exact q3.elim
theorem WpD_loop {c : Code} {G : Type} (I : G → List Nat → Env → World → Prop) (μ : G → Nat) (g₀ : G) (h₀ : I g₀ Ds env w) (round : ∀ g Ds env w, I g Ds env w → WpD P N c (thenD (fun Ds' env' w' => ∃ g', I g' Ds' env' w' ∧ μ g' < μ g) Q) Ds env w) : WpD P N (.loop c) Q Ds env w := by
  intro a h1 h2 h3
  refine wpIn_ghost (fun g a w => a.tmps.size = N.n ∧ ∃ Ds : List Nat, a.defers = Ds.map mkD ++ N.ds ∧ I g Ds (envOf a) w) μ g₀ ⟨h1, Ds, h2, h3 ▸ h₀⟩ ?_
  intro g a w ⟨h1, Ds, h2, hI⟩
  refine wpIn_mono (round g Ds (envOf a) w hI a h1 h2 rfl) ?_
  intro e a' w' ⟨q1, Ds', q2, q3⟩
  cases e with
  | normal => obtain ⟨g', o1, o2⟩ := q3; exact ⟨g', ⟨q1, Ds', q2, o1⟩, o2⟩
  | _ => exact ⟨q1, Ds', q2, q3⟩
theorem WpD_cond_t {c : Operand} {x y : Code} (hc : ev env c = .bool true) (h : WpD P N x Q Ds env w) : WpD P N (.cond c x y) Q Ds env w :=
  fun a h1 h2 h3 => wpIn_cond_true (by rw [eval_eq, h3]; exact hc) (h a h1 h2 h3)
theorem WpD_cond_f {c : Operand} {x y : Code} (hc : ev env c = .bool false) (h : WpD P N y Q Ds env w) : WpD P N (.cond c x y) Q Ds env w :=
  fun a h1 h2 h3 => wpIn_cond_false (by rw [eval_eq, h3]; exact hc) (h a h1 h2 h3)
end
theorem filt_perm {α : Type _} (p : α → Bool) : ∀ l : List α, l.Perm ((l.filter fun a => !p a) ++ l.filter p)
  | [] => List.Perm.refl _
  | a :: l => by
    have ih := filt_perm p l
    rw [List.filter_cons, List.filter_cons]
    cases hp : p a
    · simpa using ih.cons a
    · simp only [Bool.not_true, Bool.false_eq_true, if_false, if_true]
      exact (ih.cons a).trans List.perm_middle.symm
theorem rel_keep {ag ro : List Nat} (h : Rel P fr cx σ env w) : Bd cx (keep σ ag ro) ∧ Rel P fr (addC cx (keep σ ag ro)) (rest σ ag ro) env w := by
  obtain ⟨hB, vs, hst⟩ := h
  have hb : Bd cx (keep σ ag ro) := ⟨fun e he => hB.o1 e (List.mem_filter.1 he).1, hB.o2, fun e he => hB.r1 e (List.mem_filter.1 he).1, hB.r2⟩
  refine ⟨hb, ⟨fun e he => hB.o1 e (List.mem_filter.1 he).1, fun e he => ?_, fun e he => hB.r1 e (List.mem_filter.1 he).1, fun e he => ?_⟩, vs, ?_⟩
  · rcases List.mem_append.1 he with he | he
    · exact hb.o1 e he
    · exact hb.o2 e he
  · rcases List.mem_append.1 he with he | he
    · exact hb.r1 e he
    · exact hb.r2 e he
  · have hp : (OS vs fr cx σ.ob).Perm (OS vs fr (addC cx (keep σ ag ro)) (rest σ ag ro).ob) := by
      show List.Perm (MS vs σ.ob ++ (MS vs cx.ob ++ fr.F)) (MS vs (rest σ ag ro).ob ++ (MS vs ((keep σ ag ro).ob ++ cx.ob) ++ fr.F))
      have e : MS vs (rest σ ag ro).ob ++ (MS vs ((keep σ ag ro).ob ++ cx.ob) ++ fr.F) = (MS vs (rest σ ag ro).ob ++ MS vs (keep σ ag ro).ob) ++ (MS vs cx.ob ++ fr.F) := by
        rw [show MS vs ((keep σ ag ro).ob ++ cx.ob) = MS _ _ ++ MS _ _ from List.map_append]
        simp only [List.append_assoc]
      rw [e]
      refine List.Perm.append_right _ ?_
      have := (filt_perm (fun e : Nat × Od => has (keptO σ ro) e.1) σ.ob).map (moF vs)
      rw [List.map_append] at this
      exact this
    refine (St.perm hst hp).sub' ?_
    intro f hf
    rcases List.mem_append.1 hf with hf | hf
    · obtain ⟨e, he, rfl⟩ := List.mem_map.1 hf
      exact List.mem_append.2 (.inl (List.mem_map.2 ⟨e, (List.mem_filter.1 he).1, rfl⟩))
    · rcases List.mem_append.1 hf with hf | hf
      · obtain ⟨e, he, rfl⟩ := List.mem_map.1 hf
        rcases List.mem_append.1 he with he | he
        · exact List.mem_append.2 (.inl (List.mem_map.2 ⟨e, (List.mem_filter.1 he).1, rfl⟩))
        · exact List.mem_append.2 (.inr (List.mem_append.2 (.inl (List.mem_map.2 ⟨e, he, rfl⟩))))
      · exact List.mem_append.2 (.inr (List.mem_append.2 (.inr hf)))
end
end
section
def mLp (l : Nat) (r : Loop) : MF where
  blk k := k = l
  p _ w := w.heap[l]? = some (.loop r)
  keep h _ hb := (hb l rfl).trans h
  sub h _ := h
  lt h k hk := by subst hk; exact (Array.getElem?_eq_some_iff.1 h).1
def mFF (Γ : List FF) : MF where
  blk _ := False
  p S w := All S Γ w
  keep h k _ := All.keep k h
  sub h k := All.sub k h
  lt _ _ hk := hk.elim
section
variable {we : World} {Se : Nat → Prop} {ms : List MF} {Γ Δ : List FF} {w : World}
theorem St.ffIn (h : St we Se ms (Δ ++ Γ) w) : St we Se (mFF Δ :: ms) Γ w := by
  obtain ⟨h1, h2, h3, S, h4, h5, h6, h7, h8⟩ := h
  refine ⟨h1, h2, ⟨fun k hk => hk.elim, h3⟩, S, h4, h5, fun m hm k hk => ?_, ⟨All.left h8, h7⟩, All.right h8⟩
  rcases List.mem_cons.1 hm with rfl | hm
  · exact hk.elim
  · exact h6 m hm k hk
theorem St.ffOut (h : St we Se (mFF Δ :: ms) Γ w) : St we Se ms (Δ ++ Γ) w := by
  obtain ⟨h1, h2, h3, S, h4, h5, h6, h7, h8⟩ := h
  exact ⟨h1, h2, h3.2, S, h4, h5, fun m hm => h6 m (List.mem_cons_of_mem _ hm), h7.2, All.append h7.1 h8⟩
theorem St.putObj {l : Nat} {m m' : MF} {o : Obj} (h : St we Se (m :: ms) Γ w) (hb : ∀ k, m.blk k ↔ k = l) (hb' : ∀ k, m'.blk k → k = l) (hp : ∀ S w', w'.heap[l]? = some o → m'.p S w') : St we Se (m' :: ms) Γ (w.putObj l o) := by
  obtain ⟨h1, h2, h3, S, h4, h5, h6, h7, h8⟩ := h
  have hl := h6 m (List.mem_cons_self ..) l ((hb l).2 rfl)
  have hlt : l < w.heap.size := AllM.lt h7 m (List.mem_cons_self ..) l ((hb l).2 rfl)
  have hsz : (w.putObj l o).heap.size = w.heap.size := World.putObj_size
  have hoth : ∀ k, k ≠ l → (w.putObj l o).heap[k]? = w.heap[k]? := fun k hk => World.putObj_heap_other hk
  have hk : Keeps S w (w.putObj l o) := ⟨rfl, rfl, rfl, Nat.le_of_eq hsz.symm, fun k _ hS => hoth k fun e => hl.1 (e ▸ hS)⟩
  have hx : Ext we (w.putObj l o) := ⟨h1.os, h1.tape, h1.output, Nat.le_trans h1.size (Nat.le_of_eq hsz.symm), fun k hk hS => (hoth k fun e => by omega).trans (h1.block k hk hS)⟩
  refine ⟨hx, h2, ⟨fun k hk m2 hm2 => h3.1 k ((hb k).2 (hb' k hk)) m2 hm2, h3.2⟩, S, h4, fun k hk => h5 k (by rw [hsz] at hk; exact hk), fun m2 hm2 k hk2 => ?_, ⟨hp S _ (World.putObj_heap_same hlt), AllM.keep hk (fun m2 hm2 k hk2 => hoth k fun e => ?_) h7.2⟩, All.keep hk h8⟩
  · rcases List.mem_cons.1 hm2 with rfl | hm2
    · exact h6 m (List.mem_cons_self ..) k ((hb k).2 (hb' k hk2))
    · exact h6 m2 (List.mem_cons_of_mem _ hm2) k hk2
  · subst e
    exact h3.1 k ((hb k).2 rfl) m2 hm2 hk2
theorem St.allocObj {o : Obj} {m : MF} (h : St we Se ms Γ w) (hb : ∀ k, m.blk k → k = w.heap.size) (hp : ∀ S w', w'.heap[w.heap.size]? = some o → m.p S w') : St we Se (m :: ms) Γ (w.alloc o) := by
  obtain ⟨h1, h2, h3, S, h4, h5, h6, h7, h8⟩ := h
  have hsz : (w.alloc o).heap.size = w.heap.size + 1 := World.size_alloc ..
  have hold : ∀ k, k < w.heap.size → (w.alloc o).heap[k]? = w.heap[k]? := fun k hk => by
    show (w.heap.push o)[k]? = _
    rw [Array.getElem?_push]
    rw [if_neg (by omega)]
  have hnew : (w.alloc o).heap[w.heap.size]? = some o := World.alloc_heap_new w o
  let S' : Nat → Prop := fun k => S k ∧ k ≠ w.heap.size
  have hk : Keeps S' w (w.alloc o) := ⟨rfl, rfl, rfl, by omega, fun k hk _ => hold k hk⟩
  have hsub : ∀ k, k < w.heap.size → S k → S' k := fun k hk hS => ⟨hS, by omega⟩
  refine ⟨⟨h1.os, h1.tape, h1.output, by have := h1.size; omega, fun k hk hS => (hold k (Nat.lt_of_lt_of_le hk h1.size)).trans (h1.block k hk hS)⟩, h2, ⟨fun k hk m2 hm2 hk2 => ?_, h3⟩, S', fun k hk => h4 k hk.1, fun k hk => ⟨h5 k (by omega), by omega⟩, fun m2 hm2 k hk2 => ?_, ⟨hp _ _ hnew, AllM.keep hk (fun m2 hm2 k hk2 => hold k (AllM.lt h7 m2 hm2 k hk2)) (AllM.sub hsub h7)⟩, All.keep hk (All.sub hsub h8)⟩
  · have := AllM.lt h7 m2 hm2 k hk2
    have := hb k hk
    omega
  · rcases List.mem_cons.1 hm2 with rfl | hm2
    · exact ⟨fun hS => hS.2 (hb k hk2), by have := hb k hk2; have := h1.size; omega⟩
    · exact ⟨fun hS => (h6 m2 hm2 k hk2).1 hS.1, (h6 m2 hm2 k hk2).2⟩
end
section
variable {P : Program} {cf : Cf} {fr : Fr} {cx kp σ : Sg} {vs vs' : Nat → Value} {env env' : Env} {w : World}
theorem bd_keep {cx σ : Sg} (h : Bd cx σ) : Bd (addC cx σ) ⟨σ.nx, [], []⟩ where
  o1 := fun _ he => absurd he List.not_mem_nil
  o2 := fun e he => by
    rcases List.mem_append.1 he with he | he
    · exact h.o1 e he
    · exact h.o2 e he
  r1 := fun _ he => absurd he List.not_mem_nil
  r2 := fun e he => by
    rcases List.mem_append.1 he with he | he
    · exact h.r1 e he
    · exact h.r2 e he
def slotOK (f : TF) (v u : Value) : Prop := match f with
  | .own _ _ => v = u
  | .var _ _ => v = u ∧ ∃ b, v = .pointer (some ⟨b, 0, none⟩)
  | .mat _ _ _ => v = outW u
  | .bo _ _ _ => v = outW u
  | _ => False
def slotsOK (ds : List (Nat × TF)) (env : Env) (U : Nat → Value) : Prop := ∀ (j t : Nat) (f : TF), ds[j]? = some (t, f) → slotOK f (env t) (U j)
theorem memK_at : ∀ {ds : List (Nat × TF)}, memK ds = true → ∀ (j t : Nat) (f : TF), ds[j]? = some (t, f) → (∃ s E, f = .own s E) ∨ (∃ s E, f = .var s E) ∨ (∃ s E F, f = .mat s E F) ∨ (∃ s E F, f = .bo s E F)
  | [], _, j, t, f, h => by simp at h
  | (t', f') :: ds, hm, 0, t, f, h => by
    simp only [List.getElem?_cons_zero, Option.some.injEq, Prod.mk.injEq] at h
    obtain ⟨rfl, rfl⟩ := h
    cases f' <;> simp only [memK, Bool.false_eq_true] at hm
    · exact .inl ⟨_, _, rfl⟩
    · exact .inr (.inl ⟨_, _, rfl⟩)
    · exact .inr (.inr (.inl ⟨_, _, _, rfl⟩))
    · exact .inr (.inr (.inr ⟨_, _, _, rfl⟩))
  | (t', f') :: ds, hm, j + 1, t, f, h => by
    refine memK_at (ds := ds) ?_ j t f (by simpa using h)
    cases f' <;> simp only [memK, Bool.false_eq_true] at hm <;> exact hm
theorem memK_row {ds : List (Nat × TF)} (hm : memK ds = true) : ∀ a ∈ ds, ∀ j, refT a.2 = some j → j < ds.length := fun a ha j e => by
  obtain ⟨i, hi⟩ := List.mem_iff_getElem?.1 ha
  rcases memK_at hm i a.1 a.2 hi with ⟨_, _, h⟩ | ⟨_, _, h⟩ | ⟨_, _, _, h⟩ | ⟨_, _, _, h⟩ <;> rw [h] at e <;> cases e
theorem dsF_mem {U : Nat → Value} {S : Nat → Prop} : ∀ {ds : List (Nat × TF)} {x : DsD ds} {i : Nat}, (∀ (j t : Nat) (f : TF), ds[j]? = some (t, f) → slotOK f (env t) (U (i + j))) → All S (dsF U env ds x i) w
  | [], _, _, _ => trivial
  | [(t, f)], x, i, h => by
    have h0 := h 0 t f rfl
    refine ⟨?_, trivial⟩
    cases f <;> first | exact h0 | exact h0.elim
  | (t, f) :: b :: l, x, i, h => by
    have h0 := h 0 t f rfl
    refine ⟨?_, dsF_mem fun j t f hj => by
      have := h (j + 1) t f (by simpa using hj)
      rw [show i + 1 + j = i + (j + 1) by omega]; exact this⟩
    cases f <;> first | exact h0 | exact h0.elim
theorem bld_at {n0 : Nat} : ∀ {ds : List (Nat × TF)} {x : DsD ds} {o j t : Nat} {f : TF}, ds[j]? = some (t, f) → ∃ y : f.D, (t, 0, (bldF n0 (o + j) f y).1) ∈ (bld n0 ds x o).1
  | [], _, _, _, _, _, h => by simp at h
  | [(t', f')], x, o, 0, t, f, h => by
    simp only [List.getElem?_cons_zero, Option.some.injEq, Prod.mk.injEq] at h
    obtain ⟨rfl, rfl⟩ := h
    exact ⟨x, List.mem_cons_self ..⟩
  | [(t', f')], x, o, j + 1, t, f, h => by simp at h
  | (t', f') :: b :: l, x, o, 0, t, f, h => by
    simp only [List.getElem?_cons_zero, Option.some.injEq, Prod.mk.injEq] at h
    obtain ⟨rfl, rfl⟩ := h
    exact ⟨x.1, List.mem_cons_self ..⟩
  | (t', f') :: b :: l, x, o, j + 1, t, f, h => by
    obtain ⟨y, hy⟩ := bld_at (n0 := n0) (ds := b :: l) (x := x.2) (o := o + 1) (j := j) (t := t) (f := f) (by simpa using h)
    rw [show o + 1 + j = o + (j + 1) by omega] at hy
    exact ⟨y, List.mem_cons_of_mem _ hy⟩
theorem slots_of {ds : List (Nat × TF)} {x : DsD ds} {n : Nat} {S : Nat → Prop} (hm : memK ds = true) (h : All S (RS P vs env (bld n ds x n).1) w) : slotsOK ds env fun j => vs (n + j) := by
  intro j t f hj
  obtain ⟨y, hy⟩ := bld_at (n0 := n) (x := x) (o := n) hj
  have := rs_get h hy
  rcases memK_at hm j t f hj with ⟨_, _, rfl⟩ | ⟨_, _, rfl⟩ | ⟨_, _, _, rfl⟩ | ⟨_, _, _, rfl⟩
  · exact this
  · obtain ⟨h1, b, h2⟩ := this
    exact ⟨h1, b, h1.trans h2⟩
  · exact this
  · exact this
theorem bd_in {ds : List (Nat × TF)} {x : DsD ds} (hm : memK ds = true) (o1 : ∀ e ∈ kp.ob, e.1 < kp.nx + ds.length) (o2 : ∀ e ∈ cx.ob, e.1 < kp.nx + ds.length) (r1 : ∀ e ∈ kp.rg, ∀ o, refO e.2.2 = some o → o < kp.nx + ds.length) (r2 : ∀ e ∈ cx.rg, ∀ o, refO e.2.2 = some o → o < kp.nx + ds.length) : Bd cx (bldS ⟨ds, []⟩ x kp) := by
  refine ⟨fun e he => ?_, o2, fun e he p hp => ?_, r2⟩
  · rcases List.mem_append.1 he with he | he
    · exact (bld_ob (n0 := kp.nx) (l := ds) (x := x) (o := kp.nx) e he).2
    · exact o1 e he
  · have hr : ∀ e ∈ (bld kp.nx ds x kp.nx).1, ∀ p, refO e.2.2 = some p → p < kp.nx + ds.length := fun e he p hp => by
      rcases bld_ref (n0 := kp.nx) (n := ds.length) (l := ds) (x := x) (o := kp.nx) (memK_row hm) e he p hp with h | h <;> exact h
    rcases List.mem_append.1 he with he | he
    · rcases List.mem_append.1 he with he | he
      · exact hr e he p hp
      · exact hr e he p hp
    · exact r1 e he p hp
theorem rel_in {ds : List (Nat × TF)} {x : DsD ds} (hm : memK ds = true) (hsl : slotsOK ds env fun j => vs (kp.nx + j)) (hb : Bd cx (bldS ⟨ds, []⟩ x kp))
    (hst : St fr.we fr.Se (dsM (fun j => vs (kp.nx + j)) ds x 0 ++ (MS vs kp.ob ++ (MS vs cx.ob ++ fr.F))) (RS P vs env kp.rg ++ (RS P vs env cx.rg ++ fr.G)) w) : Rel P fr cx (bldS ⟨ds, []⟩ x kp) env w := by
  refine ⟨hb, vs, ?_⟩
  have hvn : ∀ j, j < ds.length → vs (kp.nx + j) = (fun j => vs (kp.nx + j)) (0 + j) := fun j _ => by simp only [Nat.zero_add]
  have e1 : OS vs fr cx (bldS ⟨ds, []⟩ x kp).ob = dsM (fun j => vs (kp.nx + j)) ds x 0 ++ (MS vs kp.ob ++ (MS vs cx.ob ++ fr.F)) := by
    show MS vs ((bld kp.nx ds x kp.nx).2 ++ kp.ob) ++ (MS vs cx.ob ++ fr.F) = _
    rw [show MS vs ((bld kp.nx ds x kp.nx).2 ++ kp.ob) = MS vs (bld kp.nx ds x kp.nx).2 ++ MS vs kp.ob from List.map_append, bld_ms (U := fun j => vs (kp.nx + j)) (i := 0) hvn, List.append_assoc]
  show St _ _ (OS vs fr cx (bldS ⟨ds, []⟩ x kp).ob) _ _
  rw [e1]
  refine hst.weak fun S w hΓ => ?_
  have hy : All S (RS P vs env (bld kp.nx ds x kp.nx).1) w := bld_rs (U := fun j => vs (kp.nx + j)) (n := ds.length) (i := 0) (fun j _ => rfl) (memK_row hm) hvn (dsF_mem fun j t f hj => by rw [Nat.zero_add]; exact hsl j t f hj)
  show All S (RS P vs env (((bld kp.nx ds x kp.nx).1 ++ (bld kp.nx ds x kp.nx).1) ++ kp.rg) ++ (RS P vs env cx.rg ++ fr.G)) w
  rw [RS_app, RS_app]
  exact All.append (All.append (All.append hy hy) (All.left hΓ)) (All.right hΓ)
theorem rel_out {ds : List (Nat × TF)} {x : DsD ds} {n : Nat} (hm : memK ds = true) (hR : Rel P fr cx (bldS ⟨ds, []⟩ x ⟨n, [], []⟩) env w) : ∃ vs, slotsOK ds env (fun j => vs (n + j)) ∧ Bd cx (bldS ⟨ds, []⟩ x ⟨n, [], []⟩) ∧ St fr.we fr.Se (dsM (fun j => vs (n + j)) ds x 0 ++ (MS vs cx.ob ++ fr.F)) (RS P vs env cx.rg ++ fr.G) w := by
  obtain ⟨hB, vs, hst⟩ := hR
  obtain ⟨S, _, hΓ⟩ := hst.ex
  have h1 : All S (RS P vs env (((bld n ds x n).1 ++ (bld n ds x n).1) ++ [])) w := All.left hΓ
  rw [RS_app, RS_app] at h1
  refine ⟨vs, slots_of hm (All.right (All.left h1)), hB, ?_⟩
  have e1 : OS vs fr cx (bldS ⟨ds, []⟩ x ⟨n, [], []⟩).ob = dsM (fun j => vs (n + j)) ds x 0 ++ (MS vs cx.ob ++ fr.F) := by
    show MS vs ((bld n ds x n).2 ++ []) ++ (MS vs cx.ob ++ fr.F) = _
    rw [List.append_nil, bld_ms (U := fun j => vs (n + j)) (i := 0) fun j _ => by simp only [Nat.zero_add]]
  have h2 : St fr.we fr.Se (OS vs fr cx (bldS ⟨ds, []⟩ x ⟨n, [], []⟩).ob) (GS P vs env fr cx (bldS ⟨ds, []⟩ x ⟨n, [], []⟩)) w := hst
  rw [e1] at h2
  exact h2.weak fun S w h => All.right h
theorem dsM_cons {U : Nat → Value} {a : Nat × TF} : ∀ {l : List (Nat × TF)} {y : a.2.D} {x : DsD l} {i : Nat}, dsM U (a :: l) (consD y x) i = tfM a.2 y (U i) ++ dsM U l x (i + 1)
  | [], y, x, i => by show tfM a.2 y (U i) = _ ++ []; rw [List.append_nil]
  | _ :: _, y, x, i => rfl
theorem dsM_shift {U V : Nat → Value} : ∀ {l : List (Nat × TF)} {x : DsD l} {i k : Nat}, (∀ j, j < l.length → U (i + j) = V (k + j)) → dsM U l x i = dsM V l x k
  | [], _, _, _, _ => rfl
  | [a], x, i, k, h => by
    have h0 : U i = V k := h 0 (by simp)
    show tfM a.2 x (U i) = tfM a.2 x (V k)
    rw [h0]
  | a :: b :: l, x, i, k, h => by
    have h0 : U i = V k := h 0 (by simp)
    show tfM a.2 x.1 (U i) ++ dsM U (b :: l) x.2 (i + 1) = tfM a.2 x.1 (V k) ++ dsM V (b :: l) x.2 (k + 1)
    rw [h0, dsM_shift (l := b :: l) (x := x.2) (i := i + 1) (k := k + 1) fun j hj => by
      have := h (j + 1) (by simpa using hj)
      rw [show i + 1 + j = i + (j + 1) by omega, show k + 1 + j = k + (j + 1) by omega]; exact this]
theorem consD_un {a : Nat × TF} : ∀ {l : List (Nat × TF)} (z : DsD (a :: l)), z = consD (unD z).1 (unD z).2
  | [], _ => rfl
  | _ :: _, _ => rfl
theorem rel_put {we : World} {Se : Nat → Prop} {A B : List MF} {G : List FF} {l : Nat} {m m' : MF} {o : Obj} (h : Rel P ⟨we, Se, A ++ m :: B, G⟩ cx σ env w) (hb : ∀ k, m.blk k ↔ k = l) (hb' : ∀ k, m'.blk k → k = l) (hp : ∀ S w', w'.heap[l]? = some o → m'.p S w') : Rel P ⟨we, Se, A ++ m' :: B, G⟩ cx σ env (w.putObj l o) := by
  obtain ⟨hB, vs, hst⟩ := h
  refine ⟨hB, vs, ?_⟩
  have h1 : St we Se ((MS vs σ.ob ++ (MS vs cx.ob ++ A)) ++ m :: B) (GS P vs env ⟨we, Se, A ++ m :: B, G⟩ cx σ) w := by
    have : St we Se (MS vs σ.ob ++ (MS vs cx.ob ++ (A ++ m :: B))) (GS P vs env ⟨we, Se, A ++ m :: B, G⟩ cx σ) w := hst
    simpa only [List.append_assoc] using this
  have h2 := St.putObj (St.mid h1) hb hb' hp
  have h3 : St we Se ((MS vs σ.ob ++ (MS vs cx.ob ++ A)) ++ m' :: B) (GS P vs env ⟨we, Se, A ++ m :: B, G⟩ cx σ) (w.putObj l o) := h2.perm List.perm_middle.symm
  show St we Se (MS vs σ.ob ++ (MS vs cx.ob ++ (A ++ m' :: B))) _ _
  simpa only [List.append_assoc] using h3
theorem pin_in {n : Nat} {S : Nat → Prop} : ∀ {ds : List (Nat × TF)} {i : Nat}, memK ds = true → (∀ (j t : Nat) (f : TF), ds[j]? = some (t, f) → slotOK f (env t) (vs (n + (i + j)))) → All S (RS P vs env (pinR ds (n + i))) w
  | [], _, _, _ => trivial
  | (t, f) :: r, i, hm, h => by
    have h0 := h 0 t f rfl
    have ih : memK r = true → All S (RS P vs env (pinR r (n + i + 1))) w := fun hm => pin_in (i := i + 1) hm fun j t f hj => by
      have := h (j + 1) t f (by simpa using hj)
      rw [show i + 1 + j = i + (j + 1) by omega]; exact this
    cases f <;> simp only [memK, Bool.false_eq_true] at hm
    · exact ⟨h0, ih hm⟩
    · exact ⟨h0.1, ih hm⟩
    · exact ⟨h0, ih hm⟩
    · exact ⟨h0, ih hm⟩
theorem pinR_ref : ∀ {ds : List (Nat × TF)} {n : Nat}, ∀ e ∈ pinR ds n, ∀ o, refO e.2.2 = some o → o < n + ds.length
  | [], _, e, he => absurd he List.not_mem_nil
  | (t, f) :: r, n, e, he => by
    intro o ho
    have ih : e ∈ pinR r (n + 1) → o < n + ((t, f) :: r).length := fun he => by
      have := pinR_ref e he o ho
      simp only [List.length_cons]; omega
    cases f <;> rcases List.mem_cons.1 he with rfl | he <;> first | exact ih he | (cases ho; simp only [List.length_cons]; omega)
theorem pinR_mem : ∀ {ds : List (Nat × TF)} {n j t : Nat} {f : TF}, ds[j]? = some (t, f) → ∃ e ∈ pinR ds n, e.1 = t
  | [], _, _, _, _, h => by simp at h
  | (t', f') :: r, n, 0, t, f, h => by
    simp only [List.getElem?_cons_zero, Option.some.injEq, Prod.mk.injEq] at h
    obtain ⟨rfl, rfl⟩ := h
    cases f' <;> exact ⟨_, List.mem_cons_self .., rfl⟩
  | (t', f') :: r, n, j + 1, t, f, h => by
    obtain ⟨e, he, h1⟩ := pinR_mem (ds := r) (n := n + 1) (j := j) (t := t) (f := f) (by simpa using h)
    cases f' <;> exact ⟨e, List.mem_cons_of_mem _ he, h1⟩
theorem once_ne {a : Nat × TF} {ds : List (Nat × TF)} (h : once (a :: ds) = true) {j t : Nat} {f : TF} (hj : ds[j]? = some (t, f)) : t ≠ a.1 := by
  simp only [once, slots1, Bool.and_eq_true, List.all_eq_true] at h
  have := h.1 (t, f) (List.mem_of_getElem? hj)
  intro e
  subst e
  simp at this
end
end
section
def DenOK (P : Program) (cf : Cf) (n : Nat) (c : Code) : Prop := ∀ {R : Type} {r : R} {fr : Fr} {cx σ : Sg} {K : Tg → Sg → Option R} {Q : Qd} {N : Nd}, N.n = n → (N.rd = none ∨ noR c = true) → den cf c cx σ K = some r → ∀ {Ds : List Nat} {env : Env} {w : World},
  (∀ t σ', K t σ' = some r → ∀ Ds' env' w', SmO cx env env' → Rel P (fr.wd Ds') cx σ' env' w' → Q (tgE t) Ds' env' w') → Rel P (fr.wd Ds) cx σ env w → WpD P N c Q Ds env w
def outL : Value → List Value
  | .tuple us => us.toList
  | _ => []
def vsU (u : Value) (k : Nat) : Value := (outL u).getD k undef
def encU (vs : Nat → Value) (m : Nat) : Value := .tuple ((List.range m).map vs).toArray
theorem vsU_enc {vs : Nat → Value} {m k : Nat} (h : k < m) : vsU (encU vs m) k = vs k := by
  simp [vsU, encU, outL, List.getD_eq_getElem?_getD, h]
def tgC : Tg → Code
  | .n => .skip
  | .x i => .exit i
  | .r => .ret
  | .p _ => .skip
section
variable {P : Program} {cf : Cf} {fr : Fr} {cx cx' kp σ : Sg} {vs vs' : Nat → Value} {env env' : Env} {w : World} {we : World} {Se : Nat → Prop} {F : List MF} {G : List FF} {n D l : Nat} {ds : List (Nat × TF)} {x : DsD ds} {u : Value} {rc : Loop}
def hidM (P : Program) (env : Env) (cx' : Sg) (n : Nat) (ds : List (Nat × TF)) (D l : Nat) (rc : Loop) (x : DsD ds) (u : Value) : MF :=
  mGrp (mPr (slotsOK ds env fun j => vsU u (n + j)) :: mFF (RS P (vsU u) env cx'.rg) :: mLp l rc :: mDef D :: (dsM (fun j => vsU u (n + j)) ds x 0 ++ MS (vsU u) cx'.ob))
theorem hid_out (h : St we Se (hidM P env cx' n ds D l rc x u :: F) G w) : slotsOK ds env (fun j => vsU u (n + j)) ∧ St we Se (mLp l rc :: mDef D :: (dsM (fun j => vsU u (n + j)) ds x 0 ++ (MS (vsU u) cx'.ob ++ F))) (RS P (vsU u) env cx'.rg ++ G) w := by
  obtain ⟨h1, h2⟩ := St.unpr (St.grp.1 h)
  refine ⟨h1, ?_⟩
  have h3 := St.ffOut (show St we Se (mFF (RS P (vsU u) env cx'.rg) :: (mLp l rc :: mDef D :: (dsM (fun j => vsU u (n + j)) ds x 0 ++ MS (vsU u) cx'.ob) ++ F)) G w from h2)
  simpa only [List.cons_append, List.append_assoc] using h3
theorem hid_in (hsl : slotsOK ds env fun j => vs (n + j)) (ho : ∀ e ∈ cx'.ob, e.1 < n) (hr : ∀ e ∈ cx'.rg, ∀ o, refO e.2.2 = some o → o < n) (h : St we Se (mLp l rc :: mDef D :: (dsM (fun j => vs (n + j)) ds x 0 ++ (MS vs cx'.ob ++ F))) (RS P vs env cx'.rg ++ G) w) :
    St we Se (hidM P env cx' n ds D l rc x (encU vs (n + ds.length)) :: F) G w := by
  have e0 : ∀ k, k < n + ds.length → vsU (encU vs (n + ds.length)) k = vs k := fun k hk => vsU_enc hk
  have e1 : RS P (vsU (encU vs (n + ds.length))) env cx'.rg = RS P vs env cx'.rg := RS_congr (fun e he o ho => e0 o (by have := hr e he o ho; omega)) fun _ _ => rfl
  have e2 : MS (vsU (encU vs (n + ds.length))) cx'.ob = MS vs cx'.ob := MS_congr fun e he => e0 e.1 (by have := ho e he; omega)
  have e3 : dsM (fun j => vsU (encU vs (n + ds.length)) (n + j)) ds x 0 = dsM (fun j => vs (n + j)) ds x 0 := dsM_shift fun j hj => e0 _ (by omega)
  refine St.grp.2 (St.pr ?_ ?_)
  · intro j t f hj
    have := (List.getElem?_eq_some_iff.1 hj).1
    show slotOK f (env t) (vsU (encU vs (n + ds.length)) (n + j))
    rw [e0 _ (by omega)]
    exact hsl j t f hj
  · have h2 : St we Se (mFF (RS P vs env cx'.rg) :: (mLp l rc :: mDef D :: (dsM (fun j => vs (n + j)) ds x 0 ++ MS vs cx'.ob) ++ F)) G w := St.ffIn (by simpa only [List.cons_append, List.append_assoc] using h)
    rw [e1, e2, e3]
    exact h2
theorem rel_mem {m : MF} {p : Prop} (h : Rel P fr cx σ env w) (hm : m ∈ fr.F) (hp : ∀ S, m.p S w → p) : p := by
  obtain ⟨_, vs, _, _, _, S, _, _, _, h7, _⟩ := h
  exact hp S (allM_mem.1 h7 m (List.mem_append.2 (.inr (List.mem_append.2 (.inr hm)))))
theorem round_s {it : ISig} {pt : Nat} {τ : Tg} {a c : Code} {N : Nat} {fn : FuncId} {tmps : Array Value} (hA : DenOK P cf N a) (hC : DenOK P cf N c) (hna : noR a = true) (hnc : noR c = true) (hpt : pt < N) (hsz : tmps.size = N) (henv : envOf ⟨tmps, []⟩ = env) (hm : memK ds = true)
    (hon : once (rndH pt it.t it.E ds).ds = true) (hnot : notIn cx'.rg pt = true) (ho : ∀ e ∈ cx'.ob, e.1 < n) (hr : ∀ e ∈ cx'.rg, ∀ o, refO e.2.2 = some o → o < n) :
    YSpec P l it.t.rep it.E (fun x u => hidM P env cx' n ds D l { state := .ready, pending := none, fn := fn, tmps := tmps, params := #[pt], assign := a, body := c, defers := D } x u)
      (fun x u => hidM P env cx' n ds D l { state := .done, pending := some (tgC τ), fn := fn, tmps := tmps, params := #[pt], assign := a, body := c, defers := D } x u)
      (rndG cx' n ds it.t it.E pt τ (fun cx σ K => den cf a cx σ K) fun cx σ K => den cf c cx σ K) := by
  obtain ⟨rR, hrR⟩ : ∃ rR : Loop, rR = { state := .ready, pending := none, fn := fn, tmps := tmps, params := #[pt], assign := a, body := c, defers := D } := ⟨_, rfl⟩
  obtain ⟨rB, hrB⟩ : ∃ rB : Loop, rB = { rR with state := .busy } := ⟨_, rfl⟩
  rw [← hrR]
  intro ys x ys' q hq v u we Se F G w hst
  obtain ⟨hsl, h1⟩ := hid_out hst
  have hl : w.heap[l]? = some (.loop rR) := mut_frame h1 (i := 0) rfl fun S hp => hp
  have hy := run_yield (P := P) (args := #[v]) hl (by rw [hrR]; rfl)
  refine ⟨fn, tmps.setIfInBounds pt v, a, c, by rw [hrR] at hy; simpa using hy, roundIn_of_wpIn trivial ?_⟩
  obtain ⟨sh, hsh⟩ : ∃ sh, sh = rndH pt it.t it.E ds := ⟨_, rfl⟩
  have hlen : sh.ds.length = ds.length + 1 := by rw [hsh]; rfl
  have hmS : memK sh.ds = true := by rw [hsh]; exact hm
  obtain ⟨cp, hcp⟩ : ∃ cp, cp = cpR cx' n sh := ⟨_, rfl⟩
  have hne : ∀ {j t : Nat} {f : TF}, ds[j]? = some (t, f) → t ≠ pt := fun hj => once_ne (a := (pt, .own it.t it.E)) hon hj
  obtain ⟨env1, henv1⟩ : ∃ env1, env1 = put env (some pt) v := ⟨_, rfl⟩
  have e_pt : env1 pt = v := by rw [henv1]; exact put_eq
  have e_ne : ∀ t, t ≠ pt → env1 t = env t := fun t ht => by rw [henv1]; exact put_ne (fun e => ht (by cases e; rfl))
  have e_cx : ∀ e ∈ cx'.rg, env1 e.1 = env e.1 := fun e he => e_ne e.1 fun h => by
    simp only [notIn, List.all_eq_true] at hnot
    have := hnot e he
    rw [h] at this; simp at this
  obtain ⟨vs1, hvs1⟩ : ∃ vs1 : Nat → Value, vs1 = fun k => if k < n then vsU u k else if k = n then v else vsU u (k - 1) := ⟨_, rfl⟩
  have v_lo : ∀ k, k < n → vs1 k = vsU u k := fun k hk => by rw [hvs1]; exact if_pos hk
  have v_n : vs1 n = v := by rw [hvs1]; simp
  have v_hi : ∀ j, vs1 (n + (j + 1)) = vsU u (n + j) := fun j => by
    rw [hvs1]
    simp only
    rw [if_neg (by omega), if_neg (by omega), show n + (j + 1) - 1 = n + j by omega]
  have hslS : slotsOK sh.ds env1 fun j => vs1 (n + j) := by
    rw [hsh]
    intro j t f hj
    cases j with
    | zero =>
      simp only [rndH, List.getElem?_cons_zero, Option.some.injEq, Prod.mk.injEq] at hj
      obtain ⟨rfl, rfl⟩ := hj
      show env1 pt = vs1 (n + 0)
      rw [e_pt, Nat.add_zero, v_n]
    | succ j =>
      have hj : ds[j]? = some (t, f) := by simpa [rndH] using hj
      show slotOK f (env1 t) (vs1 (n + (j + 1)))
      rw [v_hi, e_ne t (hne hj)]
      exact hsl j t f hj
  have hbp : Bd cp ⟨n + sh.ds.length, [], []⟩ := by
    rw [hcp]
    refine ⟨fun _ he => absurd he List.not_mem_nil, fun e he => ?_, fun _ he => absurd he List.not_mem_nil, fun e he o hro => ?_⟩
    · have := ho e he
      show e.1 < n + _
      omega
    · show o < n + _
      rcases List.mem_append.1 (show e ∈ pinR sh.ds n ++ cx'.rg from he) with he | he
      · exact pinR_ref e he o hro
      · have := hr e he o hro
        omega
  have hR0 : Rel P (Fr.wd ⟨we, Se, mLp l rR :: mDef D :: F, G⟩ []) cp (bldS sh (hsh ▸ consD (a := (pt, .own it.t it.E)) ys x) ⟨n, [], []⟩) env1 w := by
    subst hsh
    refine rel_in (vs := vs1) (kp := ⟨n, [], []⟩) hmS hslS (bd_in hmS (fun _ he => absurd he List.not_mem_nil) (fun e he => hbp.o2 e he) (fun _ he => absurd he List.not_mem_nil) fun e he o hro => hbp.r2 e he o hro) ?_
    have e1 : dsM (fun j => vs1 (n + j)) (rndH pt it.t it.E ds).ds (consD (a := (pt, .own it.t it.E)) ys x) 0 = mO it.t.rep it.E v ys :: dsM (fun j => vsU u (n + j)) ds x 0 := by
      refine (dsM_cons (U := fun j => vs1 (n + j)) (a := (pt, .own it.t it.E)) (l := ds) (y := ys) (x := x) (i := 0)).trans ?_
      show mO it.t.rep it.E (vs1 (n + 0)) ys :: dsM _ ds x (0 + 1) = _
      rw [Nat.add_zero, v_n, dsM_shift (U := fun j => vs1 (n + j)) (V := fun j => vsU u (n + j)) (i := 0 + 1) (k := 0) fun j _ => by
        show vs1 (n + (0 + 1 + j)) = vsU u (n + (0 + j))
        rw [show 0 + 1 + j = j + 1 by omega, v_hi, Nat.zero_add]]
    have e2 : MS vs1 cp.ob = MS (vsU u) cx'.ob := by rw [hcp]; exact MS_congr fun e he => v_lo _ (ho e he)
    show St we Se (dsM (fun j => vs1 (n + j)) (rndH pt it.t it.E ds).ds (consD (a := (pt, .own it.t it.E)) ys x) 0 ++ ([] ++ (MS vs1 cp.ob ++ ([] ++ (mLp l rR :: mDef D :: F))))) ([] ++ (RS P vs1 env1 cp.rg ++ G)) w
    rw [e1, e2]
    have h2 : St we Se (mO it.t.rep it.E v ys :: dsM (fun j => vsU u (n + j)) ds x 0 ++ ([] ++ (MS (vsU u) cx'.ob ++ ([] ++ (mLp l rR :: mDef D :: F))))) (RS P (vsU u) env cx'.rg ++ G) w := by
      refine h1.perm ?_
      simp only [List.nil_append, List.cons_append]
      have p1 : (mLp l rR :: mDef D :: (dsM (fun j => vsU u (n + j)) ds x 0 ++ (MS (vsU u) cx'.ob ++ mO it.t.rep it.E v ys :: F))).Perm (mO it.t.rep it.E v ys :: (mLp l rR :: mDef D :: (dsM (fun j => vsU u (n + j)) ds x 0 ++ (MS (vsU u) cx'.ob ++ F)))) := by
        have := List.perm_middle (a := mO it.t.rep it.E v ys) (l₁ := mLp l rR :: mDef D :: (dsM (fun j => vsU u (n + j)) ds x 0 ++ MS (vsU u) cx'.ob)) (l₂ := F)
        simpa only [List.cons_append, List.append_assoc] using this
      refine p1.trans (List.Perm.cons _ ?_)
      have p2 : ([mLp l rR, mDef D] ++ ((dsM (fun j => vsU u (n + j)) ds x 0 ++ MS (vsU u) cx'.ob) ++ F)).Perm ((dsM (fun j => vsU u (n + j)) ds x 0 ++ MS (vsU u) cx'.ob) ++ ([mLp l rR, mDef D] ++ F)) := List.perm_append_comm_assoc ..
      simpa only [List.cons_append, List.append_assoc, List.nil_append] using p2
    refine h2.weak (Δ := RS P vs1 env1 cp.rg ++ G) fun S w ha => All.append ?_ (All.right ha)
    rw [hcp]
    show All S (RS P vs1 env1 (pinR (rndH pt it.t it.E ds).ds n ++ cx'.rg)) w
    rw [RS_app]
    refine All.append (pin_in (i := 0) hmS fun j t f hj => by rw [Nat.zero_add]; exact hslS j t f hj) ?_
    rw [RS_congr (vs := vsU u) (env := env) (fun e he o hro => v_lo o (hr e he o hro)) e_cx]
    exact All.left ha
  obtain ⟨N1, hN1⟩ : ∃ N1 : Nd, N1 = ⟨N, [], some l⟩ := ⟨_, rfl⟩
  have hsz1 : (⟨tmps.setIfInBounds pt v, []⟩ : Act).tmps.size = N1.n := by rw [hN1]; simpa using hsz
  have hev1 : envOf ⟨tmps.setIfInBounds pt v, []⟩ = env1 := by
    have := envOf_put (a := ⟨tmps, []⟩) (d := some pt) (v := v) (fun t ht => by cases ht; show pt < tmps.size; omega)
    rw [henv1, ← henv]
    exact this
  subst hsh
  have hwA := hA (N := N1) (fr := ⟨we, Se, mLp l rR :: mDef D :: F, G⟩) (Ds := []) (by rw [hN1]) (.inr hna) (show den cf a cp _ _ = some (ys', q) from by rw [hcp]; exact hq)
    (Q := fun e Ds' env' w' => e = .normal ∧ ∃ σ', den cf c cp σ' (endK cp ds it.t it.E pt τ) = some (ys', q) ∧ SmO cp env1 env' ∧ Rel P (Fr.wd ⟨we, Se, mLp l rR :: mDef D :: F, G⟩ Ds') cp σ' env' w')
    (fun t σ' hk Ds' env' w' hs hR => by
      cases t with
      | n => exact ⟨rfl, σ', by rw [hcp]; exact hk, hs, hR⟩
      | x i => cases hk
      | r => cases hk
      | p q => cases hk) hR0
  have hwa := hwA ⟨tmps.setIfInBounds pt v, []⟩ hsz1 (by rw [hN1]; rfl) hev1
  rw [hN1] at hwa
  refine wpIn_mono hwa ?_
  rintro e a1 w1 ⟨q1, Ds', q2, rfl, σ', hk, hs, hR⟩
  have hl1 : w1.heap[l]? = some (.loop rR) := rel_mem hR (m := mLp l rR) (List.mem_append.2 (.inr (List.mem_cons_self ..))) fun S hp => hp
  refine ⟨w1.putObj l (.loop rB), by rw [hrB]; exact run_beginRound hl1 (by rw [hrR]), ?_⟩
  have hR1 : Rel P (Fr.wd ⟨we, Se, mLp l rB :: mDef D :: F, G⟩ Ds') cp σ' (envOf a1) (w1.putObj l (.loop rB)) := rel_put (A := Ds'.map mDef) (m := mLp l rR) (m' := mLp l rB) (B := mDef D :: F) hR (fun k => Iff.rfl) (fun k h => h) fun S w' h => h
  have hwC := hC (N := N1) (fr := ⟨we, Se, mLp l rB :: mDef D :: F, G⟩) (Ds := Ds') (by rw [hN1]) (.inr hnc) hk
    (Q := fun e Ds'' env' w' => ∃ t σ'', e = tgE t ∧ endK cp ds it.t it.E pt τ t σ'' = some (ys', q) ∧ SmO cp (envOf a1) env' ∧ Rel P (Fr.wd ⟨we, Se, mLp l rB :: mDef D :: F, G⟩ Ds'') cp σ'' env' w')
    (fun t σ'' hk Ds'' env' w' hs hR => ⟨t, σ'', rfl, hk, hs, hR⟩) hR1
  have hwc := hwC a1 (by rw [hN1]; exact q1) (by rw [hN1]; exact q2) rfl
  rw [hN1] at hwc
  refine wpIn_mono hwc ?_
  rintro e a2 w2 ⟨p1, Ds'', p2, t, σ'', rfl, hk2, hs2, hR2⟩
  have hl2 : w2.heap[l]? = some (.loop rB) := rel_mem hR2 (m := mLp l rB) (List.mem_append.2 (.inr (List.mem_cons_self ..))) fun S hp => hp
  have hsm := hs.trans hs2
  have close : ∀ (z : DsD (rndH pt it.t it.E ds).ds) (rc : Loop), Rel P (Fr.wd ⟨we, Se, mLp l rB :: mDef D :: F, G⟩ Ds'') cp (bldS (rndH pt it.t it.E ds) z ⟨n + (rndH pt it.t it.E ds).ds.length, [], []⟩) (envOf a2) w2 →
      ∃ u', St we Se (hidM P env cx' n ds D l rc (unD z).2 u' :: mO it.t.rep it.E v (unD z).1 :: F) G (w2.putObj l (.loop rc)) := by
    intro z rc hRz
    have hRp := rel_put (A := Ds''.map mDef) (m := mLp l rB) (m' := mLp l rc) (B := mDef D :: F) hRz (fun k => Iff.rfl) (fun k h => h) (o := .loop rc) fun S w' h => h
    obtain ⟨vs2, hsl2, hB2, hst2⟩ := rel_out (ds := (rndH pt it.t it.E ds).ds) hmS hRp
    obtain ⟨m, hm2⟩ : ∃ m, m = n + (rndH pt it.t it.E ds).ds.length := ⟨_, rfl⟩
    rw [← hm2] at hsl2 hst2
    have z0 : vs2 m = v := by
      have h2 : envOf a2 pt = vs2 (m + 0) := hsl2 0 pt (.own it.t it.E) rfl
      obtain ⟨e, he, h3⟩ := pinR_mem (ds := (rndH pt it.t it.E ds).ds) (n := n) (j := 0) (t := pt) (f := .own it.t it.E) rfl
      have h4 := hsm e (by rw [hcp]; exact List.mem_append.2 (.inl he))
      rw [h3, e_pt] at h4
      rw [Nat.add_zero] at h2
      exact h2.symm.trans h4
    obtain ⟨vs3, hvs3⟩ : ∃ vs3 : Nat → Value, vs3 = fun k => if k < n then vs2 k else vs2 (m + 1 + (k - n)) := ⟨_, rfl⟩
    have w_lo : ∀ k, k < n → vs3 k = vs2 k := fun k hk => by rw [hvs3]; exact if_pos hk
    have w_hi : ∀ j, vs3 (n + j) = vs2 (m + (j + 1)) := fun j => by
      rw [hvs3]
      simp only
      rw [if_neg (by omega), show m + 1 + (n + j - n) = m + (j + 1) by omega]
    have hsl3 : slotsOK ds env fun j => vs3 (n + j) := by
      intro j t f hj
      have h2 := hsl2 (j + 1) t f (by simpa [rndH] using hj)
      obtain ⟨e, he, h3⟩ := pinR_mem (ds := (rndH pt it.t it.E ds).ds) (n := n) (j := j + 1) (t := t) (f := f) (by simpa [rndH] using hj)
      have h4 := hsm e (by rw [hcp]; exact List.mem_append.2 (.inl he))
      rw [h3, e_ne t (hne hj)] at h4
      show slotOK f (env t) (vs3 (n + j))
      rw [w_hi, ← h4]
      exact h2
    refine ⟨_, hid_in (F := mO it.t.rep it.E v (unD z).1 :: F) hsl3 ho hr ?_⟩
    have e1 : dsM (fun j => vs2 (m + j)) (rndH pt it.t it.E ds).ds z 0 = mO it.t.rep it.E v (unD z).1 :: dsM (fun j => vs3 (n + j)) ds (unD z).2 0 := by
      refine (congrArg (fun z => dsM (fun j => vs2 (m + j)) (rndH pt it.t it.E ds).ds z 0) (consD_un (a := (pt, .own it.t it.E)) (l := ds) z)).trans ?_
      refine (dsM_cons (U := fun j => vs2 (m + j)) (a := (pt, .own it.t it.E)) (l := ds) (y := (unD (a := (pt, .own it.t it.E)) z).1) (x := (unD (a := (pt, .own it.t it.E)) z).2) (i := 0)).trans ?_
      show mO it.t.rep it.E (vs2 (m + 0)) (unD z).1 :: dsM _ ds (unD z).2 (0 + 1) = _
      rw [Nat.add_zero, z0, dsM_shift (U := fun j => vs2 (m + j)) (V := fun j => vs3 (n + j)) (i := 0 + 1) (k := 0) fun j _ => by
        show vs2 (m + (0 + 1 + j)) = vs3 (n + (0 + j))
        rw [show 0 + 1 + j = j + 1 by omega, Nat.zero_add, w_hi]]
    have e2 : MS vs2 cp.ob = MS vs3 cx'.ob := by rw [hcp]; exact MS_congr fun e he => (w_lo _ (ho e he)).symm
    have h5 : St we Se (dsM (fun j => vs2 (m + j)) (rndH pt it.t it.E ds).ds z 0 ++ (MS vs2 cp.ob ++ (Ds''.map mDef ++ mLp l rc :: mDef D :: F))) (RS P vs2 (envOf a2) cp.rg ++ G) (w2.putObj l (.loop rc)) := hst2
    rw [e1, e2] at h5
    have h6 : St we Se ((mO it.t.rep it.E v (unD z).1 :: dsM (fun j => vs3 (n + j)) ds (unD z).2 0 ++ MS vs3 cx'.ob) ++ (mLp l rc :: mDef D :: F)) (RS P vs2 (envOf a2) cp.rg ++ G) (w2.putObj l (.loop rc)) := St.dropM (B := Ds''.map mDef) (by simpa only [List.append_assoc] using h5)
    have h7 : St we Se (mLp l rc :: mDef D :: (dsM (fun j => vs3 (n + j)) ds (unD z).2 0 ++ (MS vs3 cx'.ob ++ (mO it.t.rep it.E v (unD z).1 :: F)))) (RS P vs2 (envOf a2) cp.rg ++ G) (w2.putObj l (.loop rc)) := by
      refine h6.perm ?_
      have p1 : ((dsM (fun j => vs3 (n + j)) ds (unD z).2 0 ++ MS vs3 cx'.ob) ++ ([mLp l rc, mDef D] ++ F)).Perm ([mLp l rc, mDef D] ++ ((dsM (fun j => vs3 (n + j)) ds (unD z).2 0 ++ MS vs3 cx'.ob) ++ F)) := List.perm_append_comm_assoc ..
      have p2 := List.perm_middle (a := mO it.t.rep it.E v (unD z).1) (l₁ := mLp l rc :: mDef D :: (dsM (fun j => vs3 (n + j)) ds (unD z).2 0 ++ MS vs3 cx'.ob)) (l₂ := F)
      have p3 := (p1.cons (mO it.t.rep it.E v (unD z).1)).trans (by simpa only [List.cons_append, List.append_assoc, List.nil_append] using p2.symm)
      simpa only [List.cons_append, List.append_assoc, List.nil_append] using p3
    refine h7.weak fun S w ha => All.append ?_ (All.right ha)
    have h8 : All S (RS P vs2 (envOf a2) (pinR (rndH pt it.t it.E ds).ds n ++ cx'.rg)) w := by
      have := All.left ha
      rw [hcp] at this; exact this
    rw [RS_app] at h8
    rw [RS_congr (vs := vs2) (env := envOf a2) (fun e he o hro => w_lo o (hr e he o hro)) fun e he => ?_]
    · exact All.right h8
    · have h4 := hsm e (by rw [hcp]; exact List.mem_append.2 (.inr he))
      rw [e_cx e he] at h4
      exact h4.symm
  cases t with
  | n =>
    obtain ⟨z, hz, hout⟩ := out_s (P := P) (cx := cp) (kp := ⟨n + (rndH pt it.t it.E ds).ds.length, [], []⟩) (show outS (addC cp ⟨n + (rndH pt it.t it.E ds).ds.length, [], []⟩) (rndH pt it.t it.E ds) σ'' (fun z => some ((unD z).1, Sum.inl (unD z).2)) = some (ys', q) from by rw [hcp] at hk2 ⊢; exact hk2) hbp
    cases hz
    have hRz := hout (Fr.wd ⟨we, Se, mLp l rB :: mDef D :: F, G⟩ Ds'') (envOf a2) w2 (by rw [hcp] at hR2 ⊢; exact hR2)
    refine ⟨_, _, run_endRound none hl2, rfl, ?_⟩
    have hrr : ({ rB with state := if (none : Option Code).isNone then .ready else .done, pending := none } : Loop) = rR := by rw [hrB, hrR]; rfl
    rw [hrr]
    exact close z rR hRz
  | x i =>
    obtain ⟨ht, hk2⟩ := grd_s hk2
    obtain ⟨z, hz, hout⟩ := out_s (P := P) (cx := cp) (kp := ⟨n + (rndH pt it.t it.E ds).ds.length, [], []⟩) (show outS (addC cp ⟨n + (rndH pt it.t it.E ds).ds.length, [], []⟩) (rndH pt it.t it.E ds) σ'' (fun z => some ((unD z).1, Sum.inr (unD z).2)) = some (ys', q) from by rw [hcp] at hk2 ⊢; exact hk2) hbp
    cases hz
    have hRz := hout (Fr.wd ⟨we, Se, mLp l rB :: mDef D :: F, G⟩ Ds'') (envOf a2) w2 (by rw [hcp] at hR2 ⊢; exact hR2)
    refine ⟨_, _, run_endRound (some (.exit i)) hl2, rfl, ?_⟩
    have hrr : ({ rB with state := if (some (Code.exit i)).isNone then .ready else .done, pending := some (.exit i) } : Loop) = { state := .done, pending := some (tgC τ), fn := fn, tmps := tmps, params := #[pt], assign := a, body := c, defers := D } := by
      rw [hrB, hrR, tg_eqR (fun _ e => by cases e) ht]; rfl
    rw [hrr]
    exact close z _ hRz
  | r =>
    obtain ⟨ht, hk2⟩ := grd_s hk2
    obtain ⟨z, hz, hout⟩ := out_s (P := P) (cx := cp) (kp := ⟨n + (rndH pt it.t it.E ds).ds.length, [], []⟩) (show outS (addC cp ⟨n + (rndH pt it.t it.E ds).ds.length, [], []⟩) (rndH pt it.t it.E ds) σ'' (fun z => some ((unD z).1, Sum.inr (unD z).2)) = some (ys', q) from by rw [hcp] at hk2 ⊢; exact hk2) hbp
    cases hz
    have hRz := hout (Fr.wd ⟨we, Se, mLp l rB :: mDef D :: F, G⟩ Ds'') (envOf a2) w2 (by rw [hcp] at hR2 ⊢; exact hR2)
    refine ⟨_, _, run_endRound (some .ret) hl2, rfl, ?_⟩
    have hrr : ({ rB with state := if (some Code.ret).isNone then .ready else .done, pending := some .ret } : Loop) = { state := .done, pending := some (tgC τ), fn := fn, tmps := tmps, params := #[pt], assign := a, body := c, defers := D } := by
      rw [hrB, hrR, tg_eqR (fun _ e => by cases e) ht]; rfl
    rw [hrr]
    exact close z _ hRz
  | p q => cases hk2
end
end
section
section
variable {P : Program} {cf : Cf} {fr : Fr} {cx σ : Sg} {env : Env} {w : World} {R : Type} {r : R}
theorem range_s (hX : XOK P cf) {g : Operand} {a c : Code} {N : Nd} {K : Tg → Sg → Option R} {Q : Qd} {s : Lp} {it : ISig} {y : AsD it.dom} {τ : Tg} {pt : Nat} {ags : List Nat} {cs : List PD} {Ds : List Nat}
    (hA : DenOK P cf N.n a) (hC : DenOK P cf N.n c) (hna : noR a = true) (hnc : noR c = true) (hrd : N.rd = none) (hpt : pt < N.n) (hg : opv cx σ g = some (.fn it.f cs)) (hit : it ∈ cf.is) (hy : feedC it.dom cs = some y) (hns : s.hd.ns = [])
    (h : rangeD cx σ K s it y τ pt ags (fun cx σ K => den cf a cx σ K) (fun cx σ K => den cf c cx σ K) = some r)
    (hK : ∀ t σ', K t σ' = some r → ∀ Ds' env' w', SmO cx env env' → Rel P (fr.wd Ds') cx σ' env' w' → Q (tgE t) Ds' env' w') (hR : Rel P (fr.wd Ds) cx σ env w) : WpD P N (.rangeFunc g #[pt] a c) Q Ds env w := by
  obtain ⟨⟨ds, ns⟩, sg⟩ := s
  simp only at hns
  subst hns
  obtain ⟨hcl, hcap⟩ := feedC_s hy
  obtain ⟨hB, vs, hst⟩ := hR
  obtain ⟨S0, _, hΓ⟩ := hst.ex
  obtain ⟨cvs, hgv, hlen, hca⟩ := opv_hold hg (gs_lko hΓ g)
  have hRA : Rel P ⟨fr.we, fr.Se, Ds.map mDef ++ fr.F, argFs P it.dom y cvs ++ fr.G⟩ cx σ env w := ⟨hB, vs, hst.weak fun S w ha => All.append (All.left ha) (All.append (All.left (All.right ha)) (All.append (by
    obtain ⟨cvs', hv', hl', hca'⟩ := opv_hold hg (gs_lko ha g)
    rw [hgv] at hv'
    have : cvs = cvs' := by simpa using hv'
    subst this
    exact hcap hl' hca') (All.right (All.right ha))))⟩
  unfold rangeD at h
  simp only at h
  obtain ⟨hcond, h⟩ := grd_s h
  simp only [Bool.and_eq_true] at hcond
  obtain ⟨hm, ⟨hpt', hon⟩, hnot⟩ := hcond
  obtain ⟨hkb, hR1⟩ := rel_keep (ag := ags) (ro := sg.ro) hRA
  obtain ⟨kp, hkp⟩ : ∃ kp, kp = keep σ ags sg.ro := ⟨_, rfl⟩
  rw [← hkp] at h hkb hR1 hnot
  obtain ⟨x0, h1, h2⟩ := out_s (P := P) (cx := addC cx kp) (kp := ⟨kp.nx, [], []⟩) h (bd_keep hkb)
  obtain ⟨r', h3, h4⟩ := bd_s h1
  obtain ⟨vs0, hsl0, hB0, hst0⟩ := rel_out (ds := ds) hm (h2 _ env w hR1)
  obtain ⟨hb, hiok⟩ := hX.is it hit
  have ho : ∀ e ∈ (addC cx kp).ob, e.1 < kp.nx := fun e he => by
    rcases List.mem_append.1 he with he | he
    · exact hkb.o1 e he
    · exact hkb.o2 e he
  have hr : ∀ e ∈ (addC cx kp).rg, ∀ o, refO e.2.2 = some o → o < kp.nx := fun e he o hro => by
    rcases List.mem_append.1 he with he | he
    · exact hkb.r1 e he o hro
    · exact hkb.r2 e he o hro
  intro a0 g1 g2 g3
  refine wpIn_rangeFunc ?_
  intro fn hfn
  rw [show N.F.round = none from hrd]
  obtain ⟨rR, hrR⟩ : ∃ rR : Loop, rR = { state := .ready, pending := none, fn := fn, tmps := a0.tmps, params := #[pt], assign := a, body := c, defers := w.heap.size } := ⟨_, rfl⟩
  obtain ⟨rD, hrD⟩ : ∃ rD : Loop, rD = { state := .done, pending := some (tgC τ), fn := fn, tmps := a0.tmps, params := #[pt], assign := a, body := c, defers := w.heap.size } := ⟨_, rfl⟩
  have hen := run_enterLoop_outer (P := P) (w := w) fn a0.tmps #[pt] a c
  rw [← hrR] at hen
  have hW : St fr.we fr.Se (mLp (w.heap.size + 1) rR :: mDef w.heap.size :: (dsM (fun j => vs0 (kp.nx + j)) ds x0 0 ++ (MS vs0 (addC cx kp).ob ++ (Ds.map mDef ++ fr.F)))) (RS P vs0 env (addC cx kp).rg ++ (argFs P it.dom y cvs ++ fr.G)) ((w.alloc (.deferred (some []))).alloc (.loop rR)) := by
    have q1 := St.allocObj (o := .deferred (some [])) (m := mDef w.heap.size) hst0 (fun k hk => hk) (fun S w' hw => hw)
    have hsz : (w.alloc (.deferred (some []))).heap.size = w.heap.size + 1 := World.size_alloc ..
    refine St.allocObj (o := .loop rR) (m := mLp (w.heap.size + 1) rR) q1 (fun k hk => by rw [hsz]; exact hk) (fun S w' hw => ?_)
    rw [hsz] at hw
    exact hw
  have hW2 := hid_in (x := x0) hsl0 ho hr hW
  have hYS := round_s (P := P) (cf := cf) (cx' := addC cx kp) (env := env) (n := kp.nx) (D := w.heap.size) (l := w.heap.size + 1) (ds := ds) (it := it) (pt := pt) (τ := τ) (a := a) (c := c) (N := N.n) (fn := fn) (tmps := a0.tmps) hA hC hna hnc hpt g1 g3 hm hon hnot ho hr
  rw [← hrR, ← hrD] at hYS
  have hcall := hiok y _ _ _ _ _ x0 r' h3 (w.heap.size + 1) cvs (by omega) hYS _ fr.we fr.Se _ fr.G _ hW2
  have close : ∀ (rc : Loop) (x : DsD ds) (u' : Value) (w3 : World), St fr.we fr.Se (hidM P env (addC cx kp) kp.nx ds w.heap.size (w.heap.size + 1) rc x u' :: (Ds.map mDef ++ fr.F)) fr.G w3 →
      w3.heap[w.heap.size + 1]? = some (.loop rc) ∧ ∀ o, Rel P (fr.wd (w.heap.size :: Ds)) cx (bldS ⟨ds, []⟩ x kp) env (w3.putObj (w.heap.size + 1) (.loop o)) := by
    intro rc x u' w3 hs
    obtain ⟨hsl, q1⟩ := hid_out hs
    refine ⟨mut_frame q1 (i := 0) rfl fun S hp => hp, fun o => ?_⟩
    have q2 := St.putObj (m' := mLp (w.heap.size + 1) o) (o := .loop o) q1 (fun k => Iff.rfl) (fun k hk => hk) (fun S w' hw => hw)
    have q3 : St fr.we fr.Se ([mDef w.heap.size] ++ (dsM (fun j => vsU u' (kp.nx + j)) ds x 0 ++ (MS (vsU u') (addC cx kp).ob ++ (Ds.map mDef ++ fr.F)))) (RS P (vsU u') env (addC cx kp).rg ++ fr.G) (w3.putObj (w.heap.size + 1) (.loop o)) := St.drop (i := 0) q2
    refine rel_in (vs := vsU u') hm hsl (bd_in hm (fun e he => Nat.lt_of_lt_of_le (hkb.o1 e he) (Nat.le_add_right _ _)) (fun e he => Nat.lt_of_lt_of_le (hkb.o2 e he) (Nat.le_add_right _ _)) (fun e he o hro => Nat.lt_of_lt_of_le (hkb.r1 e he o hro) (Nat.le_add_right _ _)) fun e he o hro => Nat.lt_of_lt_of_le (hkb.r2 e he o hro) (Nat.le_add_right _ _)) ?_
    have e1 : MS (vsU u') (addC cx kp).ob = MS (vsU u') kp.ob ++ MS (vsU u') cx.ob := List.map_append
    have e2 : RS P (vsU u') env (addC cx kp).rg = RS P (vsU u') env kp.rg ++ RS P (vsU u') env cx.rg := List.map_append
    rw [e1, e2] at q3
    have q4 : St fr.we fr.Se ((dsM (fun j => vsU u' (kp.nx + j)) ds x 0 ++ (MS (vsU u') kp.ob ++ MS (vsU u') cx.ob)) ++ ([mDef w.heap.size] ++ (Ds.map mDef ++ fr.F))) ((RS P (vsU u') env kp.rg ++ RS P (vsU u') env cx.rg) ++ fr.G) (w3.putObj (w.heap.size + 1) (.loop o)) := by
      refine q3.perm ?_
      rw [← List.append_assoc (dsM _ _ _ _)]
      exact List.perm_append_comm_assoc ..
    show St fr.we fr.Se (dsM _ ds x 0 ++ (MS (vsU u') kp.ob ++ (MS (vsU u') cx.ob ++ ((mDef w.heap.size :: Ds.map mDef) ++ fr.F)))) (RS P (vsU u') env kp.rg ++ (RS P (vsU u') env cx.rg ++ fr.G)) _
    simpa only [List.append_assoc, List.cons_append, List.nil_append] using q4
  refine ⟨w.heap.size + 1, [mkD w.heap.size], ((w.alloc (.deferred (some []))).alloc (.loop rR)), { target := .fn (.func it.f) cvs.toArray, args := #[.func (.yield (w.heap.size + 1)) #[] #[]] }, ((w.alloc (.deferred (some []))).alloc (.loop rR)), it.f, #[.func (.yield (w.heap.size + 1)) #[] #[]] ++ cvs.toArray, ((w.alloc (.deferred (some []))).alloc (.loop rR)), hen, ?_, fun _ _ => trivial, ?_, fun e => by simp [Nd.F, Fence.wide] at e, ?_⟩
  · have : a0.eval g = .func (.func it.f) #[] cvs.toArray := by rw [eval_eq, g3]; exact hgv
    simp only [resolve, this]
    simp [go_sem]
  · simp [invoke, go_sem, run_callFunc hb]
  · have hargs : (#[.func (.yield (w.heap.size + 1)) #[] #[]] ++ cvs.toArray : Array Value) = (Value.func (.yield (w.heap.size + 1)) #[] #[] :: cvs).toArray := by simp
    rw [hargs]
    refine CallsIn.mono (callsIn_wide.2 hcall) ?_
    rintro e w3 ⟨⟨v, rfl⟩, u', hs⟩
    cases hr' : r' with
    | inl x =>
      rw [hr'] at hs h4
      obtain ⟨hl3, hrel⟩ := close rR x u' w3 hs
      refine ⟨none, _, by have := run_endLoop (P := P) hl3 (by rw [hrR]; simp); rw [hrR] at this; exact this, ?_⟩
      exact ⟨g1, w.heap.size :: Ds, by show [mkD w.heap.size] ++ a0.defers = _; rw [g2]; rfl, hK .n _ h4 _ _ _ (by rw [← g3]; exact SmO.refl) (by rw [← g3] at hrel; exact hrel _)⟩
    | inr x =>
      rw [hr'] at hs h4
      obtain ⟨hl3, hrel⟩ := close rD x u' w3 hs
      refine ⟨some (tgC τ), _, by have := run_endLoop (P := P) hl3 (by rw [hrD]; simp); rw [hrD] at this; exact this, ?_⟩
      have fin : ∀ o, liftD N Q (tgE τ) { a0 with defers := [mkD w.heap.size] ++ a0.defers } (w3.putObj (w.heap.size + 1) (.loop o)) := fun o => ⟨g1, w.heap.size :: Ds, by show [mkD w.heap.size] ++ a0.defers = _; rw [g2]; rfl, hK τ _ h4 _ _ _ (by rw [← g3]; exact SmO.refl) (by rw [← g3] at hrel; exact hrel _)⟩
      cases τ with
      | n => exact wpIn_skip (fin _)
      | x i => exact wpIn_exit (fin _)
      | r => exact wpIn_ret (fin _)
      | p q => cases hpt'
end
end
section
section
variable {P : Program} {cf : Cf}
theorem den_s (hm : P.follows .mixedOrders = true) (hT : TTok P cf.tt) (hL : ELok P cf.tt) (hC : ∀ s ∈ cf.cs, SigOK P s) (hX : XOK P cf) {n : Nat} : ∀ (c : Code), okC n c = true → DenOK P cf n c
  | .skip, _, R, r, fr, cx, σ, K, Q, N, hN, hrd, h, Ds, env, w, hK, hR => fun _ h1 h2 h3 => wpIn_skip ⟨h1, Ds, h2, h3 ▸ hK .n σ h Ds env w SmO.refl hR⟩
  | .label _, _, R, r, fr, cx, σ, K, Q, N, hN, hrd, h, Ds, env, w, hK, hR => fun _ h1 h2 h3 => wpIn_label ⟨h1, Ds, h2, h3 ▸ hK .n σ h Ds env w SmO.refl hR⟩
  | .exit id, _, R, r, fr, cx, σ, K, Q, N, hN, hrd, h, Ds, env, w, hK, hR => fun _ h1 h2 h3 => wpIn_exit ⟨h1, Ds, h2, h3 ▸ hK (.x id) σ h Ds env w SmO.refl hR⟩
  | .ret, _, R, r, fr, cx, σ, K, Q, N, hN, hrd, h, Ds, env, w, hK, hR => fun _ h1 h2 h3 => wpIn_ret ⟨h1, Ds, h2, h3 ▸ hK .r σ h Ds env w SmO.refl hR⟩
  | .scope c, ho, R, r, fr, cx, σ, K, Q, N, hN, hrd, h, Ds, env, w, hK, hR => by
    refine WpD_scope (den_s hm hT hL hC hX c ho (K := K) hN hrd h (fun t σ' hk Ds' env' w' hs hR => ?_) hR)
    have := hK t σ' hk Ds' env' w' hs hR
    cases t <;> exact this
  | .region id ops dr, ho, R, r, fr, cx, σ, K, Q, N, hN, hrd, h, Ds, env, w, hK, hR => by
    subst hN
    refine WpD_of ?_
    have := region_s (id := id) (N := N.wd Ds) (fr := fr.wd Ds) hm hT hL hC hX (Q := fun e env w => Q e Ds env w) (kp := fun q σ => K (.p q) σ) (k := fun σ => K .n σ) (fun q σ' hk env' w' hs hR => hK (.p q) σ' hk Ds env' w' hs hR) (fun σ' hk env' w' hs hR => hK .n σ' hk Ds env' w' hs hR) ho h hR
    rwa [Array.toArray_toList] at this
  | .cond c a b, ho, R, r, fr, cx, σ, K, Q, N, hN, hrd, h, Ds, env, w, hK, hR => by
    have ho := (Bool.and_eq_true _ _).mp ho
    have hra : N.rd = none ∨ noR a = true := hrd.imp id fun h => ((Bool.and_eq_true _ _).mp h).1
    have hrb : N.rd = none ∨ noR b = true := hrd.imp id fun h => ((Bool.and_eq_true _ _).mp h).2
    simp only [den] at h
    obtain ⟨hB, vs, hst⟩ := hR
    have hR : Rel P (fr.wd Ds) cx σ env w := ⟨hB, vs, hst⟩
    obtain ⟨S, _, hΓ⟩ := hst.ex
    split at h
    · next hv => exact WpD_cond_t (opv_hold hv (gs_lko hΓ c)) (den_s hm hT hL hC hX a ho.1 hN hra h hK hR)
    · next hv => exact WpD_cond_f (opv_hold hv (gs_lko hΓ c)) (den_s hm hT hL hC hX b ho.2 hN hrb h hK hR)
    · next x hv =>
      have hx : ev env c = .bool x := fV_bool (opv_hold hv (gs_lko hΓ c))
      rcases ifB_s h with ⟨rfl, h⟩ | ⟨rfl, h⟩
      · exact WpD_cond_t hx (den_s hm hT hL hC hX a ho.1 hN hra h hK hR)
      · exact WpD_cond_f hx (den_s hm hT hL hC hX b ho.2 hN hrb h hK hR)
    · cases h
  | .block id c, ho, R, r, fr, cx, σ, K, Q, N, hN, hrd, h, Ds, env, w, hK, hR => by
    refine WpD_block (den_s hm hT hL hC hX c ho (K := fun t σ => match t with
      | .x j => cnd (Nat.beq j id) (K .n σ) (K (.x j) σ)
      | t => K t σ) hN hrd h (fun t σ' hk Ds' env' w' hs hR => ?_) hR)
    cases t with
    | n => exact hK .n σ' hk Ds' env' w' hs hR
    | r => exact hK .r σ' hk Ds' env' w' hs hR
    | p q => exact hK (.p q) σ' hk Ds' env' w' hs hR
    | x j =>
      simp only at hk
      show blockD id Q (.exit j) Ds' env' w'
      simp only [blockD]
      cases hb : Nat.beq j id <;> rw [hb] at hk
      · exact hK (.x j) σ' hk Ds' env' w' hs hR
      · exact hK .n σ' hk Ds' env' w' hs hR
  | .seq a b, ho, R, r, fr, cx, σ, K, Q, N, hN, hrd, h, Ds, env, w, hK, hR => by
    have ho := (Bool.and_eq_true _ _).mp ho
    have hra : N.rd = none ∨ noR a = true := hrd.imp id fun h => ((Bool.and_eq_true _ _).mp h).1
    have hrb : N.rd = none ∨ noR b = true := hrd.imp id fun h => ((Bool.and_eq_true _ _).mp h).2
    simp only [den] at h
    split at h
    · refine WpD_seq (den_s hm hT hL hC hX a ho.1 hN hra h (fun t σ' hk Ds' env' w' hs hR => ?_) hR)
      cases t with
      | n => exact den_s hm hT hL hC hX b ho.2 hN hrb hk (fun t σ2 hk2 Ds2 env2 w2 hs2 hR2 => hK t σ2 hk2 Ds2 env2 w2 (hs.trans hs2) hR2) hR
      | x j => exact hK (.x j) σ' hk Ds' env' w' hs hR
      | r => exact hK .r σ' hk Ds' env' w' hs hR
      | p q => exact hK (.p q) σ' hk Ds' env' w' hs hR
    · next s hs =>
      obtain ⟨x, h1, h2⟩ := bd_s h
      obtain ⟨hkb, hR1⟩ := rel_keep (ag := asg a) (ro := s.ro) hR
      refine WpD_seq (WpD_mono (den_s hm hT hL hC hX a ho.1 (Q := fun e Ds env' w => ∃ t σt, e = tgE t ∧ (match t with
          | .n => den cf b cx σt K
          | t => K t σt) = some r ∧ SmO cx env env' ∧ Rel P (fr.wd Ds) cx σt env' w) hN hra h1 (fun t σ' hk Ds' env' w' hs hR => ?_) hR1) ?_)
      · obtain ⟨y, σt, e1, e2, e3⟩ := inj_s (P := P) hkb hk
        cases e1
        have e4 := (e2 fun t σ => match t with
          | .n => den cf b cx σ K
          | t => K t σ).symm.trans h2
        exact ⟨t, σt, rfl, by cases t <;> exact e4, fun e he => hs e (List.mem_append.2 (.inr he)), e3 _ env' w' hR⟩
      · rintro e Ds' env' w' ⟨t, σt, rfl, hk, hs', hR⟩
        cases t with
        | n => exact den_s hm hT hL hC hX b ho.2 hN hrb hk (fun t σ2 hk2 Ds2 env2 w2 hs2 hR2 => hK t σ2 hk2 Ds2 env2 w2 (hs'.trans hs2) hR2) hR
        | x j => exact hK (.x j) σt hk Ds' env' w' hs' hR
        | r => exact hK .r σt hk Ds' env' w' hs' hR
        | p q => exact hK (.p q) σt hk Ds' env' w' hs' hR
  | .loop c, ho, R, r, fr, cx, σ, K, Q, N, hN, hrd, h, Ds, env, w, hK, hR => by
    simp only [den] at h
    split at h
    · cases h
    · next s hs =>
      obtain ⟨hkb, hR1⟩ := rel_keep (ag := asg c) (ro := s.sg.ro) hR
      obtain ⟨x, h1, h2⟩ := out_s (P := P) (cx := addC cx (keep σ (asg c) s.sg.ro)) (kp := ⟨(keep σ (asg c) s.sg.ro).nx, [], []⟩) h (bd_keep hkb)
      obtain ⟨s0, h3, h4⟩ := bd_s h1
      refine WpD_loop (G := Nat × DsD s.hd.ds) (fun g Ds env' w => loopN _ g.1 g.2 = some s0 ∧ SmO cx env env' ∧ Rel P (fr.wd Ds) (addC cx (keep σ (asg c) s.sg.ro)) (bldS s.hd g.2 ⟨(keep σ (asg c) s.sg.ro).nx, [], []⟩) env' w) (fun g => g.1) (cf.fu, x) ⟨h3, SmO.refl, h2 _ env w hR1⟩ ?_
      rintro ⟨n', x⟩ Ds env1 w ⟨hl, hsm, hR⟩
      cases n' with
      | zero => exact (loopN_z hl).elim
      | succ n' =>
        refine den_s hm hT hL hC hX c ho hN hrd (loopN_s hl) (fun t σ' hk Ds' env' w' hs hR => ?_) hR
        have hsx : SmO cx env env' := hsm.trans fun e he => hs e (List.mem_append.2 (.inr he))
        have fin : (∀ (y : SmD s.sg.tg) (σt : Sg), some y = some s0 → (∀ {R' : Type} (K : Tg → Sg → Option R'), elimS (keep σ (asg c) s.sg.ro) K s.sg.tg y = K t σt) → Rel P (fr.wd Ds') cx σt env' w' → Q (tgE t) Ds' env' w') := fun y σt e1 e2 e3 => by
          cases e1
          exact hK t σt (by rw [← h4]; exact (e2 K).symm) Ds' env' w' hsx e3
        cases t with
        | n =>
          obtain ⟨x', h5, h6⟩ := out_s (P := P) (cx := addC cx (keep σ (asg c) s.sg.ro)) (kp := ⟨(keep σ (asg c) s.sg.ro).nx, [], []⟩) hk (bd_keep hkb)
          exact ⟨(n', x'), ⟨h5, hsx, h6 _ env' w' hR⟩, Nat.lt_succ_self n'⟩
        | x j =>
          obtain ⟨y, σt, e1, e2, e3⟩ := inj_s (P := P) hkb hk
          exact fin y σt e1 e2 (e3 _ env' w' hR)
        | r =>
          obtain ⟨y, σt, e1, e2, e3⟩ := inj_s (P := P) hkb hk
          exact fin y σt e1 e2 (e3 _ env' w' hR)
        | p q =>
          obtain ⟨y, σt, e1, e2, e3⟩ := inj_s (P := P) hkb hk
          exact fin y σt e1 e2 (e3 _ env' w' hR)
  | .rangeFunc g ps a c, ho, R, r, fr, cx, σ, K, Q, N, hN, hrd, h, Ds, env, w, hK, hR => by
    have ho := (Bool.and_eq_true _ _).mp ho
    have ho2 := (Bool.and_eq_true _ _).mp ho.2
    simp only [den] at h
    split at h
    · next f cs s pt hg hs hps =>
      split at h
      · next it τ sh hit htg hns =>
        split at h
        · next y hy =>
          obtain ⟨hnr, h⟩ := grd_s h
          rw [Bool.and_eq_true] at hnr
          obtain ⟨hi1, hi2⟩ := fndI_s hit
          subst hi2
          have hps2 : ps = #[pt] := by cases ps; simp_all
          subst hps2
          have hpt : pt < n := by
            have := ho.1
            simpa using this
          subst hN
          exact range_s hX (den_s hm hT hL hC hX a ho2.1) (den_s hm hT hL hC hX c ho2.2) hnr.1 hnr.2 (hrd.resolve_right (by simp [noR])) hpt hg hi1 hy hns h hK hR
        · cases h
      · cases h
    · cases h
  | .refuse _, _, R, r, fr, cx, σ, K, Q, N, hN, hrd, h, _, _, _, _, _ => by cases h
  | .goto _, _, R, r, fr, cx, σ, K, Q, N, hN, hrd, h, _, _, _, _, _ => by cases h
end
end
section
def takeW : List Nat → World → World
  | [], w => w
  | D :: Ds, w => takeW Ds (w.putObj D (.deferred none))
def marksW : List Nat → World → Prop
  | [], _ => True
  | D :: Ds, w => w.heap[D]? = some (.deferred (some [])) ∧ marksW Ds (w.putObj D (.deferred none))
def mTk (D : Nat) : MF where
  blk k := k = D
  p _ w := w.heap[D]? = some (.deferred none)
  keep h _ hb := (hb D rfl).trans h
  sub h _ := h
  lt h k hk := by subst hk; exact (Array.getElem?_eq_some_iff.1 h).1
section
variable {P : Program} {cf : Cf} {fr : Fr} {cx σ : Sg} {env : Env}
theorem rel_take : ∀ {Ds : List Nat} {w : World}, Rel P (fr.wd Ds) cx σ env w → marksW Ds w ∧ Rel P fr cx σ env (takeW Ds w)
  | [], w, h => ⟨trivial, h⟩
  | D :: Ds, w, h => by
    have h1 : w.heap[D]? = some (.deferred (some [])) := rel_mem h (m := mDef D) (List.mem_cons_self ..) fun S hp => hp
    have h2 := rel_put (A := []) (m := mDef D) (m' := mTk D) (B := Ds.map mDef ++ fr.F) h (fun k => Iff.rfl) (fun k h => h) (o := .deferred none) fun S w' h => h
    have h3 : Rel P (fr.wd Ds) cx σ env (w.putObj D (.deferred none)) := by
      obtain ⟨hB, vs, hst⟩ := h2
      refine ⟨hB, vs, ?_⟩
      have h4 : St fr.we fr.Se ((MS vs σ.ob ++ MS vs cx.ob) ++ ([mTk D] ++ (Ds.map mDef ++ fr.F))) (RS P vs env σ.rg ++ (RS P vs env cx.rg ++ fr.G)) (w.putObj D (.deferred none)) := by
        have : St fr.we fr.Se (MS vs σ.ob ++ (MS vs cx.ob ++ ([] ++ mTk D :: (Ds.map mDef ++ fr.F)))) (RS P vs env σ.rg ++ (RS P vs env cx.rg ++ fr.G)) (w.putObj D (.deferred none)) := hst
        simpa only [List.append_assoc, List.nil_append, List.singleton_append] using this
      have h5 := St.dropM h4
      show St fr.we fr.Se (MS vs σ.ob ++ (MS vs cx.ob ++ (Ds.map mDef ++ fr.F))) (RS P vs env σ.rg ++ (RS P vs env cx.rg ++ fr.G)) _
      simpa only [List.append_assoc] using h5
    obtain ⟨h4, h5⟩ := rel_take h3
    exact ⟨⟨h1, h4⟩, h5⟩
theorem leaves_take {F : Fence} {n : Nat} {fn : Func} {tmps : Array Value} {Q : Ending → World → Prop} : ∀ {Ds : List Nat} {w : World}, marksW Ds w → (∃ v, (results fn tmps).run P (takeW Ds w) = .ok v (takeW Ds w) ∧ Q (.returned v) (takeW Ds w)) → LeavesInM F n P fn tmps Q (Ds.map mkD) .returning w
  | [], w, _, h => h
  | D :: Ds, w, hm, h => ⟨by simp, .inl ⟨D, _, rfl, run_takeDeferred hm.1, leaves_take hm.2 h⟩⟩
theorem calls_wpD {f : FuncId} {fn : Func} {c : Code} {args : List Value} {w : World} {Q : Ending → World → Prop} (hf : P.funcs[f]? = some fn) (hb : fn.body = some c) (hn : Nat.ble args.length fn.ntmps = true)
    (h : ∀ rest, WpD P (Nd.of fn.ntmps) c (fun e Ds env w => (e = .normal ∨ e = .ret) ∧ marksW Ds w ∧ ∀ a : Act, envOf a = env → ∃ v, (results fn a.tmps).run P (takeW Ds w) = .ok v (takeW Ds w) ∧ Q (.returned v) (takeW Ds w)) [] (L ((args.zipIdx 0).map fun x => (x.2, x.1)) rest) w) :
    Calls P f args.toArray w Q := by
  have hn := Nat.le_of_ble_eq_true hn
  refine callsIn_wide.1 (callsIn_of_wp_marks (n := 0) hf hb trivial ?_)
  have hag : agree (envOf ⟨args.toArray ++ Array.replicate (fn.ntmps - args.toArray.size) undef, []⟩) ((args.zipIdx 0).map fun x => (x.2, x.1)) := by
    refine agree_args args 0 _ fun j => ?_
    rw [envOf_args]
    simp [Array.getD_eq_getD_getElem?, List.getD_eq_getElem?_getD]
  refine wpIn_mono (h _ _ (by simp [Nd.of]; omega) rfl (L_agree hag).symm) ?_
  rintro e a' w' ⟨q1, Ds, q2, he, hm, hv⟩
  obtain ⟨v, h1, h2⟩ := hv a' rfl
  rcases he with rfl | rfl
  · show LeavesInM _ _ P fn a'.tmps Q a'.defers .returning w'
    rw [q2, show (Nd.of fn.ntmps).ds = [] from rfl, List.append_nil]
    exact leaves_take hm ⟨v, h1, h2⟩
  · show LeavesInM _ _ P fn a'.tmps Q a'.defers .returning w'
    rw [q2, show (Nd.of fn.ntmps).ds = [] from rfl, List.append_nil]
    exact leaves_take hm ⟨v, h1, h2⟩
theorem leaves_takeP {F : Fence} {n : Nat} {fn : Func} {tmps : Array Value} {ch : List PanicEntry} {Q : Ending → World → Prop} : ∀ {Ds : List Nat} {w : World}, marksW Ds w → Q (.panicked ch) (takeW Ds w) → LeavesInM F n P fn tmps Q (Ds.map mkD) (.panicking ch) w
  | [], w, _, h => h
  | D :: Ds, w, hm, h => ⟨by simp, .inl ⟨D, _, rfl, run_takeDeferred hm.1, leaves_takeP hm.2 h⟩⟩
theorem calls_wpP {f : FuncId} {fn : Func} {c : Code} {args : List Value} {w : World} {Q : Ending → World → Prop} (hf : P.funcs[f]? = some fn) (hb : fn.body = some c) (hn : Nat.ble args.length fn.ntmps = true)
    (h : ∀ rest, WpD P (Nd.of fn.ntmps) c (fun e Ds env w => marksW Ds w ∧ (((e = .normal ∨ e = .ret) ∧ ∀ a : Act, envOf a = env → ∃ v, (results fn a.tmps).run P (takeW Ds w) = .ok v (takeW Ds w) ∧ Q (.returned v) (takeW Ds w)) ∨ ∃ ch, e = .panic ch ∧ Q (.panicked ch) (takeW Ds w))) [] (L ((args.zipIdx 0).map fun x => (x.2, x.1)) rest) w) :
    Calls P f args.toArray w Q := by
  have hn := Nat.le_of_ble_eq_true hn
  refine callsIn_wide.1 (callsIn_of_wp_marks (n := 0) hf hb trivial ?_)
  have hag : agree (envOf ⟨args.toArray ++ Array.replicate (fn.ntmps - args.toArray.size) undef, []⟩) ((args.zipIdx 0).map fun x => (x.2, x.1)) := by
    refine agree_args args 0 _ fun j => ?_
    rw [envOf_args]
    simp [Array.getD_eq_getD_getElem?, List.getD_eq_getElem?_getD]
  refine wpIn_mono (h _ _ (by simp [Nd.of]; omega) rfl (L_agree hag).symm) ?_
  rintro e a' w' ⟨q1, Ds, q2, hm, ⟨he, hv⟩ | ⟨ch, rfl, hq⟩⟩
  · obtain ⟨v, h1, h2⟩ := hv a' rfl
    rcases he with rfl | rfl
    · show LeavesInM _ _ P fn a'.tmps Q a'.defers .returning w'
      rw [q2, show (Nd.of fn.ntmps).ds = [] from rfl, List.append_nil]
      exact leaves_take hm ⟨v, h1, h2⟩
    · show LeavesInM _ _ P fn a'.tmps Q a'.defers .returning w'
      rw [q2, show (Nd.of fn.ntmps).ds = [] from rfl, List.append_nil]
      exact leaves_take hm ⟨v, h1, h2⟩
  · show LeavesInM _ _ P fn a'.tmps Q a'.defers (.panicking ch) w'
    rw [q2, show (Nd.of fn.ntmps).ds = [] from rfl, List.append_nil]
    exact leaves_takeP hm hq
end
end
section
section
variable {P : Program} {cf : Cf} {fr : Fr} {σ : Sg} {vs : Nat → Value} {env : Env} {w : World} {R : Type} {r : R}
theorem L_zip {rest : Env} : ∀ {l : List Value} {i j : Nat} {v : Value}, l[j]? = some v → L ((l.zipIdx i).map fun x => (x.2, x.1)) rest (i + j) = v
  | a :: l, i, 0, v, h => by
    simp only [List.getElem?_cons_zero, Option.some.injEq] at h
    simp [L, h]
  | a :: l, i, j + 1, v, h => by
    simp only [List.zipIdx_cons, List.map_cons, L]
    rw [beq_f (show i + (j + 1) ≠ i by omega)]
    have := L_zip (rest := rest) (l := l) (i := i + 1) (j := j) (v := v) (by simpa using h)
    rw [show i + 1 + j = i + (j + 1) by omega] at this
    exact this
theorem arg_ms : ∀ {dom : List AM} {x : AsD dom} {i : Nat} {l : List Value}, l.length = dom.length → (∀ j v, l[j]? = some v → vs (i + j) = v) → MS vs (argS dom x i).2 = argMs dom x l
  | [], _, _, _, _, _ => rfl
  | a :: dom, x, i, [], hl, _ => by cases hl
  | a :: dom, x, i, v :: l, hl, h => by
    have ih : MS vs (argS dom x.2 (i + 1)).2 = argMs dom x.2 l := arg_ms (by simpa using hl) fun j v hj => by
      have := h (j + 1) v (by simpa using hj)
      rw [← this]; congr 1; omega
    have h0 : vs i = v := h 0 v rfl
    cases a with
    | own t E =>
      show mO t.rep E (vs i) x.1 :: MS vs (argS dom x.2 (i + 1)).2 = mO t.rep E v x.1 :: argMs dom x.2 l
      rw [ih, h0]
    | var t E =>
      show mP t.rep.c E (vs i) x.1 :: MS vs (argS dom x.2 (i + 1)).2 = mP t.rep.c E v x.1 :: argMs dom x.2 l
      rw [ih, h0]
    | _ => exact ih
theorem arg_rs {S : Nat → Prop} : ∀ {dom : List AM} {x : AsD dom} {i : Nat} {l : List Value}, l.length = dom.length → (∀ j v, l[j]? = some v → vs (i + j) = v ∧ env (i + j) = v) → All S (argFs P dom x l) w → All S (RS P vs env (argS dom x i).1) w
  | [], _, _, _, _, _, _ => trivial
  | a :: dom, x, i, [], hl, _, _ => by cases hl
  | a :: dom, x, i, v :: l, hl, h, hA => by
    have ih : All S (RS P vs env (argS dom x.2 (i + 1)).1) w := arg_rs (l := l) (by simpa using hl) (fun j v hj => by
      have := h (j + 1) v (by simpa using hj)
      rw [show i + 1 + j = i + (j + 1) by omega]; exact this) hA.2
    have h0 : vs i = v ∧ env i = v := h 0 v rfl
    have hA1 : (amF P a x.1 v).p S w := hA.1
    cases a with
    | d t => exact ⟨show (fV t.rep x.1 (env i)).p S w by rw [h0.2]; exact hA1, ih⟩
    | q t => exact ⟨show (fP t.rep x.1 (env i)).p S w by rw [h0.2]; exact hA1, ih⟩
    | own t E => exact ⟨show env i = vs i by rw [h0.1, h0.2], ih⟩
    | var t E =>
      obtain ⟨b, hb⟩ := hA1
      exact ⟨⟨show env i = vs i by rw [h0.1, h0.2], b, h0.1.trans hb⟩, ih⟩
    | fn dom' cod' => exact ⟨show (fnF P dom' cod' x.1 (env i)).p S w by rw [h0.2]; exact hA1, ih⟩
theorem arg_ob : ∀ {dom : List AM} {x : AsD dom} {i : Nat}, ∀ e ∈ (argS dom x i).2, e.1 < i + dom.length
  | [], _, _, e, he => absurd he List.not_mem_nil
  | a :: dom, x, i, e, he => by
    have ih : ∀ e ∈ (argS dom x.2 (i + 1)).2, e.1 < i + (a :: dom).length := fun e he => by
      have := arg_ob e he
      simp only [List.length_cons]; omega
    cases a with
    | own t E =>
      rcases List.mem_cons.1 (show e ∈ (i, Od.own t E x.1) :: (argS dom x.2 (i + 1)).2 from he) with rfl | he
      · simp only [List.length_cons]; omega
      · exact ih e he
    | var t E =>
      rcases List.mem_cons.1 (show e ∈ (i, Od.var t E x.1) :: (argS dom x.2 (i + 1)).2 from he) with rfl | he
      · simp only [List.length_cons]; omega
      · exact ih e he
    | _ => exact ih e he
theorem arg_ref : ∀ {dom : List AM} {x : AsD dom} {i : Nat}, ∀ e ∈ (argS dom x i).1, ∀ p, refO e.2.2 = some p → p < i + dom.length
  | [], _, _, e, he => absurd he List.not_mem_nil
  | a :: dom, x, i, e, he => by
    intro p hp
    have ih : ∀ e ∈ (argS dom x.2 (i + 1)).1, ∀ p, refO e.2.2 = some p → p < i + (a :: dom).length := fun e he p hp => by
      have := arg_ref e he p hp
      simp only [List.length_cons]; omega
    cases a with
    | own t E =>
      rcases List.mem_cons.1 (show e ∈ (i, 0, Dv.ow i) :: (argS dom x.2 (i + 1)).1 from he) with rfl | he
      · cases hp; simp only [List.length_cons]; omega
      · exact ih e he p hp
    | var t E =>
      rcases List.mem_cons.1 (show e ∈ (i, 0, Dv.vs i t) :: (argS dom x.2 (i + 1)).1 from he) with rfl | he
      · cases hp; simp only [List.length_cons]; omega
      · exact ih e he p hp
    | d t =>
      rcases List.mem_cons.1 (show e ∈ (i, 0, Dv.d t x.1) :: (argS dom x.2 (i + 1)).1 from he) with rfl | he
      · cases hp
      · exact ih e he p hp
    | q t =>
      rcases List.mem_cons.1 (show e ∈ (i, 0, Dv.q t x.1) :: (argS dom x.2 (i + 1)).1 from he) with rfl | he
      · cases hp
      · exact ih e he p hp
    | fn d c =>
      rcases List.mem_cons.1 (show e ∈ (i, 0, Dv.fp d c x.1) :: (argS dom x.2 (i + 1)).1 from he) with rfl | he
      · cases hp
      · exact ih e he p hp
theorem rel_frzD : ∀ (l : List ResultVar) (ms : List RM) {σ : Sg}, Rel P fr ⟨0, [], []⟩ σ env w → Rel P fr ⟨0, [], []⟩ (frzD σ l ms) env w
  | [], _, _, h => by unfold frzD; exact h
  | .tmp t :: l, [], _, h => by unfold frzD; exact h
  | .tmp t :: l, .d _ :: ms, _, h => by unfold frzD; exact rel_frzD l ms (rel_frz _ h)
  | .tmp t :: l, .own _ _ :: ms, _, h => by unfold frzD; exact rel_frzD l ms h
  | .tmp t :: l, .var _ _ :: ms, _, h => by unfold frzD; exact rel_frzD l ms h
  | .cell t E :: l, [], _, h => by unfold frzD; exact h
  | .cell t E :: l, m :: ms, _, h => by unfold frzD; exact rel_frzD l ms h
theorem retF_s (hT : TTok P cf.tt) {rv : ResultVar} {m : RM} {k : m.D → List Nat → Option R} (h : retF cf σ rv m k = some r) : ∃ x os, k x os = some r ∧
    ∀ vs (fr : Fr) env (A : List MF) (Γ : List FF) w (os' : List Nat), (∀ S w, All S Γ w → ∀ t, Lk P vs env S w ⟨0, [], []⟩ σ t) → (∀ o ∈ os, has os' o = false) → St fr.we fr.Se (A ++ OS vs fr ⟨0, [], []⟩ (delos σ.ob os')) Γ w →
      ∃ v, resE P w env rv v ∧ St fr.we fr.Se (rmM m x v ++ (A ++ OS vs fr ⟨0, [], []⟩ (delos σ.ob (os ++ os')))) (rmF m x v ++ Γ) w := by
  cases rv with
  | tmp t =>
    cases m with
    | d s =>
      simp only [retF] at h
      have hsome := h
      obtain ⟨y, h, hy⟩ := asD_s h
      refine ⟨y, [], h, fun vs fr env A Γ w os' hl _ hst => ⟨env t, rfl, ?_⟩⟩
      refine hst.weak fun S w hΓ => ⟨?_, hΓ⟩
      cases hg : get ⟨0, [], []⟩ σ t 0 with
      | none => rw [hg] at hsome; cases hsome
      | some v => exact hy P vs S w v _ hg (hl S w hΓ t 0 v hg)
    | own s E =>
      simp only [retF] at h
      obtain ⟨x, os, h1, _, h2, h3⟩ := gatF_s h
      refine ⟨x, os, h1, fun vs fr env A Γ w os' hl hn hst => ⟨env t, rfl, ?_⟩⟩
      exact h3 P vs fr env A Γ w os' (fun S w hΓ => hl S w hΓ t) hn hst
    | var s E =>
      simp only [retF] at h
      obtain ⟨x, os, h1, _, h2, h3⟩ := gatF_s h
      refine ⟨x, os, h1, fun vs fr env A Γ w os' hl hn hst => ⟨env t, rfl, ?_⟩⟩
      have h4 := h3 P vs fr env A Γ w os' (fun S w hΓ => hl S w hΓ t) hn hst
      exact h4.weak fun S w hΓ => ⟨(h2 P vs env S w (hl S w hΓ)).2, hΓ⟩
  | cell t E =>
    cases m with
    | own s E' => simp only [retF] at h; cases h
    | var s E' => simp only [retF] at h; cases h
    | d s =>
      simp only [retF] at h
      split at h
      · next o s0 ti hg hti =>
        split at h
        · next s' E' z ho =>
          obtain ⟨hE, h1⟩ := grd_s h
          have hE := beq_t hE
          subst hE
          obtain ⟨e, h2⟩ := cast_s h1
          cases e
          obtain ⟨e, h3⟩ := cast_s h2
          cases e
          refine ⟨_, [o], h3, fun vs fr env A Γ w os' hl hn hst => ?_⟩
          have hp := os_perm (vs := vs) (fr := fr) (cx := ⟨0, [], []⟩) ((fndO_delos (hn o (List.mem_cons_self ..))).trans ho)
          have h3 := St.mid (St.perm hst (List.Perm.append_left _ hp))
          obtain ⟨S, _, hΓ⟩ := hst.ex
          obtain ⟨hv, b, hb⟩ := hl S w hΓ t 0 _ hg
          obtain ⟨⟨zero, ht, _⟩, _⟩ := hT E ti hti
          have h4 : St fr.we fr.Se (mP ti.ty.rep.c E (vs o) z :: (A ++ OS vs fr ⟨0, [], []⟩ (delo (delos σ.ob os') o))) Γ w := h3
          obtain ⟨b', hb', h5⟩ := h4.openP 0 rfl
          rw [hb] at hb'; cases hb'
          refine Ret_cell 0 h5 rfl (hv.trans hb) ht fun v hs hr => ⟨v, hr, ?_⟩
          exact St.drop (i := 0) hs
        · cases h
      · cases h
theorem retD_s (hT : TTok P cf.tt) : ∀ {rvs : List ResultVar} {cod : List RM} {k : RsD cod → List Nat → Option R}, retD cf σ rvs cod k = some r → ∃ x os, k x os = some r ∧
    ∀ vs (fr : Fr) env (Γ : List FF) w, (∀ S w, All S Γ w → ∀ t, Lk P vs env S w ⟨0, [], []⟩ σ t) → St fr.we fr.Se (OS vs fr ⟨0, [], []⟩ σ.ob) Γ w →
      ∃ us, us.length = cod.length ∧ ResAll P w env rvs us ∧ St fr.we fr.Se (resMs cod x us ++ OS vs fr ⟨0, [], []⟩ (delos σ.ob os)) (resFs cod x us ++ Γ) w
  | [], [], k, h => ⟨(), [], h, fun vs fr env Γ w _ hst => ⟨[], rfl, trivial, hst⟩⟩
  | [v], [m], k, h => by
    obtain ⟨x, os, h1, h2⟩ := retF_s hT (h : retF cf σ v m k = some r)
    refine ⟨x, os, h1, fun vs fr env Γ w hl hst => ?_⟩
    obtain ⟨u, h3, h4⟩ := h2 vs fr env [] Γ w [] hl (fun _ _ => rfl) hst
    rw [List.append_nil] at h4
    exact ⟨[u], rfl, ⟨h3, trivial⟩, h4⟩
  | v :: v' :: rvs, m :: m' :: ms, k, h => by
    obtain ⟨x, o, h1, h2⟩ := retF_s hT (h : retF cf σ v m _ = some r)
    obtain ⟨y, os, h3, h4⟩ := retD_s hT h1
    obtain ⟨hn, h3⟩ := grd_s h3
    refine ⟨(x, y), o ++ os, h3, fun vs fr env Γ w hl hst => ?_⟩
    obtain ⟨us, h5, h6, h7⟩ := h4 vs fr env Γ w hl hst
    obtain ⟨u, h8, h9⟩ := h2 vs fr env (resMs (m' :: ms) y us) (resFs (m' :: ms) y us ++ Γ) w os (fun S w hΓ => hl S w (All.right hΓ)) (none_in hn) h7
    refine ⟨u :: us, by simpa using h5, ⟨h8, h6⟩, ?_⟩
    show St _ _ ((rmM m x u ++ resMs (m' :: ms) y us) ++ _) ((rmF m x u ++ resFs (m' :: ms) y us) ++ Γ) w
    rw [List.append_assoc, List.append_assoc]
    exact h9
  | [], _ :: _, _, h => by cases h
  | [_], [], _, h => by cases h
  | [_], _ :: _ :: _, _, h => by cases h
  | _ :: _ :: _, [], _, h => by cases h
  | _ :: _ :: _, [_], _, h => by cases h
theorem denF_s (hm : P.follows .mixedOrders = true) (hT : TTok P cf.tt) (hL : ELok P cf.tt) (hC : ∀ s ∈ cf.cs, SigOK P s) (hX : XOK P cf) {s : Sig} {fn : Func}
    (hf : P.funcs[s.f]? = some fn) (hb : fnB P s.f = true) (hk : s.bk = 0) (hM : ∀ x r, s.M x = some r → denF cf fn s.dom s.cod x = some r) : SigOK P s := by
  refine ⟨hb, fun x r h vs hlen => ?_⟩
  rw [hk]
  show FnG P s.f vs.toArray (argMs s.dom x vs) (argFs P s.dom x vs) oneOr (fun us => resMs s.cod r us) (fun us => resFs s.cod r us) (fun us => us.length = s.cod.length)
  have h := hM x r h
  unfold denF at h
  split at h
  · next c hc =>
    obtain ⟨ho, h⟩ := grd_s h
    rw [Bool.and_eq_true] at ho
    intro we Se F G w hst
    refine calls_wpD hf hc (by rw [hlen]; exact ho.2) fun rest => ?_
    refine den_s (fr := ⟨we, Se, F, G⟩) (N := Nd.of fn.ntmps) hm hT hL hC hX c ho.1 rfl (.inl rfl) h (fun t σ' hk Ds env w _ hR => ?_) ?_
    · obtain ⟨hmk, hR⟩ := rel_take hR
      have fin : retD cf (frzD σ' fn.results.toList s.cod) fn.results.toList s.cod (fun y _ => some y) = some r → ∀ a : Act, envOf a = env →
          ∃ v, (results fn a.tmps).run P (takeW Ds w) = .ok v (takeW Ds w) ∧ ∃ u : List Value, Ending.returned v = .returned (oneOr u) ∧ u.length = s.cod.length ∧ St we Se (resMs s.cod r u ++ F) (resFs s.cod r u ++ G) (takeW Ds w) := fun h a ha => by
        have hR1 := rel_frzD fn.results.toList s.cod hR
        generalize frzD σ' fn.results.toList s.cod = σ1 at h hR1
        obtain ⟨hB, vs, hst⟩ := hR1
        obtain ⟨y, os, e1, e2⟩ := retD_s hT h
        cases e1
        obtain ⟨us, h1, h2, h3⟩ := e2 vs ⟨we, Se, F, G⟩ env _ _ (fun S w hΓ t => gs_lk hΓ t) hst
        refine ⟨_, run_results (rs := fn.results.toList) (by rw [Array.toArray_toList]) (ha ▸ h2), us, rfl, h1, ?_⟩
        exact (St.dropM (B := MS vs (delos σ1.ob os)) h3).weak fun S w hΓ => All.append (All.left hΓ) (All.right (All.right hΓ))
      cases t with
      | n => exact ⟨.inl rfl, hmk, fin hk⟩
      | r => exact ⟨.inr rfl, hmk, fin hk⟩
      | x j => cases hk
      | p q => cases hk
    · have e0 : ∀ j v, vs[j]? = some v → vs.getD (0 + j) undef = v := fun j v hj => by
        rw [Nat.zero_add, List.getD_eq_getElem?_getD, hj]; rfl
      refine ⟨⟨fun e he => ?_, fun _ he => absurd he List.not_mem_nil, fun e he p hp => ?_, fun _ he => absurd he List.not_mem_nil⟩, fun o => vs.getD o undef, ?_⟩
      · have := arg_ob e he; simpa using this
      · have := arg_ref e he p hp; simpa using this
      · have e1 : MS (fun o => vs.getD o undef) (argS s.dom x 0).2 = argMs s.dom x vs := arg_ms hlen e0
        show St we Se (MS _ (argS s.dom x 0).2 ++ ([] ++ F)) _ w
        rw [e1]
        exact hst.weak fun S w hΓ => All.append (arg_rs hlen (fun j v hj => ⟨e0 j v hj, L_zip hj⟩) (All.left hΓ)) (All.right hΓ)
  · cases h
theorem pin_rs {S : Nat → Prop} {pn : Nat → Value} : ∀ {dom : List AM} {i : Nat}, (∀ j, j < dom.length → env (i + j) = pn (i + j)) → All S (RS P vs env (pinL pn dom i)) w
  | [], _, _ => trivial
  | a :: dom, i, h => by
    have ih : All S (RS P vs env (pinL pn dom (i + 1))) w := pin_rs fun j hj => by
      have := h (j + 1) (by simp only [List.length_cons]; omega)
      rw [show i + 1 + j = i + (j + 1) by omega]; exact this
    cases a with
    | own t E => exact ⟨h 0 (by simp), ih⟩
    | var t E => exact ⟨h 0 (by simp), ih⟩
    | _ => exact ih
theorem pin_own {S : Nat → Prop} {l : List Value} : ∀ {dom : List AM} {i : Nat} {us : List Value}, All S (RS P vs env (pinL (fun o => l.getD o undef) dom i)) w → ResAll P w env (ownT dom i) us → us = ownVs dom (l.drop i)
  | [], _, [], _, _ => rfl
  | [], _, _ :: _, _, h => h.elim
  | a :: dom, i, us, hA, h => by
    have e0 : (l.drop i).headD undef = l.getD i undef := by
      rw [List.headD_eq_head?_getD, List.head?_drop, List.getD_eq_getElem?_getD]
    have e1 : (l.drop i).tail = l.drop (i + 1) := by rw [List.tail_drop]
    cases a with
    | own t E =>
      cases us with
      | nil => exact h.elim
      | cons u us =>
        have h1 : env i = u := h.1
        have h2 : env i = l.getD i undef := hA.1
        have ih := pin_own (dom := dom) (i := i + 1) hA.2 h.2
        show u :: us = (l.drop i).headD undef :: ownVs dom (l.drop i).tail
        rw [e0, e1, ← ih, ← h1, h2]
    | var t E =>
      cases us with
      | nil => exact h.elim
      | cons u us =>
        have h1 : env i = u := h.1
        have h2 : env i = l.getD i undef := hA.1
        have ih := pin_own (dom := dom) (i := i + 1) hA.2 h.2
        show u :: us = (l.drop i).headD undef :: ownVs dom (l.drop i).tail
        rw [e0, e1, ← ih, ← h1, h2]
    | d t =>
      have ih := pin_own (dom := dom) (i := i + 1) hA h
      show us = ownVs dom (l.drop i).tail
      rw [e1]; exact ih
    | q t =>
      have ih := pin_own (dom := dom) (i := i + 1) hA h
      show us = ownVs dom (l.drop i).tail
      rw [e1]; exact ih
    | fn d c =>
      have ih := pin_own (dom := dom) (i := i + 1) hA h
      show us = ownVs dom (l.drop i).tail
      rw [e1]; exact ih
theorem resAll_app : ∀ {a b : List ResultVar} {us : List Value}, ResAll P w env (a ++ b) us → ResAll P w env a (us.take a.length) ∧ ResAll P w env b (us.drop a.length)
  | [], b, us, h => ⟨trivial, h⟩
  | r :: a, b, [], h => h.elim
  | r :: a, b, u :: us, h => by
    obtain ⟨h1, h2⟩ := resAll_app (a := a) (b := b) h.2
    exact ⟨⟨h.1, h1⟩, h2⟩
theorem pin_ref {pn : Nat → Value} : ∀ {dom : List AM} {i : Nat}, ∀ e ∈ pinL pn dom i, refO e.2.2 = none
  | [], _, e, he => absurd he List.not_mem_nil
  | a :: dom, i, e, he => by
    cases a with
    | own t E =>
      rcases List.mem_cons.1 (show e ∈ (i, 0, Dv.pin (pn i)) :: pinL pn dom (i + 1) from he) with rfl | he
      · rfl
      · exact pin_ref e he
    | var t E =>
      rcases List.mem_cons.1 (show e ∈ (i, 0, Dv.pin (pn i)) :: pinL pn dom (i + 1) from he) with rfl | he
      · rfl
      · exact pin_ref e he
    | d t => exact pin_ref (dom := dom) (i := i + 1) e he
    | q t => exact pin_ref (dom := dom) (i := i + 1) e he
    | fn d c => exact pin_ref (dom := dom) (i := i + 1) e he
theorem denG_s (hm : P.follows .mixedOrders = true) (hT : TTok P cf.tt) (hL : ELok P cf.tt) (hC : ∀ s ∈ cf.cs, SigOK P s) (hX : XOK P cf) {s : Sig} {fn : Func}
    (hf : P.funcs[s.f]? = some fn) (hb : fnB P s.f = true) (hM : ∀ pn x r, s.M x = some r → denG cf fn s.dom s.cod s.bk pn x = some r) : SigOK P s := by
  refine ⟨hb, fun x r h vs hlen => ?_⟩
  have h := hM (fun o => vs.getD o undef) x r h
  unfold denG at h
  split at h
  · next c hc =>
    obtain ⟨ho, h⟩ := grd_s h
    simp only [Bool.and_eq_true] at ho
    obtain ⟨⟨⟨⟨ho1, ho2⟩, ho3⟩, ho4⟩, ho5⟩ := ho
    have ho3 := beq_t ho3
    have ho5 : 0 < s.bk := Nat.blt_eq.mp ho5
    obtain ⟨b, hbk⟩ : ∃ b, s.bk = b + 1 := ⟨s.bk - 1, by omega⟩
    rw [hbk]
    intro we Se F G w hst
    refine calls_wpD hf hc (by rw [hlen]; exact ho2) fun rest => ?_
    have e0 : ∀ j v, vs[j]? = some v → vs.getD (0 + j) undef = v := fun j v hj => by
      rw [Nat.zero_add, List.getD_eq_getElem?_getD, hj]; rfl
    refine den_s (fr := ⟨we, Se, F, G⟩) (N := Nd.of fn.ntmps) hm hT hL hC hX c ho1 rfl (.inl rfl) h (fun t σ' hk Ds env w _ hR => ?_) ?_
    · obtain ⟨hmk, hR⟩ := rel_take hR
      have fin : retD cf (frzD σ' (fn.results.toList ++ ownT s.dom 0) s.cod) (fn.results.toList ++ ownT s.dom 0) s.cod (fun y _ => some y) = some r → ∀ a : Act, envOf a = env →
          ∃ v, (results fn a.tmps).run P (takeW Ds w) = .ok v (takeW Ds w) ∧ ∃ u : List Value, Ending.returned v = .returned (outV (b + 1) s.cod.length u) ∧ outOk s.dom vs (b + 1) s.cod.length u ∧ St we Se (resMs s.cod r u ++ F) (resFs s.cod r u ++ G) (takeW Ds w) := fun h a ha => by
        obtain ⟨hB0, vs0, hst0⟩ := hR
        obtain ⟨S0, _, hΓ0⟩ := hst0.ex
        have hpin : All S0 (RS P vs0 env (pinL (fun o => vs.getD o undef) s.dom 0)) _ := All.left (All.right hΓ0)
        have hR0 : Rel P ⟨we, Se, F, G⟩ ⟨0, [], []⟩ σ' env (takeW Ds w) := ⟨⟨hB0.o1, fun _ he => absurd he List.not_mem_nil, hB0.r1, fun _ he => absurd he List.not_mem_nil⟩, vs0, hst0.weak fun S w ha => All.append (All.left ha) (All.right (All.right ha))⟩
        have hR1 := rel_frzD (fn.results.toList ++ ownT s.dom 0) s.cod hR0
        generalize frzD σ' (fn.results.toList ++ ownT s.dom 0) s.cod = σ1 at h hR1
        obtain ⟨hB, vs1, hst⟩ := hR1
        obtain ⟨y, os, e1, e2⟩ := retD_s hT h
        cases e1
        obtain ⟨us, h1, h2, h3⟩ := e2 vs1 ⟨we, Se, F, G⟩ env _ _ (fun S w hΓ t => gs_lk hΓ t) hst
        obtain ⟨h4, h5⟩ := resAll_app h2
        have hn : s.cod.length - (b + 1) = fn.results.toList.length := by omega
        have hback := pin_own hpin h5
        rw [List.drop_zero] at hback
        refine ⟨_, run_results (rs := fn.results.toList) (by rw [Array.toArray_toList]) (ha ▸ h4), us, ?_, ⟨h1, by rw [hn]; exact hback⟩, ?_⟩
        · show Ending.returned _ = .returned (oneOr (us.take (s.cod.length - (b + 1))))
          rw [hn]
        · exact (St.dropM (B := MS vs1 (delos σ1.ob os)) h3).weak fun S w hΓ => All.append (All.left hΓ) (All.right (All.right hΓ))
      cases t with
      | n => exact ⟨.inl rfl, hmk, fin hk⟩
      | r => exact ⟨.inr rfl, hmk, fin hk⟩
      | x j => cases hk
      | p q => cases hk
    · refine ⟨⟨fun e he => ?_, fun _ he => absurd he List.not_mem_nil, fun e he p hp => ?_, fun e he p hp => ?_⟩, fun o => vs.getD o undef, ?_⟩
      · have := arg_ob e he; simpa using this
      · have := arg_ref e he p hp; simpa using this
      · rw [pin_ref e he] at hp; cases hp
      · have e1 : MS (fun o => vs.getD o undef) (argS s.dom x 0).2 = argMs s.dom x vs := arg_ms hlen e0
        show St we Se (MS _ (argS s.dom x 0).2 ++ ([] ++ F)) _ w
        rw [e1]
        refine hst.weak fun S w hΓ => All.append (arg_rs hlen (fun j v hj => ⟨e0 j v hj, L_zip hj⟩) (All.left hΓ)) (All.append (pin_rs fun j hj => ?_) (All.right hΓ))
        have hj2 : vs[j]? = some (vs[j]'(by omega)) := List.getElem?_eq_getElem (by omega)
        show L _ _ (0 + j) = vs.getD (0 + j) undef
        rw [e0 j _ hj2]
        exact L_zip hj2
  · cases h
end
end
section
section
variable {P : Program}
def zc : Ty → List Value
  | .i => [.int .i64 0]
  | .u => [.int .u64 0]
  | .b => [.bool false]
  | .ch => [.int .u8 0]
  | .tx => [.string ByteArray.empty]
  | .l _ => [.slice none 0 0]
  | .p s t => zc s ++ zc t
  | .a k t => (List.replicate k (zc t)).flatten
  | .po _ => [.pointer none]
  | .tr => [.pointer none]
  | .er => [.nilIface]
  | .w1 t => zc t
theorem elems_z {α : Type} {e : ERep α} {S : Nat → Prop} {w : World} {x : α} {c : List Value} (h : e.p S x c w) : ∀ k, Elems e S (List.replicate k x) (List.replicate k c).flatten w
  | 0 => rfl
  | k + 1 => ⟨c, _, rfl, h, elems_z h k⟩
theorem zc_s (S : Nat → Prop) (w : World) : ∀ t : Ty, t.rep.p S t.z (zc t) w
  | .i => ⟨rfl, show (-9223372036854775808 : Int) ≤ 0 by decide, show (0 : Int) ≤ 9223372036854775807 by decide⟩
  | .u => ⟨rfl, show (0 : Nat) < 18446744073709551616 by decide⟩
  | .b => rfl
  | .ch => ⟨rfl, show (0 : Nat) < 256 by decide⟩
  | .tx => ⟨ByteArray.empty, rfl, rfl, by decide⟩
  | .l _ => ⟨_, rfl, SlP.nil⟩
  | .p s t => ⟨_, _, rfl, zc_s S w s, zc_s S w t⟩
  | .a k t => ⟨List.length_replicate, elems_z (zc_s S w t) k⟩
  | .po _ => rfl
  | .tr => rfl
  | .er => .inl ⟨rfl, rfl⟩
  | .w1 t => zc_s S w t
theorem zc_len (t : Ty) : (zc t).length = t.n := by
  have := t.rep.len (zc_s (fun _ => True) default t)
  rw [this, t.n_rep]
theorem zc_fld : ∀ {k : Nat} {t : Ty} {i : Nat} {f : Fl t.D}, fld k t i = some f → ∃ pre post, zc t = pre ++ zc f.f ++ post ∧ pre.length = f.off
  | 0, .w1 t, 0, f, h => by
    simp only [fld, Option.some.injEq] at h
    subst h; exact ⟨[], [], by simp [zc], rfl⟩
  | 0, .w1 t, _ + 1, _, h => by cases h
  | 0, .i, _, _, h => by cases h
  | 0, .u, _, _, h => by cases h
  | 0, .b, _, _, h => by cases h
  | 0, .l _, _, _, h => by cases h
  | 0, .p _ _, _, _, h => by cases h
  | 0, .a _ _, _, _, h => by cases h
  | 0, .ch, _, _, h => by cases h
  | 0, .tx, _, _, h => by cases h
  | 0, .po _, _, _, h => by cases h
  | 0, .tr, _, _, h => by cases h
  | 0, .er, _, _, h => by cases h
  | 1, t, i, f, h => by
    unfold fld at h
    cases hb : Nat.beq i 0 <;> rw [hb] at h
    · cases h
    · simp only [cond_true, Option.some.injEq] at h
      subst h; exact ⟨[], [], by simp [Fl.self], rfl⟩
  | k + 2, .p s t, 0, f, h => by
    simp only [fld, Option.some.injEq] at h
    subst h; exact ⟨[], zc t, by simp [zc], rfl⟩
  | k + 2, .p s t, i + 1, f, h => by
    simp only [fld] at h
    split at h
    · next f' hf =>
      simp only [Option.some.injEq] at h
      subst h
      obtain ⟨pre, post, h1, h2⟩ := zc_fld hf
      refine ⟨zc s ++ pre, post, ?_, by rw [List.length_append, zc_len, h2]⟩
      simp only [zc]
      rw [h1]
      simp only [List.append_assoc]
    · cases h
  | k + 2, .i, i, f, h => by simp [fld] at h
  | k + 2, .u, i, f, h => by simp [fld] at h
  | k + 2, .b, i, f, h => by simp [fld] at h
  | k + 2, .l _, i, f, h => by simp [fld] at h
  | k + 2, .a _ _, i, f, h => by simp [fld] at h
def stGot (P : Program) (t n : Nat) : (List (Option Nat) × List (Option (Nat × Bool × Nat))) × Option (List (Option (Nat × Nat))) := (((List.range (n + (1 - n))).map fun i => fldB P t i, (List.range (n + (1 - n))).map fun i => fldT P t i), match plB P t with
  | some a => some (a.toList.map some)
  | none => none)
def stWant (ty : Ty) (n : Nat) : (List (Option Nat) × List (Option (Nat × Bool × Nat))) × Option (List (Option (Nat × Nat))) := (((List.range (n + (1 - n))).map fun i => (fld n ty i).map (·.off), (List.range (n + (1 - n))).map fun i => (fld n ty i).map fun f => (f.off, f.f.rep.agg, f.f.n)), some ((List.range (n + (1 - n))).map fun i => (fld n ty i).map fun f => (f.off, f.f.n)))
def TKchk (P : Program) (t : TypeId) (ti : TI) : Prop := match ti.k with
  | .int k => P.underlying t = some (.int k)
  | .bool => P.underlying t = some .bool
  | .str => P.underlying t = some .string
  | .sl E => P.underlying t = some (.slice E) ∧ ∃ e, ti.ty = .l e
  | .st n => ti.ty.rep.agg = true ∧ stGot P t n = stWant ti.ty n
  | .ar k E => ti.ty.rep.agg = true ∧ P.underlying t = some (.array k E)
  | .pt E => P.underlying t = some (.pointer E)
  | .ie => P.underlying t = some (.interface (P.methodsAt t))
theorem fld_lt0 : ∀ {n : Nat} {t : Ty} {i : Nat} {f : Fl t.D}, 0 < n → fld n t i = some f → i < n
  | 0, _, _, _, h0, h => absurd h0 (Nat.lt_irrefl 0)
  | 1, t, i, f, _, h => by
    simp only [fld] at h
    cases hb : Nat.beq i 0 <;> rw [hb] at h
    · cases h
    · rw [beq_t hb]; exact Nat.zero_lt_one
  | n + 2, .p s t, 0, f, _, h => Nat.succ_pos _
  | n + 2, .p s t, i + 1, f, _, h => by
    simp only [fld] at h
    split at h
    · next f' hf => exact Nat.succ_lt_succ (fld_lt0 (Nat.succ_pos _) hf)
    · cases h
  | n + 2, .i, _, _, _, h => by simp [fld] at h
  | n + 2, .u, _, _, _, h => by simp [fld] at h
  | n + 2, .b, _, _, _, h => by simp [fld] at h
  | n + 2, .l _, _, _, _, h => by simp [fld] at h
  | n + 2, .a _ _, _, _, _, h => by simp [fld] at h
  | n + 2, .ch, _, _, _, h => by simp [fld] at h
  | n + 2, .tx, _, _, _, h => by simp [fld] at h
  | n + 2, .po _, _, _, _, h => by simp [fld] at h
  | n + 2, .tr, _, _, _, h => by simp [fld] at h
  | n + 2, .er, _, _, _, h => by simp [fld] at h
  | n + 2, .w1 _, _, _, _, h => by simp [fld] at h
theorem fld_lt {n : Nat} {t : Ty} {i : Nat} {f : Fl t.D} (h : fld n t i = some f) : i < n + (1 - n) := by
  cases n with
  | zero =>
    cases t <;> cases i <;> first
      | exact Nat.zero_lt_one
      | cases h
  | succ n => have := fld_lt0 (Nat.succ_pos n) h; omega
theorem TKok.of {t : TypeId} {ti : TI} (h : TKchk P t ti) : TKok P t ti := by
  unfold TKchk at h
  unfold TKok
  split at h
  · next h0 => simp only [h0]; exact h
  · next h0 => simp only [h0]; exact h
  · next h0 => simp only [h0]; exact h
  · next h0 => simp only [h0]; exact h
  · next n h0 =>
    simp only [h0]
    obtain ⟨h1, h⟩ := h
    have h2 := congrArg (fun q => q.1.1) h
    have h2b := congrArg (fun q => q.1.2) h
    have h3 := congrArg Prod.snd h
    simp only [stGot, stWant] at h2 h2b h3
    refine ⟨h1, fun i f hf => ?_, ?_, fun i f hf => ?_⟩
    rotate_left 2
    · have := congrArg (fun l : List (Option (Nat × Bool × Nat)) => l[i]?) h2b
      simp only [List.getElem?_map, List.getElem?_range (fld_lt hf), Option.map_some, hf] at this
      simpa using this
    · have := congrArg (fun l : List (Option Nat) => l[i]?) h2
      simp only [List.getElem?_map, List.getElem?_range (fld_lt hf), Option.map_some, hf] at this
      simpa using this
    · cases hp : plB P t with
      | none =>
        rw [hp] at h3; cases h3
      | some a =>
        rw [hp] at h3
        simp only [Option.some.injEq] at h3
        obtain ⟨fs, h4, h5⟩ := plB_run hp
        refine ⟨fs, h4, a, h5, fun i f hf => ?_⟩
        have := congrArg (fun l : List (Option (Nat × Nat)) => l[i]?) h3
        simp only [List.getElem?_map, List.getElem?_range (fld_lt hf), Option.map_some, hf] at this
        rw [← Array.getElem?_toList]
        cases hx : a.toList[i]? with
        | none => rw [hx] at this; cases this
        | some q => rw [hx] at this; simpa using this
  · next h0 => simp only [h0]; exact h
  · next h0 => simp only [h0]; exact h
  · next h0 => simp only [h0]; exact h
theorem TIok.of {t : TypeId} {ti : TI} (h1 : tyB P t = some (ti.ty.rep.agg, ti.ty.n, ti.B, some (ti.ty.rep.val (zc ti.ty)))) (h2 : (Nat.blt 0 ti.B && Nat.blt 0 ti.ty.n) = true) (h3 : TKchk P t ti) : TIok P t ti := by
  rw [Bool.and_eq_true] at h2
  have hz := fun S w => zc_s S w ti.ty
  refine ⟨⟨_, (by rw [Ty.n_rep]; exact TyF.of h1), ?_, fun S w => ?_, (fun s hs => by rw [hs]; rfl), fun n i off s g st hf => ?_⟩, Nat.le_of_ble_eq_true h2.1, (by rw [Ty.n_rep]; exact Nat.le_of_ble_eq_true h2.2), TKok.of h3⟩
  · rw [← Array.length_toList, ERep.val_cells _ (hz (fun _ => True) default), ti.ty.rep.len (hz (fun _ => True) default)]
  · rw [ERep.val_cells _ (hz S w)]; exact hz S w
  · rw [ERep.val_cells _ (hz (fun _ => True) default)]
    obtain ⟨pre, post, h4, h5⟩ := zc_fld hf
    rw [h4, List.append_assoc, List.getElem?_append_right (by simp only at h5; omega), h5, Nat.sub_self]; rfl
theorem TTok.nil : TTok P [] := fun _ _ h => by cases h
theorem TTok.cons {t : TypeId} {ti : TI} {tt : List (Nat × TI)} (h : TIok P t ti) (k : TTok P tt) : TTok P ((t, ti) :: tt) := by
  intro t' ti' hf
  unfold fndA at hf
  cases hb : Nat.beq t t' <;> rw [hb] at hf
  · exact k t' ti' hf
  · cases hf; rw [← beq_t hb]; exact h
theorem TTok.add {t : TypeId} {ti : TI} {tt : List (Nat × TI)} (h1 : tyB P t = some (ti.ty.rep.agg, ti.ty.n, ti.B, some (ti.ty.rep.val (zc ti.ty)))) (h2 : (Nat.blt 0 ti.B && Nat.blt 0 ti.ty.n) = true) (h3 : TKchk P t ti) (k : TTok P tt) : TTok P ((t, ti) :: tt) := TTok.cons (TIok.of h1 h2 h3) k
def elB (tt : List (Nat × TI)) : List (Nat × TI) → Bool
  | [] => true
  | (_, ⟨.l s, .sl E, _⟩) :: r => (match fndA tt E with
    | some ti => (Ty.same ti.ty s).isSome
    | none => false) && elB tt r
  | _ :: r => elB tt r
theorem ELok.of' {tt : List (Nat × TI)} : ∀ {l : List (Nat × TI)}, elB tt l = true → ∀ t s E B, fndA l t = some ⟨.l s, .sl E, B⟩ → ∃ ti, fndA tt E = some ti ∧ ti.ty = s
  | [], _, _, _, _, _, h => by cases h
  | (t', ti') :: r, h, t, s, E, B, hf => by
    have hr : elB tt r = true := by
      unfold elB at h
      split at h
      · cases ‹_ :: _ = []›
      · next hh => cases hh; rw [Bool.and_eq_true] at h; exact h.2
      · next hh => cases hh; exact h
    unfold fndA at hf
    cases hb : Nat.beq t' t <;> rw [hb] at hf
    · exact ELok.of' hr t s E B hf
    · cases hf
      unfold elB at h
      simp only [Bool.and_eq_true] at h
      have h := h.1
      split at h
      · next ti he =>
        refine ⟨ti, he, ?_⟩
        cases hs : Ty.same ti.ty s with
        | none => rw [hs] at h; cases h
        | some p => exact p.down
      · cases h
theorem ELok.of {tt : List (Nat × TI)} (h : elB tt tt = true) : ELok P tt := fun t s E B => ELok.of' h t s E B
theorem EXok.nil : EXok P [] := fun _ _ h => by cases h
theorem EXok.add {f : Nat} {b : Bool} {ex : List (Nat × Bool)} {fn : Func} (h0 : P.funcs[f]? = some fn) (h1 : (fn.name == "runtime.NumGoroutine") = false) (h2 : fn.body = none) (h3 : (Extern.findNext fn).isNone = true)
    (h4 : b = true → Extern.find fn = some (fun args => do
      let (x, y, c) ← Extern.MathBitsCarry.three "Add64" args
      pure (Extern.MathBitsCarry.pair ((x + y + c) % Extern.MathBitsCarry.m64) ((x + y + c) / Extern.MathBitsCarry.m64))))
    (h5 : b = false → Extern.find fn = some (fun args => do
      let (x, y, b) ← Extern.MathBitsCarry.three "Sub64" args
      pure (Extern.MathBitsCarry.pair ((x + Extern.MathBitsCarry.m64 - y - b) % Extern.MathBitsCarry.m64) (if x < y + b then 1 else 0)))) (k : EXok P ex) : EXok P ((f, b) :: ex) := by
  intro f' b' hf
  unfold fndA at hf
  cases hb : Nat.beq f f' <;> rw [hb] at hf
  · exact k f' b' hf
  · cases hf; rw [← beq_t hb]; exact ⟨fn, h0, h1, h2, h3, h4, h5⟩
theorem cN : ∀ s ∈ ([] : List Sig), SigOK P s := fun _ h => absurd h List.not_mem_nil
theorem cC {s : Sig} {l : List Sig} (h : SigOK P s) (k : ∀ s ∈ l, SigOK P s) : ∀ q ∈ s :: l, SigOK P q := by grind
theorem sg0 {s : Sig} (hb : fnB P s.f = true) (hM : ∀ x, s.M x = none) : SigOK P s := ⟨hb, fun x r h => by rw [hM x] at h; cases h⟩
theorem XOK.of {tt : List (Nat × TI)} {ex : List (Nat × Bool)} {cs : List Sig} {an : An} {fu : Nat} (hX : EXok P ex) (hp : P = Tryd.prog) : XOK P ⟨tt, cs, an, fu, ex, [], [], [], [], []⟩ := ⟨hX, fun _ h => absurd h List.not_mem_nil, fun _ h => absurd h List.not_mem_nil, fun _ h => absurd h List.not_mem_nil, hp, fun _ h => absurd h List.not_mem_nil, fun _ h => absurd h List.not_mem_nil⟩
theorem sgP (hm : P.follows .mixedOrders = true) {tt : List (Nat × TI)} {ex : List (Nat × Bool)} (hT : TTok P tt) (hL : ELok P tt) (hX : EXok P ex) (hp : P = Tryd.prog) {cs : List Sig} (an : An) {fu : Nat} {s : Sig} {fn : Func} (hf : P.funcs[s.f]? = some fn) (hC : ∀ s ∈ cs, SigOK P s) (hb : fnB P s.f = true) (hk : s.bk = 0) (hM : ∀ x, denF ⟨tt, cs, an, fu, ex, [], [], [], [], []⟩ fn s.dom s.cod x = s.M x) : SigOK P s :=
  denF_s (cf := ⟨tt, cs, an, fu, ex, [], [], [], [], []⟩) hm hT hL hC (.of hX hp) hf hb hk fun x r h => (hM x).trans h
theorem sgG (hm : P.follows .mixedOrders = true) {tt : List (Nat × TI)} {ex : List (Nat × Bool)} (hT : TTok P tt) (hL : ELok P tt) (hX : EXok P ex) (hp : P = Tryd.prog) {cs : List Sig} (an : An) {fu : Nat} {s : Sig} {fn : Func} (hf : P.funcs[s.f]? = some fn) (hC : ∀ s ∈ cs, SigOK P s) (hb : fnB P s.f = true) (hM : ∀ pn x, denG ⟨tt, cs, an, fu, ex, [], [], [], [], []⟩ fn s.dom s.cod s.bk pn x = s.M x) : SigOK P s :=
  denG_s (cf := ⟨tt, cs, an, fu, ex, [], [], [], [], []⟩) hm hT hL hC (.of hX hp) hf hb fun pn x r h => (hM pn x).trans h
end
end
section
def argT : (dom : List Ty) → TsD dom → Nat → List (Nat × Nat × Dv)
  | [], _, _ => []
  | t :: r, x, i => (i, 0, .d t x.1) :: argT r x.2 (i + 1)
section
variable {P : Program} {cf : Cf} {env : Env} {w : World}
theorem argT_rs {S : Nat → Prop} {vs : Nat → Value} : ∀ {dom : List Ty} {x : TsD dom} {i : Nat} {l : List Value}, l.length = dom.length → (∀ j v, l[j]? = some v → env (i + j) = v) → All S (tsF dom x l) w → All S (RS P vs env (argT dom x i)) w
  | [], _, _, _, _, _, _ => trivial
  | a :: dom, x, i, [], hl, _, _ => by cases hl
  | a :: dom, x, i, v :: l, hl, h, hA => by
    have ih : All S (RS P vs env (argT dom x.2 (i + 1))) w := argT_rs (l := l) (by simpa using hl) (fun j v hj => by
      have := h (j + 1) v (by simpa using hj)
      rw [show i + 1 + j = i + (j + 1) by omega]; exact this) hA.2
    have h0 : env i = v := h 0 v rfl
    have hA1 : (fV a.rep x.1 v).p S w := hA.1
    exact ⟨show (fV a.rep x.1 (env i)).p S w by rw [h0]; exact hA1, ih⟩
theorem argT_ref : ∀ {dom : List Ty} {x : TsD dom} {i : Nat}, ∀ e ∈ argT dom x i, refO e.2.2 = none
  | [], _, _, e, he => absurd he List.not_mem_nil
  | a :: dom, x, i, e, he => by
    rcases List.mem_cons.1 he with rfl | he
    · rfl
    · exact argT_ref e he
theorem get_any {cx σ : Sg} {t i : Nat} {d : Dv} (h : get ⟨0, [], []⟩ σ t i = some d) : get cx σ t i = some d := by
  unfold get at h ⊢
  split at h
  · exact h
  · cases h
end
end
section
section
variable {P : Program}
theorem fn_fnG {U : Type} {f : FuncId} {args : Array Value} {Γ : List FF} {val : U → Value} {facts : U → List FF} {ok : U → Prop} (h : Fn P f args Γ val facts ok) : FnG P f args [] Γ val (fun _ => []) facts ok := by
  rintro we Se F G w ⟨h1, h2, h3, S, h4, h5, h6, h7, h8⟩
  refine (h w S (h2.at h1 h5) (All.left h8)).mono ?_
  rintro e w' ⟨u, e1, e2, e3, e4⟩
  exact ⟨u, e1, e2, h1.trans e3, h2, h3, S, h4, fun k hk => h5 k (Nat.le_trans e3.size hk), h6, AllM.keep e3.to (fun m hm i hi => e3.block i (AllM.lt h7 m hm i hi) trivial) h7, All.append e4 (All.keep e3.to (All.right h8))⟩
theorem FnG.to {U V : Type} {f : FuncId} {args : Array Value} {ms : List MF} {Γ : List FF} {val : U → Value} {own : U → List MF} {facts : U → List FF} {ok : U → Prop} {val' : V → Value} {own' : V → List MF} {facts' : V → List FF} {ok' : V → Prop}
    (h : FnG P f args ms Γ val own facts ok) (g : U → V) (h1 : ∀ u, val u = val' (g u)) (h2 : ∀ u, own u = own' (g u)) (h3 : ∀ u, ok u → ok' (g u)) (h4 : ∀ u, ok u → ∀ S w, All S (facts u) w → All S (facts' (g u)) w) : FnG P f args ms Γ val' own' facts' ok' := by
  intro we Se F G w hst
  refine (h we Se F G w hst).mono ?_
  rintro e w' ⟨u, e1, e2, e3⟩
  exact ⟨g u, by rw [e1, h1], h3 u e2, by rw [← h2]; exact e3.weak fun S w ha => All.append (h4 u e2 S w (All.left ha)) (All.right ha)⟩
theorem sig_ui {f : FuncId} {M : Nat → Option Int} (hb : fnB P f = true) (h : ∀ x r, x < 18446744073709551616 → M x = some r → Fn P f [.int .u64 (x : Int)].toArray [] (fun _ : Unit => .int .i64 r) (fun _ => []) (fun _ => InR r)) : SigOK P ⟨f, [.d .u], [.d .i], fun x => M x.1, 0⟩ := by
  refine ⟨hb, fun x r hM vs hl => ?_⟩
  match vs, hl with
  | [v], _ =>
    intro we Se F G w hst
    obtain ⟨S0, _, hΓ⟩ := hst.ex
    obtain ⟨hv, hx⟩ := fV_u64 (show (fV eU x.1 v).p S0 w from hΓ.1)
    have := fn_fnG (h x.1 r hx hM)
    rw [← hv] at this
    have h2 : FnG P f [v].toArray [] [] oneOr (fun us => resMs [RM.d .i] r us) (fun us => resFs [RM.d .i] r us) (fun us => us.length = 1) := this.to (fun _ => [.int .i64 r]) (fun _ => rfl) (fun _ => rfl) (fun _ _ => rfl) fun u hu S w ha => ⟨i64_fV hu, trivial⟩
    exact h2 we Se F G w (hst.weak fun S w ha => ha.2)
end
end
section
section
variable {P : Program}
theorem Ext.of_below {w w' : World} (h : RowKit.Below w.heap.size w w') : Ext w w' := ⟨h.os, h.tape, h.output, h.size, fun k hk _ => h.block k hk⟩
def joinT (xs : List (List Nat)) (sep : List Nat) : Option (List Nat) := ck (xs.length ≤ 140737488355328) <| ck ((sep.intercalate xs).length ≤ 140737488355328) <| some (sep.intercalate xs)
theorem elems_tx {S : Nat → Prop} {w : World} : ∀ {xs : List (List Nat)} {cs : List Value}, Elems eTx S xs cs w → ∃ bs : List ByteArray, cs = bs.map Value.string ∧ bs.map bytesN = xs
  | [], cs, h => ⟨[], h, rfl⟩
  | x :: xs, cs, ⟨c, r, h1, h2, h3⟩ => by
    obtain ⟨bs, e1, e2⟩ := elems_tx h3
    obtain ⟨b, e3, e4, _⟩ := h2
    exact ⟨b :: bs, by rw [h1, e3, e1]; rfl, by rw [List.map_cons, e4, e2]⟩
theorem inter_map {α β : Type} (f : α → β) (s : List α) : ∀ X : List (List α), (s.intercalate X).map f = (s.map f).intercalate (X.map (List.map f))
  | [] => by simp [List.intercalate]
  | [x] => by simp [List.intercalate]
  | x :: y :: r => by
    have ih := inter_map f s (y :: r)
    simp only [List.intercalate, List.map_cons, List.intersperse_cons_cons, List.flatten_cons, List.map_append] at ih ⊢
    rw [ih]
theorem join_bytes (bs : List ByteArray) (s : ByteArray) : bytesN ⟨(Lib.join (bs.map (·.data.toList)) s.data.toList).toArray⟩ = (bytesN s).intercalate (bs.map bytesN) := by
  show ((Lib.join (bs.map (·.data.toList)) s.data.toList).toArray.toList).map UInt8.toNat = _
  rw [List.toList_toArray]
  unfold Lib.join
  rw [inter_map, List.map_map]
  rfl
theorem sig_join {f : FuncId} (hb : fnB P f = true)
    (h0 : ∀ (a : Option Addr) (c : Nat) (sep : ByteArray) (w : World), Calls P f #[.slice a 0 c, .string sep] w fun e w' => e = .returned (.string ⟨#[]⟩) ∧ w' = w)
    (h1 : ∀ (bk o c : Nat) (xs : List ByteArray) (sep : ByteArray) (w : World), (∀ (j : Nat) x, xs[j]? = some x → w.cell? ⟨bk, o + j, none⟩ = some (.string x)) → bk < w.heap.size → xs.length ≤ 140737488355328 → xs.length ≤ c → (Lib.join (xs.map (·.data.toList)) sep.data.toList).length ≤ 140737488355328 →
      Calls P f #[.slice (some ⟨bk, o, none⟩) xs.length c, .string sep] w fun e w' => e = .returned (.string ⟨(Lib.join (xs.map (·.data.toList)) sep.data.toList).toArray⟩) ∧ RowKit.Below w.heap.size w w') :
    SigOK P ⟨f, [.d (.l .tx), .d .tx], [.d .tx], fun x => joinT x.1 x.2.1, 0⟩ := by
  refine ⟨hb, fun x r hM vs hl => ?_⟩
  match vs, hl with
  | [v, u], _ =>
    have hM : joinT x.1 x.2.1 = some r := hM
    unfold joinT at hM
    obtain ⟨k1, hM⟩ := ck_s hM
    obtain ⟨k2, hM⟩ := ck_s hM
    have hr : r = List.intercalate (α := Nat) x.2.1 x.1 := (Option.some.inj hM).symm
    have key : Fn P f #[v, u] [fV (eS eTx) x.1 v, fV eTx x.2.1 u] (fun _ : Unit => .string ⟨(r.map UInt8.ofNat).toArray⟩) (fun _ => [fV eTx r (.string ⟨(r.map UInt8.ofNat).toArray⟩)]) (fun _ => True) := by
      intro w Se hSe hΓ
      obtain ⟨hv, hu, _⟩ := hΓ
      obtain ⟨sb, rfl, e2, e3⟩ := fV_tx hu
      obtain ⟨ao, cap, rfl, hc1, hc2, h⟩ := fV_slice.1 hv
      have fin : ∀ (t : List UInt8) (w' : World), Ext w w' → t.map UInt8.toNat = r → FnQ Se w (fun _ : Unit => .string ⟨(r.map UInt8.ofNat).toArray⟩) (fun _ => [fV eTx r (.string ⟨(r.map UInt8.ofNat).toArray⟩)]) (fun _ => True) (.returned (.string ⟨t.toArray⟩)) w' := by
        intro t w' hx ht
        have e5 : t = r.map UInt8.ofNat := by
          rw [← ht, List.map_map]
          conv => lhs; rw [← List.map_id t]
          exact List.map_congr_left fun b _ => by simp
        rw [← e5]
        refine ⟨(), rfl, trivial, hx, tx_fV ?_ ?_, trivial⟩
        · unfold bytesN
          simpa using ht
        · have h6 := bytesN_len ⟨t.toArray⟩
          have h7 : (bytesN ⟨t.toArray⟩).length = r.length := by unfold bytesN; rw [← ht]
          have h8 : r.length ≤ 140737488355328 := by rw [hr]; exact k2
          omega
      rcases h with h | ⟨b, o, cs, rfl, hs, hat, hel⟩
      · have h : x.1 = ([] : List (List Nat)) := h
        have hr0 : r = [] := by rw [hr, h]; rfl
        rw [h]
        refine (h0 ao cap sb w).mono ?_
        rintro e w' ⟨rfl, rfl⟩
        exact fin [] w' (Keeps.refl _ _) hr0.symm
      · obtain ⟨bs, e4, e5⟩ := elems_tx hel
        have hlen : bs.length = List.length (α := List Nat) x.1 := by rw [← e5, List.length_map]
        have hj := join_bytes bs sb
        rw [e2, e5] at hj
        have hjl : (Lib.join (bs.map (·.data.toList)) sb.data.toList).map UInt8.toNat = r := by
          rw [hr, ← hj]
          unfold bytesN
          simp
        have := h1 b o cap bs sb w (fun j y hy => hat.2 j (.string y) (by rw [e4, List.getElem?_map, hy]; rfl)) hat.1 (by rw [hlen]; exact k1) (by rw [hlen]; exact hc1) (by
          have h9 := congrArg List.length hjl
          rw [List.length_map] at h9
          rw [h9, hr]
          exact k2)
        rw [hlen] at this
        refine this.mono ?_
        rintro e w' ⟨rfl, hbl⟩
        exact fin _ w' (Ext.of_below hbl) hjl
    exact (fn_fnG key).to (fun _ => [.string ⟨(r.map UInt8.ofNat).toArray⟩]) (fun _ => rfl) (fun _ => rfl) (fun _ _ => rfl) fun _ _ S w ha => ha
end
end
section
def endR (cf : Cf) (fn : Func) (cod : List RM) (σ : Sg) : Option (RsD cod) := retD cf (frzD σ fn.results.toList cod) fn.results.toList cod fun y _ => some y
section
variable {P : Program} {cf : Cf} {fr : Fr} {cx σ : Sg} {env : Env} {w : World}
theorem endR_s (hT : TTok P cf.tt) {fn : Func} {cod : List RM} {r : RsD cod} {we : World} {Se : Nat → Prop} {F : List MF} {G : List FF} (h : endR cf fn cod σ = some r) (hR : Rel P ⟨we, Se, F, G⟩ ⟨0, [], []⟩ σ env w) (a : Act) (ha : envOf a = env) :
    ∃ v, (results fn a.tmps).run P w = .ok v w ∧ ∃ u : List Value, Ending.returned v = .returned (oneOr u) ∧ u.length = cod.length ∧ St we Se (resMs cod r u ++ F) (resFs cod r u ++ G) w := by
  unfold endR at h
  have hR1 := rel_frzD fn.results.toList cod hR
  generalize frzD σ fn.results.toList cod = σ1 at h hR1
  obtain ⟨hB, vs, hst⟩ := hR1
  obtain ⟨y, os, e1, e2⟩ := retD_s hT h
  cases e1
  obtain ⟨us, h1, h2, h3⟩ := e2 vs ⟨we, Se, F, G⟩ env _ _ (fun S w hΓ t => gs_lk hΓ t) hst
  refine ⟨_, run_results (rs := fn.results.toList) (by rw [Array.toArray_toList]) (ha ▸ h2), us, rfl, h1, ?_⟩
  exact (St.dropM (B := MS vs (delos σ1.ob os)) h3).weak fun S w hΓ => All.append (All.left hΓ) (All.right (All.right hΓ))
theorem rel_sans {rg : List (Nat × Nat × Dv)} (h : Rel P fr ⟨0, rg, []⟩ σ env w) : Rel P fr ⟨0, [], []⟩ σ env w := by
  obtain ⟨hB, vs, hst⟩ := h
  exact ⟨⟨hB.o1, fun _ h => absurd h List.not_mem_nil, hB.r1, fun _ h => absurd h List.not_mem_nil⟩, vs, hst.weak fun S w ha => All.append (All.left ha) (All.append trivial (All.right (All.right ha)))⟩
theorem leaves_takeG {F : Fence} {n : Nat} {fn : Func} {tmps : Array Value} {u : FrameMode} {ds : List Deferred} {Q : Ending → World → Prop} (hu : u ≠ .run) : ∀ {Ds : List Nat} {w : World}, marksW Ds w → LeavesInM F n P fn tmps Q ds u (takeW Ds w) → LeavesInM F n P fn tmps Q (Ds.map mkD ++ ds) u w
  | [], w, _, h => h
  | D :: Ds, w, hm, h => ⟨hu, .inl ⟨D, _, rfl, run_takeDeferred hm.1, leaves_takeG hu hm.2 h⟩⟩
end
end
section
def HOC (P : Program) (f : FuncId) (T : TypeId) (k : Int) : Prop := fnB P f = true ∧
  (∀ (a b c : Value) we Se F G w, St we Se F G w → CallsDIn Fence.wide 0 P f #[a, b, c] .returning w fun e u w' => (∃ r, e = .returned r) ∧ u = .returning ∧ St we Se F G w') ∧
  ∀ (a b c : Value) (E0 E1 E2 : TypeId) (z0 : Tr) (z1 z2 x : Int) we Se F G w, InR x → St we Se (mP (Ty.tr).rep.c E0 a z0 :: mP (Ty.i).rep.c E1 b z1 :: mP (Ty.i).rep.c E2 c z2 :: F) G w →
    CallsDIn Fence.wide 0 P f #[a, b, c] (.panicking (chOf (T, x))) w fun e u w' => (∃ r, e = .returned r) ∧ settle u = .returning ∧ St we Se (mP (Ty.tr).rep.c E0 a Tr.nil :: mP (Ty.i).rep.c E1 b x :: mP (Ty.i).rep.c E2 c k :: F) G w'
def setC (cf : Cf) (fn : Func) (cod : List RM) (t0 t1 t2 : Tmp) (k e : Int) (σ : Sg) : Option (RsD cod) := match get ⟨0, [], []⟩ σ t0 0, get ⟨0, [], []⟩ σ t1 0, get ⟨0, [], []⟩ σ t2 0 with
  | some (.vs o0 _), some (.vs o1 _), some (.vs o2 _) => (match fndO σ.ob o0 with
    | some (.var .tr E0 _) => (match fndO (delo σ.ob o0) o1 with
      | some (.var .i E1 _) => (match fndO (delo (delo σ.ob o0) o1) o2 with
        | some (.var .i E2 _) => endR cf fn cod ⟨σ.nx, σ.rg, (o0, .var .tr E0 .nil) :: (o1, .var .i E1 e) :: (o2, .var .i E2 k) :: delo (delo (delo σ.ob o0) o1) o2⟩
        | _ => none)
      | _ => none)
    | _ => none)
  | _, _, _ => none
def aftC (cf : Cf) (fn : Func) (cod : List RM) (c : Code) (t0 t1 t2 t : Tmp) (T : TypeId) (k : Int) (σ : Sg) : Option (RsD cod) := match get ⟨0, [], []⟩ σ t0 0, get ⟨0, [], []⟩ σ t1 0, get ⟨0, [], []⟩ σ t2 0 with
  | some (.vs o0 s0), some (.vs o1 s1), some (.vs o2 s2) => grd (!Nat.beq t0 t && (!Nat.beq t1 t && !Nat.beq t2 t)) <| den cf c ⟨0, [(t0, 0, .vs o0 s0), (t1, 0, .vs o1 s1), (t2, 0, .vs o2 s2)], []⟩ (σ.put (some t) []) fun tg σ => (match tg with
    | .r => endR cf fn cod σ
    | .n => endR cf fn cod σ
    | .p q => ck (q.1 = T) <| ck (InR q.2) <| setC cf fn cod t0 t1 t2 k q.2 σ
    | _ => none)
  | _, _, _ => none
def denC3 (cf : Cf) (fn : Func) (dom : List AM) (cod : List RM) (hd : FuncId) (T : TypeId) (k : Int) (x : AsD dom) : Option (RsD cod) := match fn.body with
  | some (.seq c0 (.seq c1 (.seq (.region _ ops false) c2))) => (match ops.toList with
    | [⟨some t, .makeFunc (.func f) fs cs, _, _, _, none⟩, ⟨none, .defer ⟨.value (.tmp t'), ags, _⟩, _, _, _, none⟩] => (match cs.toList, fs.toList, ags.toList with
      | [.tmp t0, .tmp t1, .tmp t2], [], [] => grd (Nat.beq f hd && (Nat.beq t t' && (Nat.blt t fn.ntmps && (okC fn.ntmps c0 && (okC fn.ntmps c1 && (okC fn.ntmps c2 && Nat.ble dom.length fn.ntmps)))))) <|
        let y := argS dom x 0
        den cf c0 ⟨0, [], []⟩ ⟨dom.length, y.1, y.2⟩ fun tg σ => (match tg with
          | .n => den cf c1 ⟨0, [], []⟩ σ fun tg σ => (match tg with
            | .n => aftC cf fn cod c2 t0 t1 t2 t T k σ
            | .r => endR cf fn cod σ
            | _ => none)
          | _ => none)
      | _, _, _ => none)
    | _ => none)
  | _ => none
section
variable {P : Program} {cf : Cf} {fr : Fr} {cx σ : Sg} {env : Env} {w : World}
theorem rel_withL {l : List (Nat × Nat × Dv)} (hg : ∀ e ∈ l, get ⟨0, [], []⟩ σ e.1 e.2.1 = some e.2.2) (h : Rel P fr ⟨0, [], []⟩ σ env w) : Rel P fr ⟨0, l, []⟩ σ env w := by
  obtain ⟨hB, vs, hst⟩ := h
  have hm : ∀ e ∈ l, e ∈ σ.rg := fun e he => by
    rcases get_mem (hg e he) with h | h
    · exact h
    · exact absurd h List.not_mem_nil
  exact ⟨⟨hB.o1, fun _ h => absurd h List.not_mem_nil, hB.r1, fun e he => hB.r1 _ (hm e he)⟩, vs, hst.weak fun S w ha => All.append (All.left ha) (All.append (all_mem.2 fun f hf => by
    obtain ⟨e, he, rfl⟩ := List.mem_map.1 hf
    exact rs_get (All.left ha) (hm e he)) (All.right (All.right ha)))⟩
theorem rel_any {d : Option Tmp} {v : Value} (hd : okPut cx d = true) (h : Rel P fr cx σ env w) : Rel P fr cx (σ.put d []) (put env d v) w := by
  obtain ⟨hB, vs, hst⟩ := h
  exact (rel_mk (σ' := σ.put d []) (l := []) (v := v) (vs := vs) (vs' := vs) (Γl := []) hB hd rfl (Nat.le_refl _) (fun _ _ => rfl) (fun e he => absurd he List.not_mem_nil) hB.o1 (fun S w _ e he => absurd he List.not_mem_nil) hst).rel
theorem leaves_hd0 {fn : Func} {tmps : Array Value} {u : FrameMode} {ds : List Deferred} {f : FuncId} {vs : Array Value} {Q : Ending → World → Prop} (hb : fnB P f = true) (hu : u ≠ .run)
    (h : CallsDIn Fence.wide 0 P f vs u w fun e u' w' => (∃ r, e = .returned r) ∧ LeavesInM Fence.wide 0 P fn tmps Q ds (settle u') w') : LeavesInM Fence.wide 0 P fn tmps Q ({ target := .fn (.func f) vs, args := #[] } :: ds) u w := by
  refine ⟨hu, .inr ⟨fun e => by simp [Fence.wide] at e, _, _, f, vs, rfl, by simp [invoke, run_callFunc hb], fun _ _ => trivial, CallsDIn.mono h ?_⟩⟩
  rintro e u' w' ⟨⟨r, rfl⟩, h⟩
  exact h
theorem denC3_s (hm : P.follows .mixedOrders = true) (hT : TTok P cf.tt) (hL : ELok P cf.tt) (hC : ∀ s ∈ cf.cs, SigOK P s) (hX : XOK P cf) {s : Sig} {fn : Func}
    (hf : P.funcs[s.f]? = some fn) (hb : fnB P s.f = true) (hk : s.bk = 0) {hd : FuncId} {T : TypeId} {kc : Int} (hH : HOC P hd T kc) (hM : ∀ x r, s.M x = some r → denC3 cf fn s.dom s.cod hd T kc x = some r) : SigOK P s := by
  refine ⟨hb, fun x r h vs hlen => ?_⟩
  rw [hk]
  show FnG P s.f vs.toArray (argMs s.dom x vs) (argFs P s.dom x vs) oneOr (fun us => resMs s.cod r us) (fun us => resFs s.cod r us) (fun us => us.length = s.cod.length)
  have h := hM x r h
  unfold denC3 at h
  split at h
  · next c0 c1 id ops c2 hc =>
    split at h
    · next t f fs cs ty1 pos1 aft1 t' ags ts ty pos aft hops =>
      split at h
      · next t0 t1 t2 hcs hfs hags =>
        obtain ⟨ho, hz⟩ := grd_s h
        clear h
        simp only [Bool.and_eq_true] at ho
        obtain ⟨hfe, hte, htn, ho0, ho1, ho2, hn⟩ := ho
        obtain rfl := beq_t hfe
        obtain rfl := beq_t hte
        have htn := Nat.blt_eq.mp htn
        intro we Se F G w hst
        refine callsIn_wide.1 (callsIn_of_wp_marks (n := 0) hf hc trivial ?_)
        have hn := Nat.le_of_ble_eq_true hn
        have hag : agree (envOf ⟨vs.toArray ++ Array.replicate (fn.ntmps - vs.toArray.size) undef, []⟩) ((vs.zipIdx 0).map fun x => (x.2, x.1)) := by
          refine agree_args vs 0 _ fun j => ?_
          rw [envOf_args]
          simp [Array.getD_eq_getD_getElem?, List.getD_eq_getElem?_getD]
        have e0 : ∀ j v, vs[j]? = some v → vs.getD (0 + j) undef = v := fun j v hj => by
          rw [Nat.zero_add, List.getD_eq_getElem?_getD, hj]; rfl
        have fin : ∀ {Ds1 : List Nat} {env2 : Env} {σ : Sg} {w' : World} {a : Act}, endR cf fn s.cod σ = some r → Rel P (Fr.wd ⟨we, Se, F, G⟩ Ds1) ⟨0, [], []⟩ σ env2 w' → envOf a = env2 → LeavesInM Fence.wide 0 P fn a.tmps (fun e w' => ∃ u : List Value, e = .returned (oneOr u) ∧ u.length = s.cod.length ∧ St we Se (resMs s.cod r u ++ F) (resFs s.cod r u ++ G) w') (Ds1.map mkD) .returning w' := fun {Ds1 env2 σ w' a} he hR ha => by
          obtain ⟨hmk1, hR⟩ := rel_take hR
          exact leaves_take hmk1 (endR_s hT he hR a ha)
        have hA0 := den_s (fr := ⟨we, Se, F, G⟩) (N := Nd.of fn.ntmps) (Ds := []) (env := L ((vs.zipIdx 0).map fun x => (x.2, x.1)) (envOf ⟨vs.toArray ++ Array.replicate (fn.ntmps - vs.toArray.size) undef, []⟩)) (w := w) hm hT hL hC hX c0 ho0 rfl (.inl rfl) hz
          (Q := fun e Ds env w => e = .normal ∧ ∃ σ, (den cf c1 ⟨0, [], []⟩ σ fun tg σ => (match tg with
            | .n => aftC cf fn s.cod c2 t0 t1 t2 t T kc σ
            | .r => endR cf fn s.cod σ
            | _ => none)) = some r ∧ Rel P (Fr.wd ⟨we, Se, F, G⟩ Ds) ⟨0, [], []⟩ σ env w)
          (fun t σ' hk Ds env w _ hR => by
            cases t with
            | n => exact ⟨rfl, σ', hk, hR⟩
            | x j => cases hk
            | r => cases hk
            | p q => cases hk) (by
            refine ⟨⟨fun e he => ?_, fun _ he => absurd he List.not_mem_nil, fun e he p hp => ?_, fun _ he => absurd he List.not_mem_nil⟩, fun o => vs.getD o undef, ?_⟩
            · have := arg_ob e he; simpa using this
            · have := arg_ref e he p hp; simpa using this
            · have e1 : MS (fun o => vs.getD o undef) (argS s.dom x 0).2 = argMs s.dom x vs := arg_ms hlen e0
              show St we Se (MS _ (argS s.dom x 0).2 ++ ([] ++ F)) _ w
              rw [e1]
              exact hst.weak fun S w hΓ => All.append (arg_rs hlen (fun j v hj => ⟨e0 j v hj, L_zip hj⟩) (All.left hΓ)) (All.right hΓ))
        refine wpIn_seq (wpIn_mono (hA0 _ (by simp [Nd.of]; omega) rfl (L_agree hag).symm) ?_)
        rintro e a0 w0 ⟨p1, Ds0, p2, rfl, σ0, hz, hR0⟩
        show (Code.seq c1 (.seq (.region id ops false) c2)).wpIn Fence.wide 0 P _ a0 w0
        have hA := den_s (fr := ⟨we, Se, F, G⟩) (N := Nd.of fn.ntmps) (Ds := Ds0) (env := envOf a0) (w := w0) hm hT hL hC hX c1 ho1 rfl (.inl rfl) hz
          (Q := fun e Ds env w => (e = .normal ∧ ∃ σ, aftC cf fn s.cod c2 t0 t1 t2 t T kc σ = some r ∧ Rel P (Fr.wd ⟨we, Se, F, G⟩ Ds) ⟨0, [], []⟩ σ env w) ∨ (e = tgE .r ∧ ∃ σ, endR cf fn s.cod σ = some r ∧ Rel P (Fr.wd ⟨we, Se, F, G⟩ Ds) ⟨0, [], []⟩ σ env w))
          (fun t σ' hk Ds env w _ hR => by
            cases t with
            | n => exact .inl ⟨rfl, σ', hk, hR⟩
            | x j => cases hk
            | r => exact .inr ⟨rfl, σ', hk, hR⟩
            | p q => cases hk) hR0
        refine wpIn_seq (wpIn_mono (hA _ p1 p2 rfl) ?_)
        rintro e a1 w1 ⟨q1, Ds1, q2, h1 | h1⟩
        rotate_left
        · obtain ⟨rfl, σ1, hk1, hR1⟩ := h1
          show LeavesInM Fence.wide 0 P fn a1.tmps _ a1.defers .returning w1
          have q2 : a1.defers = Ds1.map mkD ++ [] := q2
          rw [q2, List.append_nil]
          exact fin hk1 hR1 rfl
        obtain ⟨rfl, σ1, hk1, hR1⟩ := h1
        show (Code.seq (.region id ops false) c2).wpIn Fence.wide 0 P _ a1 w1
        unfold aftC at hk1
        split at hk1
        · next o0 s0 o1 s1 o2 s2 hg0 hg1 hg2 =>
          obtain ⟨hne, hk1⟩ := grd_s hk1
          simp only [Bool.and_eq_true, Bool.not_eq_true'] at hne
          obtain ⟨b0, b1, b2⟩ := hne
          have n0 : t ≠ t0 := fun e => by subst e; simp at b0
          have n1 : t ≠ t1 := fun e => by subst e; simp at b1
          have n2 : t ≠ t2 := fun e => by subst e; simp at b2
          obtain rfl : cs = #[.tmp t0, .tmp t1, .tmp t2] := by cases cs; simp_all
          obtain rfl : fs = #[] := by cases fs; simp_all
          obtain rfl : ags = #[] := by cases ags; simp_all
          have hd1 : (execOp (ev (envOf a1)) ⟨some t, .makeFunc (.func f) #[] #[.tmp t0, .tmp t1, .tmp t2], ty1, pos1, aft1, none⟩).run P w1 = .ok (.value (.func (.func f) #[] #[envOf a1 t0, envOf a1 t1, envOf a1 t2])) w1 := by
            simp [execOp, Instr.makeFunc, ev]
          generalize hv : Value.func (.func f) #[] #[envOf a1 t0, envOf a1 t1, envOf a1 t2] = vc at hd1
          have hsz1 : a1.tmps.size = fn.ntmps := q1
          have hE2 : envOf (a1.put (some t) vc) = put (envOf a1) (some t) vc := envOf_put fun t' ht' => by cases ht'; rw [hsz1]; exact htn
          have hev : envOf (a1.put (some t) vc) t = .func (.func f) #[] #[envOf a1 t0, envOf a1 t1, envOf a1 t2] := by rw [hE2, hv, put_eq]
          have hd0 : (execOp (ev (envOf (a1.put (some t) vc))) ⟨none, .defer ⟨.value (.tmp t), #[], ts⟩, ty, pos, aft, none⟩).run P w1 = .ok (.defer { target := .fn (.func f) #[envOf a1 t0, envOf a1 t1, envOf a1 t2], args := #[] }) w1 := by
            simp [execOp, resolve, Deferred.ofValue, ev, hev]
          have hopsA : ops = [⟨some t, .makeFunc (.func f) #[] #[.tmp t0, .tmp t1, .tmp t2], ty1, pos1, aft1, none⟩, ⟨none, .defer ⟨.value (.tmp t), #[], ts⟩, ty, pos, aft, none⟩].toArray := by cases ops; simp_all
          refine wpIn_seq ?_
          rw [hopsA]
          refine wpIn_region_lit ?_
          unfold wpListIn
          rw [if_pos (by rfl)]
          refine OpR.wp (N := Nd.of fn.ntmps) (OpR.of_value (o := ⟨some t, .makeFunc (.func f) #[] #[.tmp t0, .tmp t1, .tmp t2], ty1, pos1, aft1, none⟩) (env := envOf a1) (P := P) (w := w1) (w' := w1) (v := vc) hd1 (K := fun v w' => v = vc ∧ w' = w1) ⟨rfl, rfl⟩) ?_
          rintro _ _ ⟨hh1, hh2⟩
          rw [hh1, hh2]
          unfold wpListIn
          rw [if_pos (by rfl)]
          unfold Oper.wpIn
          refine ⟨fun _ _ => trivial, ?_⟩
          rw [eval_eq]
          rw [show Fence.wide.round = none from rfl, Oper.semAt_none, hd0]
          rw [Oper.uponIn_defer]
          refine wpListIn_nil ?_
          have hR1' := rel_withL (l := [(t0, 0, .vs o0 s0), (t1, 0, .vs o1 s1), (t2, 0, .vs o2 s2)]) (fun e he => by
            simp only [List.mem_cons, List.not_mem_nil, or_false] at he
            rcases he with rfl | rfl | rfl
            · exact hg0
            · exact hg1
            · exact hg2) hR1
          have hR1' := rel_any (d := some t) (v := vc) (by simp only [okPut, notIn, List.all_cons, List.all_nil, Bool.and_true, Bool.and_eq_true, Bool.not_eq_true']; exact ⟨b0, b1, b2⟩) hR1'
          have hB := den_s (fr := Fr.wd ⟨we, Se, F, G⟩ Ds1) (N := ⟨fn.ntmps, { target := .fn (.func f) #[envOf a1 t0, envOf a1 t1, envOf a1 t2], args := #[] } :: Ds1.map mkD, none⟩) (Ds := []) (env := put (envOf a1) (some t) vc) (w := w1) hm hT hL hC hX c2 ho2 rfl (.inl rfl) hk1
            (Q := fun e Ds env w => ∀ a : Act, envOf a = env → a.defers = Ds.map mkD ++ { target := .fn (.func f) #[envOf a1 t0, envOf a1 t1, envOf a1 t2], args := #[] } :: Ds1.map mkD → bodyPostM Fence.wide 0 P fn (fun e w' => ∃ u : List Value, e = .returned (oneOr u) ∧ u.length = s.cod.length ∧ St we Se (resMs s.cod r u ++ F) (resFs s.cod r u ++ G) w') e a w)
            (fun tg σ2 hk2 Ds2 env2 w2 hs2 hR2 => ?_) hR1'
          · refine wpIn_mono (hB _ ?_ ?_ hE2) ?_
            · show (a1.put (some t) vc).tmps.size = _
              rw [size_put]; exact q1
            · show _ :: (a1.put (some t) vc).defers = _
              rw [defers_put, q2]; simp [Nd.of]
            · rintro e a' w' ⟨p1, Ds2, p2, p3⟩
              exact p3 a' rfl p2
          · obtain ⟨hmk2, hR2⟩ := rel_take hR2
            have hse : ∀ {j : Nat}, j ≠ t → put (envOf a1) (some t) vc j = envOf a1 j := fun hj => put_ne fun e => hj (by cases e; rfl)
            have ht0 : env2 t0 = envOf a1 t0 := (hs2 _ (List.mem_cons_self ..)).trans (hse n0.symm)
            have ht1 : env2 t1 = envOf a1 t1 := (hs2 _ (List.mem_cons_of_mem _ (List.mem_cons_self ..))).trans (hse n1.symm)
            have ht2 : env2 t2 = envOf a1 t2 := (hs2 _ (List.mem_cons_of_mem _ (List.mem_cons_of_mem _ (List.mem_cons_self ..)))).trans (hse n2.symm)
            have nrm : endR cf fn s.cod σ2 = some r → ∀ a : Act, envOf a = env2 → a.defers = Ds2.map mkD ++ { target := .fn (.func f) #[envOf a1 t0, envOf a1 t1, envOf a1 t2], args := #[] } :: Ds1.map mkD → LeavesInM Fence.wide 0 P fn a.tmps (fun e w' => ∃ u : List Value, e = .returned (oneOr u) ∧ u.length = s.cod.length ∧ St we Se (resMs s.cod r u ++ F) (resFs s.cod r u ++ G) w') a.defers .returning w2 := fun he a ha hda => by
              rw [hda]
              refine leaves_takeG (by simp) hmk2 (leaves_hd0 hH.1 (by simp) ?_)
              obtain ⟨hB, vs2, hst2⟩ := rel_sans hR2
              refine CallsDIn.mono (hH.2.1 _ _ _ _ _ _ _ _ hst2) ?_
              rintro e u w' ⟨hr, rfl, hs⟩
              exact ⟨hr, fin he ⟨hB, vs2, hs⟩ ha⟩
            cases tg with
            | n => exact fun a ha hda => nrm hk2 a ha hda
            | r => exact fun a ha hda => nrm hk2 a ha hda
            | x j => cases hk2
            | p q =>
              obtain ⟨hqT, hk2⟩ := ck_s hk2
              obtain ⟨hin, hk2⟩ := ck_s hk2
              unfold setC at hk2
              split at hk2
              · next p0 u0 p1 u1 p2 u2 hg0' hg1' hg2' =>
                split at hk2
                · next E0 z0 f0 =>
                  split at hk2
                  · next E1 z1 f1 =>
                    split at hk2
                    · next E2 z2 f2 =>
                      intro a ha hda
                      show LeavesInM Fence.wide 0 P fn a.tmps _ a.defers (.panicking (chOf q)) w2
                      rw [hda]
                      refine leaves_takeG (by simp) hmk2 (leaves_hd0 hH.1 (by simp) ?_)
                      obtain ⟨hB, vs2, hst2⟩ := rel_sans hR2
                      obtain ⟨S0, _, hΓ⟩ := hst2.ex
                      have v0 : env2 t0 = vs2 p0 := (gs_lk hΓ t0 0 _ hg0').1
                      have v1 : env2 t1 = vs2 p1 := (gs_lk hΓ t1 0 _ hg1').1
                      have v2 : env2 t2 = vs2 p2 := (gs_lk hΓ t2 0 _ hg2').1
                      have hq : chOf q = chOf (T, q.2) := by rw [← hqT]
                      rw [hq, ← ht0, v0, ← ht1, v1, ← ht2, v2]
                      have hst3 : St _ _ (moF vs2 (p0, .var .tr E0 z0) :: moF vs2 (p1, .var .i E1 z1) :: moF vs2 (p2, .var .i E2 z2) :: (OS vs2 (Fr.wd ⟨we, Se, F, G⟩ Ds1) ⟨0, [], []⟩ (delo (delo (delo σ2.ob p0) p1) p2))) _ _ := hst2.perm ((os_perm f0).trans (((os_perm f1).trans ((os_perm f2).cons _)).cons _))
                      refine CallsDIn.mono (hH.2.2 _ _ _ E0 E1 E2 z0 z1 z2 q.2 _ _ _ _ _ hin hst3) ?_
                      rintro e u w' ⟨hr, hu, hs⟩
                      refine ⟨hr, ?_⟩
                      rw [hu]
                      refine fin hk2 ⟨⟨fun e he => ?_, hB.o2, hB.r1, hB.r2⟩, vs2, hs⟩ ha
                      have fm : ∀ {ob : List (Nat × Od)} {o : Nat} {X : Od}, fndO ob o = some X → (o, X) ∈ ob := fun h => let ⟨i, h1, _⟩ := fndO_some h; List.mem_of_getElem? h1
                      have m0 := fm f0
                      have m1 := delo_mem _ (fm f1)
                      have m2 := delo_mem _ (delo_mem _ (fm f2))
                      simp only [List.mem_cons] at he
                      rcases he with rfl | rfl | rfl | he
                      · have := hB.o1 _ m0; exact this
                      · have := hB.o1 _ m1; exact this
                      · have := hB.o1 _ m2; exact this
                      · exact hB.o1 _ (delo_mem _ (delo_mem _ (delo_mem _ he)))
                    · cases hk2
                  · cases hk2
                · cases hk2
              · cases hk2
        · cases hk1
      · cases h
    · cases h
  · cases h
end
end
def containsN (a0 a1 : List Nat) : Option Bool := ck (a1.length = 1) <| some (a0.any fun b => Nat.beq b (a1.headD 0))
def atoiE (a0 : List Nat) : Int × Bool := match Lib.atoiAll (a0.map UInt8.ofNat) with
  | .ok v => (v, false)
  | .range => (Lib.atoiSat (a0.map UInt8.ofNat), true)
  | _ => (0, true)
def atoiN (a0 : List Nat) : Option (Int × Bool) := ck (a0.length ≤ 281474976710656) <| some (atoiE a0)
def digN : Nat → Nat → List Nat
  | 0, _ => []
  | f + 1, u => if u < 10 then [48 + u] else digN f (u / 10) ++ [48 + u % 10]
def itoaE (a0 : Int) : List Nat := if a0 < 0 then 45 :: digN 20 a0.natAbs else digN 20 a0.toNat
def itoaN (a0 : Int) : Option (List Nat) := ck (InR a0) <| some (itoaE a0)
theorem digN_eq : ∀ (f u : Nat), u < 10 ^ (f + 1) → (Lib.decDigits u).map UInt8.toNat = digN (f + 1) u
  | f, u, h => by
    unfold digN
    rw [Lib.decDigits]
    by_cases h1 : u < 10
    · rw [dif_pos h1, if_pos h1, List.map_cons, List.map_nil, UInt8.toNat_ofNat']
      rw [Nat.mod_eq_of_lt (by omega)]
    · rw [dif_neg h1, if_neg h1, List.map_append, List.map_cons, List.map_nil, UInt8.toNat_ofNat', Nat.mod_eq_of_lt (by omega)]
      match f, h with
      | 0, h => exact absurd (by simpa using h) h1
      | f + 1, h => rw [digN_eq f (u / 10) (by rw [Nat.pow_succ] at h; omega)]
theorem itoaE_eq {a : Int} (h : InR a) : (Lib.itoa a).map UInt8.toNat = itoaE a := by
  unfold Lib.itoa itoaE
  split
  · rw [List.map_cons, digN_eq 19 _ (by omega)]; rfl
  · exact digN_eq 19 _ (by omega)
theorem digN_len : ∀ f u, (digN f u).length ≤ f
  | 0, _ => Nat.le_refl _
  | f + 1, u => by
    unfold digN
    split
    · simp
    · have := digN_len f (u / 10)
      rw [List.length_append]; simp only [List.length_cons, List.length_nil]; omega
theorem index_any : ∀ (l : List UInt8) (c : UInt8), -1 ≤ Lib.indexByte l c ∧ decide (0 ≤ Lib.indexByte l c) = (l.map UInt8.toNat).any fun b => Nat.beq b c.toNat
  | [], c => ⟨Int.le_refl _, rfl⟩
  | b :: l, c => by
    obtain ⟨h1, h2⟩ := index_any l c
    unfold Lib.indexByte
    rw [List.map_cons, List.any_cons]
    by_cases hb : b = c
    · subst hb
      simp
    · have h3 : (b == c) = false := by simp [hb]
      have h4 : Nat.beq b.toNat c.toNat = false := by
        cases h : Nat.beq b.toNat c.toNat
        · rfl
        · exact absurd (UInt8.toNat_inj.1 (Nat.eq_of_beq_eq_true h)) hb
      rw [h3, h4, Bool.false_or, ← h2]
      simp only [Bool.false_eq_true, reduceIte]
      by_cases h5 : Lib.indexByte l c = -1
      · rw [h5]; decide
      · have h6 : (Lib.indexByte l c == -1) = false := by simp [h5]
        rw [h6]
        simp only [Bool.false_eq_true, reduceIte]
        refine ⟨by omega, ?_⟩
        rw [decide_eq_decide]
        omega
theorem ofNat_toNat (l : List UInt8) : (l.map UInt8.toNat).map UInt8.ofNat = l := by
  rw [List.map_map]
  conv => rhs; rw [← List.map_id l]
  exact List.map_congr_left fun b _ => by simp
theorem Ext.of_belowN {w w' : World} (h : RowKit.Below w.heap.size w w') : Ext w w' := ⟨h.os, h.tape, h.output, h.size, fun k hk _ => h.block k hk⟩
theorem bn_eq {s : ByteArray} {x : List Nat} (h : bytesN s = x) : s.data.toList = x.map UInt8.ofNat := by
  rw [← h]; unfold bytesN; rw [ofNat_toNat]
theorem ext_bytes (w : World) (e : TypeId) (s : ByteArray) : Ext w (Lib.bytesWorld w e s) := ⟨rfl, rfl, rfl, by rw [Lib.bytesWorld_size]; omega, fun k hk _ => Lib.bytesWorld_at_old w e s k hk⟩
theorem fn_contains {f : FuncId} (hf : ∀ (s : ByteArray) (c : UInt8) (w : World), Calls Tryd.prog f #[.string s, .string ⟨#[c]⟩] w fun e w' => e = .returned (.bool (decide (0 ≤ Lib.indexByte s.data.toList c))) ∧ w' = w) {a b : List Nat} {v u : Value} {r : Bool} (hM : containsN a b = some r) :
    Fn Tryd.prog f #[v, u] [fV eTx a v, fV eTx b u] (fun _ : Unit => .bool r) (fun _ => [fV eBool r (.bool r)]) (fun _ => True) := by
  unfold containsN at hM
  obtain ⟨k1, hM⟩ := ck_s hM
  have hr := (Option.some.inj hM).symm
  intro w Se hSe hΓ
  obtain ⟨hv, hu, _⟩ := hΓ
  obtain ⟨s, rfl, e1, e2⟩ := fV_tx hv
  obtain ⟨t, rfl, e3, e4⟩ := fV_tx hu
  have e5 := bn_eq e3
  obtain ⟨c, hc⟩ : ∃ c, t.data.toList = [c] := by
    have : t.data.toList.length = 1 := by rw [e5, List.length_map]; exact k1
    exact List.length_eq_one_iff.1 this
  have ht : t = ⟨#[c]⟩ := by
    cases t with
    | mk d =>
      simp only at hc
      congr
      exact Array.toList_inj.1 (by rw [hc])
  have hcn : b = [c.toNat] := by rw [← e3]; unfold bytesN; rw [hc]; rfl
  rw [ht]
  refine (hf s c w).mono ?_
  rintro e w' ⟨rfl, rfl⟩
  have h6 := (index_any s.data.toList c).2
  have h7 : r = decide (0 ≤ Lib.indexByte s.data.toList c) := by
    rw [hr, h6, hcn, ← e1]; rfl
  rw [← h7]
  exact ⟨(), rfl, trivial, Keeps.refl _ _, bool_fV, trivial⟩
theorem sig_strings_Contains : SigOK Tryd.prog ⟨Tryd.lays144_ren.f 144, [.d .tx, .d .tx], [.d .b], fun x => containsN x.1 x.2.1, 0⟩ := by
  refine ⟨by kernel_rfl, fun x r hM vs hl => ?_⟩
  match vs, hl with
  | [v, u], _ => exact (fn_fnG (fn_contains Tryd.contains_one hM)).to (fun _ => [.bool r]) (fun _ => rfl) (fun _ => rfl) (fun _ _ => rfl) fun _ _ S w ha => ha
theorem fn_itoa {a : Int} {v : Value} {r : List Nat} (hM : itoaN a = some r) : Fn Tryd.prog (Tryd.laysM171_ren.f 171) #[v] [fV eI a v] (fun _ : Unit => .string ⟨(Lib.itoa a).toArray⟩) (fun _ => [fV eTx r (.string ⟨(Lib.itoa a).toArray⟩)]) (fun _ => True) := by
  unfold itoaN at hM
  obtain ⟨k1, hM⟩ := ck_s hM
  have hr := (Option.some.inj hM).symm
  intro w Se hSe hΓ
  obtain ⟨hv, _⟩ := hΓ
  obtain rfl := (fV_i64 hv).1
  refine (Any.strconv_Itoa Tryd.laysM171 a k1.1 k1.2 w hSe.gv.1).mono ?_
  rintro e w' ⟨rfl, k, os, rfl⟩
  have h1 := itoaE_eq k1
  refine ⟨(), rfl, trivial, ⟨rfl, rfl, rfl, ?_, fun j hj _ => ?_⟩, tx_fV ?_ ?_, trivial⟩
  · show w.heap.size ≤ (w.heap ++ os).size
    rw [Array.size_append]; omega
  · show (w.heap ++ os)[j]? = w.heap[j]?
    rw [Array.getElem?_append_left hj]
  · rw [hr, ← h1]; unfold bytesN; simp
  · have h2 := bytesN_len ⟨(Lib.itoa a).toArray⟩
    have h3 : bytesN ⟨(Lib.itoa a).toArray⟩ = itoaE a := by rw [← h1]; unfold bytesN; simp
    rw [h3] at h2
    have h4 : (itoaE a).length ≤ 21 := by
      unfold itoaE
      split
      · have := digN_len 20 (Int.natAbs a); rw [List.length_cons]; omega
      · have := digN_len 20 (Int.toNat a); omega
    omega
theorem sig_strconv_Itoa : SigOK Tryd.prog ⟨Tryd.laysM171_ren.f 171, [.d .i], [.d .tx], fun x => itoaN x.1, 0⟩ := by
  refine ⟨by kernel_rfl, fun x r hM vs hl => ?_⟩
  match vs, hl with
  | [v], _ => exact (fn_fnG (fn_itoa hM)).to (fun _ => [.string ⟨(Lib.itoa x.1).toArray⟩]) (fun _ => rfl) (fun _ => rfl) (fun _ _ => rfl) fun _ _ S w ha => ha
theorem fn_atoi {a : List Nat} {v : Value} {r : Int × Bool} (hM : atoiN a = some r) : Fn Tryd.prog (Tryd.laysC172_ren.f 172) #[v] [fV eTx a v] (fun u : Value => .tuple #[.int .i64 r.1, u]) (fun u => [fV eI r.1 (.int .i64 r.1), fV eEr r.2 u]) (fun _ => True) := by
  unfold atoiN at hM
  obtain ⟨k1, hM⟩ := ck_s hM
  have hr := (Option.some.inj hM).symm
  intro w Se hSe hΓ
  obtain ⟨hv, _⟩ := hΓ
  obtain ⟨s, rfl, e1, e2⟩ := fV_tx hv
  have e5 := bn_eq e1
  have hsz : s.size ≤ 281474976710656 := by rw [← bytesN_len, e1]; exact k1
  unfold atoiE at hr
  rw [← e5] at hr
  cases ha : Lib.atoiAll s.data.toList with
  | ok z =>
    rw [ha] at hr
    have hr : r = (z, false) := hr
    rw [hr]
    refine (Any.strconv_Atoi_ok Tryd.laysC172 s (by omega) z ha w).mono ?_
    rintro e w' ⟨rfl, hw⟩
    refine ⟨.nilIface, rfl, trivial, ?_, i64_fV (Lib.atoiAll_bounds ha), er_fV, trivial⟩
    rcases hw with rfl | ⟨t, rfl⟩
    · exact Keeps.refl _ _
    · exact ext_bytes _ _ _
  | range =>
    rw [ha] at hr
    have hr : r = (Lib.atoiSat s.data.toList, true) := hr
    rw [hr]
    obtain ⟨tp, p, hvar⟩ := hSe.gv.2.1
    refine (Any.strconv_Atoi_range_var Tryd.laysC172 s hsz ha tp p w hvar).mono ?_
    rintro e w' ⟨N, rfl, _, _, hb⟩
    exact ⟨_, rfl, trivial, Ext.of_belowN hb, i64_fV (Lib.atoiSat_bounds _), ⟨_, rfl, .inr ⟨rfl, _, _, rfl⟩⟩, trivial⟩
  | _ =>
    rw [ha] at hr
    have hr : r = (0, true) := hr
    rw [hr]
    obtain ⟨tp, p, hvar⟩ := hSe.gv.2.2
    refine (Any.strconv_Atoi_syntax_var Tryd.laysC172 s hsz ha tp p w hvar).mono ?_
    rintro e w' ⟨N, rfl, _, _, hb⟩
    exact ⟨_, rfl, trivial, Ext.of_belowN hb, i64_fV (by decide), ⟨_, rfl, .inr ⟨rfl, _, _, rfl⟩⟩, trivial⟩
theorem sig_strconv_Atoi : SigOK Tryd.prog ⟨Tryd.laysC172_ren.f 172, [.d .tx], [.d .i, .d .er], fun x => atoiN x.1, 0⟩ := by
  refine ⟨by kernel_rfl, fun x r hM vs hl => ?_⟩
  match vs, hl with
  | [v], _ => exact (fn_fnG (fn_atoi hM)).to (fun u => [.int .i64 r.1, u]) (fun _ => rfl) (fun _ => rfl) (fun _ _ => rfl) fun _ _ S w ha => ha
section
def denQ (cf : Cf) (fn : Func) (dom : List AM) (cod : List RM) (bk : Nat) (pn : Nat → Value) (x : AsD dom) : Option (PX ⊕ RsD cod) := match fn.body with
  | some c => grd (okC fn.ntmps c && (Nat.ble dom.length fn.ntmps && (Nat.beq (fn.results.toList.length + bk) cod.length && (Nat.beq (ownT dom 0).length bk && Nat.blt 0 bk)))) <|
    let y := argS dom x 0
    let rv := fn.results.toList ++ ownT dom 0
    den cf c ⟨0, pinL pn dom 0, []⟩ ⟨dom.length, y.1, y.2⟩ fun t σ => (match t with
      | .r => retD cf (frzD σ rv cod) rv cod fun y _ => some (.inr y)
      | .n => retD cf (frzD σ rv cod) rv cod fun y _ => some (.inr y)
      | .p q => some (.inl q)
      | _ => none)
  | none => none
section
variable {P : Program} {cf : Cf} {fr : Fr} {cx σ : Sg} {env : Env} {w : World} {vs : Nat → Value}
def QQ (dom : List AM) (vs : List Value) (bk : Nat) (we : World) (Se : Nat → Prop) (F : List MF) (G : List FF) (cod : List RM) (z : PX ⊕ RsD cod) (e : Ending) (w : World) : Prop := match z with
  | .inl q => e = .panicked (chOf q) ∧ St we Se F G w
  | .inr r => ∃ u : List Value, e = .returned (outV bk cod.length u) ∧ outOk dom vs bk cod.length u ∧ St we Se (resMs cod r u ++ F) (resFs cod r u ++ G) w
theorem denQ_run (hm : P.follows .mixedOrders = true) (hT : TTok P cf.tt) (hL : ELok P cf.tt) (hC : ∀ s ∈ cf.cs, SigOK P s) (hX : XOK P cf) {f : FuncId} {dom : List AM} {cod : List RM} {bk : Nat} {fn : Func} (hf : P.funcs[f]? = some fn) {x : AsD dom} {z : PX ⊕ RsD cod}
    {vs : List Value} (h : denQ cf fn dom cod bk (fun o => vs.getD o undef) x = some z) (hlen : vs.length = dom.length) {we : World} {Se : Nat → Prop} {F : List MF} {G : List FF} {w : World} (hst : St we Se (argMs dom x vs ++ F) (argFs P dom x vs ++ G) w) : Calls P f vs.toArray w (QQ dom vs bk we Se F G cod z) := by
  unfold denQ at h
  split at h
  · next c hc =>
    obtain ⟨ho, hd⟩ := grd_s h
    clear h
    simp only [Bool.and_eq_true] at ho
    obtain ⟨ho1, ho2, ho3, ho4, ho5⟩ := ho
    have ho3 := beq_t ho3
    have ho5 : 0 < bk := Nat.blt_eq.mp ho5
    obtain ⟨b, rfl⟩ : ∃ b, bk = b + 1 := ⟨bk - 1, by omega⟩
    refine calls_wpP hf hc (by rw [hlen]; exact ho2) fun rest => ?_
    have e0 : ∀ j v, vs[j]? = some v → vs.getD (0 + j) undef = v := fun j v hj => by
      rw [Nat.zero_add, List.getD_eq_getElem?_getD, hj]; rfl
    refine den_s (fr := ⟨we, Se, F, G⟩) (N := Nd.of fn.ntmps) hm hT hL hC hX c ho1 rfl (.inl rfl) hd (fun t σ' hk Ds env w _ hR => ?_) ?_
    · obtain ⟨hmk, hR⟩ := rel_take hR
      refine ⟨hmk, ?_⟩
      have fin : retD cf (frzD σ' (fn.results.toList ++ ownT dom 0) cod) (fn.results.toList ++ ownT dom 0) cod (fun y _ => some (.inr y)) = some z → ∀ a : Act, envOf a = env →
          ∃ v, (results fn a.tmps).run P (takeW Ds w) = .ok v (takeW Ds w) ∧ QQ dom vs (b + 1) we Se F G cod z (.returned v) (takeW Ds w) := fun h a ha => by
        obtain ⟨hB0, vs0, hst0⟩ := hR
        obtain ⟨S0, _, hΓ0⟩ := hst0.ex
        have hpin : All S0 (RS P vs0 env (pinL (fun o => vs.getD o undef) dom 0)) _ := All.left (All.right hΓ0)
        have hR0 : Rel P ⟨we, Se, F, G⟩ ⟨0, [], []⟩ σ' env (takeW Ds w) := ⟨⟨hB0.o1, fun _ he => absurd he List.not_mem_nil, hB0.r1, fun _ he => absurd he List.not_mem_nil⟩, vs0, hst0.weak fun S w ha => All.append (All.left ha) (All.right (All.right ha))⟩
        have hR1 := rel_frzD (fn.results.toList ++ ownT dom 0) cod hR0
        generalize frzD σ' (fn.results.toList ++ ownT dom 0) cod = σ1 at h hR1
        obtain ⟨hB, vs1, hst⟩ := hR1
        obtain ⟨y, os, e1, e2⟩ := retD_s hT h
        cases e1
        obtain ⟨us, h1, h2, h3⟩ := e2 vs1 ⟨we, Se, F, G⟩ env _ _ (fun S w hΓ t => gs_lk hΓ t) hst
        obtain ⟨h4, h5⟩ := resAll_app h2
        have hn : cod.length - (b + 1) = fn.results.toList.length := by omega
        have hback := pin_own hpin h5
        rw [List.drop_zero] at hback
        refine ⟨_, run_results (rs := fn.results.toList) (by rw [Array.toArray_toList]) (ha ▸ h4), us, ?_, ⟨h1, by rw [hn]; exact hback⟩, ?_⟩
        · show Ending.returned _ = .returned (oneOr (us.take (cod.length - (b + 1))))
          rw [hn]
        · exact (St.dropM (B := MS vs1 (delos σ1.ob os)) h3).weak fun S w hΓ => All.append (All.left hΓ) (All.right (All.right hΓ))
      cases t with
      | n => exact .inl ⟨.inl rfl, fin hk⟩
      | r => exact .inl ⟨.inr rfl, fin hk⟩
      | x j => cases hk
      | p q =>
        cases hk
        obtain ⟨hB, vs, hst⟩ := hR
        have hst : St we Se ([] ++ (MS vs σ'.ob ++ F)) (RS P vs env σ'.rg ++ (RS P vs env _ ++ G)) (takeW Ds w) := hst
        exact .inr ⟨_, rfl, rfl, (St.dropM (A := []) hst).weak fun S w hΓ => All.right (All.right hΓ)⟩
    · refine ⟨⟨fun e he => ?_, fun _ he => absurd he List.not_mem_nil, fun e he p hp => ?_, fun e he p hp => ?_⟩, fun o => vs.getD o undef, ?_⟩
      · have := arg_ob e he; simpa using this
      · have := arg_ref e he p hp; simpa using this
      · rw [pin_ref e he] at hp; cases hp
      · have e1 : MS (fun o => vs.getD o undef) (argS dom x 0).2 = argMs dom x vs := arg_ms hlen e0
        show St we Se (MS _ (argS dom x 0).2 ++ ([] ++ F)) _ w
        rw [e1]
        refine hst.weak fun S w hΓ => All.append (arg_rs hlen (fun j v hj => ⟨e0 j v hj, L_zip hj⟩) (All.left hΓ)) (All.append (pin_rs fun j hj => ?_) (All.right hΓ))
        have hj2 : vs[j]? = some (vs[j]'(by omega)) := List.getElem?_eq_getElem (by omega)
        show L _ _ (0 + j) = vs.getD (0 + j) undef
        rw [e0 j _ hj2]
        exact L_zip hj2
  · cases h
theorem denQ_s (hm : P.follows .mixedOrders = true) (hT : TTok P cf.tt) (hL : ELok P cf.tt) (hC : ∀ s ∈ cf.cs, SigOK P s) (hX : XOK P cf) {p : PSig} {fn : Func}
    (hf : P.funcs[p.s.f]? = some fn) (hb : fnB P p.s.f = true) (hM : ∀ pn x r, p.M x = some r → denQ cf fn p.s.dom p.s.cod p.s.bk pn x = some r) : POK P p :=
  ⟨hb, fun x vs hlen => ⟨fun r h => fun we Se F G w hst => denQ_run hm hT hL hC hX hf (hM _ x _ h) hlen hst, fun q h we Se F G w hst => denQ_run hm hT hL hC hX hf (hM _ x _ h) hlen hst⟩⟩
end
end
section
def endV (t : Ty) (E : TypeId) (s : Ty) (E1 : TypeId) (n i : Nat) (σ : Sg) : Option (t.D × List s.D) := match get ⟨0, [], []⟩ σ 0 0 with
  | some (.mw o) => (match fndO σ.ob o with
    | some (.vr t' E' s' F' n' i' z ys) => grd (Nat.beq E' E && (Nat.beq F' E1 && (Nat.beq n' n && Nat.beq i' i))) <| Ty.cast t' t z fun z => Ty.cast (.l s') (.l s) ys fun ys => some (z, ys)
    | _ => none)
  | _ => none
def denV (cf : Cf) (fn : Func) (t : Ty) (E : TypeId) (s : Ty) (E1 : TypeId) (n i : Nat) (dom : List Ty) (pn : Value) (z : t.D) (ys : List s.D) (x : TsD dom) : Option (t.D × List s.D) := match fn.body, fn.results.toList with
  | some c, [] => grd (okC fn.ntmps c && Nat.ble (dom.length + 1) fn.ntmps) <| den cf c ⟨0, [(0, 0, .pin pn)], []⟩ ⟨1, (0, 0, .mw 0) :: argT dom x 1, [(0, .vr t E s E1 n i z ys)]⟩ fun q σ => match q with
    | .r => endV t E s E1 n i σ
    | .n => endV t E s E1 n i σ
    | _ => none
  | _, _ => none
section
variable {P : Program} {cf : Cf} {env : Env} {w : World}
theorem denV_s (hm : P.follows .mixedOrders = true) (hT : TTok P cf.tt) (hL : ELok P cf.tt) (hC : ∀ s ∈ cf.cs, SigOK P s) (hX : XOK P cf) {s : VSig} {fn : Func}
    (hf : P.funcs[s.f]? = some fn) (hb : fnB P s.f = true) (hM : ∀ pn z ys x r, s.M z ys x = some r → denV cf fn s.t s.E s.s s.E1 s.n s.i s.dom pn z ys x = some r) : VOK P s := by
  refine ⟨hb, fun z ys x r hz u vs hlen we Se F G w hst => ?_⟩
  have h := hM (outW u) z ys x r hz
  unfold denV at h
  split at h
  · next c hc hrs =>
    obtain ⟨ho, h⟩ := grd_s h
    rw [Bool.and_eq_true] at ho
    refine calls_wpD (args := outW u :: vs) hf hc (by rw [List.length_cons, hlen]; exact ho.2) fun rest => ?_
    refine den_s (fr := ⟨we, Se, F, G⟩) (N := Nd.of fn.ntmps) hm hT hL hC hX c ho.1 rfl (.inl rfl) h (fun q σ' hk Ds env w _ hR => ?_) ?_
    · obtain ⟨hmk, hR⟩ := rel_take hR
      have fin : endV s.t s.E s.s s.E1 s.n s.i σ' = some r → ∀ a : Act, envOf a = env →
          ∃ v, (results fn a.tmps).run P (takeW Ds w) = .ok v (takeW Ds w) ∧ ∃ v' u', Ending.returned v = .returned v' ∧ outW u' = outW u ∧ St we Se (vrD s r.1 r.2 u' :: F) G (takeW Ds w) := fun h a ha => by
        unfold endV at h
        split at h
        · next o hg =>
          split at h
          · next t' E' s' F' n' i' z' ys' ho =>
            obtain ⟨hE, h1⟩ := grd_s h
            simp only [Bool.and_eq_true] at hE
            obtain ⟨g1, g2, g3, g4⟩ := hE
            have g1 := beq_t g1
            have g2 := beq_t g2
            have g3 := beq_t g3
            have g4 := beq_t g4
            subst g1 g2 g3 g4
            obtain ⟨e, h2⟩ := cast_s h1
            subst e
            obtain ⟨e, h3⟩ := cast_s h2
            cases e
            cases h3
            obtain ⟨hB, vs', hst'⟩ := hR
            obtain ⟨S0, _, hΓ0⟩ := hst'.ex
            have hpin : env 0 = outW u := (All.left (All.right hΓ0)).1
            have hmw : env 0 = outW (vs' o) := gs_lk hΓ0 0 0 _ (get_any hg)
            have h2 : St we Se (vrD s z' ys' (vs' o) :: OS vs' ⟨we, Se, F, G⟩ ⟨0, [(0, 0, .pin (outW u))], []⟩ (delo σ'.ob o)) (GS P vs' env ⟨we, Se, F, G⟩ ⟨0, [(0, 0, .pin (outW u))], []⟩ σ') (takeW Ds w) := os_out ho hst'
            refine ⟨_, run_results (rs := []) (vs := []) (by rw [← hrs, Array.toArray_toList]) trivial, _, vs' o, rfl, hmw.symm.trans hpin, ?_⟩
            have h3 : St we Se ([vrD s z' ys' (vs' o)] ++ (MS vs' (delo σ'.ob o) ++ F)) (GS P vs' env ⟨we, Se, F, G⟩ ⟨0, [(0, 0, .pin (outW u))], []⟩ σ') (takeW Ds w) := h2
            exact (St.dropM h3).weak fun S w hΓ => All.right (All.right hΓ)
          · cases h
        · cases h
      cases q with
      | n => exact ⟨.inl rfl, hmk, fin hk⟩
      | r => exact ⟨.inr rfl, hmk, fin hk⟩
      | x j => cases hk
      | p q => cases hk
    · refine ⟨⟨fun e he => ?_, fun _ he => absurd he List.not_mem_nil, fun e he q hq => ?_, fun e he q hq => ?_⟩, fun _ => u, ?_⟩
      · obtain rfl := List.mem_singleton.1 he
        exact Nat.zero_lt_one
      · rcases List.mem_cons.1 he with rfl | he
        · cases hq; exact Nat.zero_lt_one
        · rw [argT_ref e he] at hq; cases hq
      · obtain rfl := List.mem_singleton.1 he
        cases hq
      · refine hst.weak fun S w hΓ => ⟨rfl, All.append (argT_rs hlen (fun j v hj => ?_) (All.left hΓ)) ⟨rfl, All.right hΓ⟩⟩
        rw [Nat.add_comm 1 j, ← Nat.zero_add (j + 1)]
        exact L_zip (by simpa using hj)
  · cases h
end
end
section
set_option maxRecDepth 100000
def tt : List (Nat × TI) := [(2, ⟨.i, .int .i64, 8⟩), (3, ⟨.i, .int .i64, 8⟩), (4, ⟨.b, .bool, 1⟩), (5, ⟨.ch, .int .u8, 1⟩), (6, ⟨.ch, .int .u8, 1⟩), (7, ⟨(.p .i (.p .i (.p .b .ch))), .st 4, 24⟩), (8, ⟨(.p .i (.p .i (.p .b .ch))), .st 4, 24⟩), (9, ⟨.tx, .str, 16⟩), (10, ⟨.tx, .str, 16⟩), (11, ⟨.tx, .str, 16⟩), (12, ⟨.u, .int .u64, 8⟩), (13, ⟨(.p .tx .u), .st 2, 24⟩), (14, ⟨(.p .tx .u), .st 2, 24⟩), (20, ⟨.er, .ie, 16⟩), (23, ⟨.tr, .pt 50, 8⟩), (24, ⟨.i, .int .i64, 8⟩), (29, ⟨.tr, .pt 47, 8⟩), (32, ⟨(.w1 .i), .st 0, 8⟩), (33, ⟨(.w1 .i), .st 0, 8⟩), (34, ⟨(.po (.p .tx (.p .i (.p .i .i)))), .pt 36, 8⟩), (35, ⟨(.p .tx (.p .i (.p .i .i))), .st 4, 40⟩), (36, ⟨(.p .tx (.p .i (.p .i .i))), .st 4, 40⟩), (40, ⟨(.po (.p (.l .ch) (.p .i (.p .i .b)))), .pt 43, 8⟩), (41, ⟨(.l .ch), .sl 5, 24⟩), (42, ⟨(.p (.l .ch) (.p .i (.p .i .b))), .st 4, 48⟩), (43, ⟨(.p (.l .ch) (.p .i (.p .i .b))), .st 4, 48⟩), (45, ⟨(.l .u), .sl 57, 24⟩), (46, ⟨trT, .st 6, 64⟩), (47, ⟨trT, .st 6, 64⟩), (49, ⟨trT, .st 6, 64⟩), (50, ⟨trT, .st 6, 64⟩), (57, ⟨.u, .int .u64, 8⟩), (68, ⟨(.l .tx), .sl 9, 24⟩), (75, ⟨.er, .ie, 16⟩), (76, ⟨.er, .ie, 16⟩), (88, ⟨(.a 24 .ch), .ar 24 5, 24⟩), (95, ⟨.u, .int .u64, 8⟩), (101, ⟨(.po .ch), .pt 5, 8⟩), (103, ⟨(.a 20 .u), .ar 20 57, 160⟩), (105, ⟨(.a 65 .ch), .ar 65 5, 65⟩), (110, ⟨.i, .int .i64, 8⟩), (113, ⟨(.po (.p .tx (.p .tx .er))), .pt 124, 8⟩), (123, ⟨(.p .tx (.p .tx .er)), .st 3, 48⟩), (124, ⟨(.p .tx (.p .tx .er)), .st 3, 48⟩), (126, ⟨(.a 32 .ch), .ar 32 5, 32⟩), (127, ⟨(.a 64 .ch), .ar 64 5, 64⟩), (130, ⟨(.po (.w1 .tx)), .pt 132, 8⟩), (131, ⟨(.w1 .tx), .st 0, 16⟩), (132, ⟨(.w1 .tx), .st 0, 16⟩), (138, ⟨.ch, .int .u8, 1⟩), (139, ⟨.ch, .int .u8, 1⟩)]
def ex : List (Nat × Bool) := [(60, true)]
theorem ttok : TTok Tryd.prog tt := TTok.add (by kernel_rfl) (by kernel_rfl) (id (by kernel_rfl : Tryd.prog.underlying 2 = some (.int .i64))) <|
  TTok.add (by kernel_rfl) (by kernel_rfl) (id (by kernel_rfl : Tryd.prog.underlying 3 = some (.int .i64))) <|
  TTok.add (by kernel_rfl) (by kernel_rfl) (id (by kernel_rfl : Tryd.prog.underlying 4 = some .bool)) <|
  TTok.add (by kernel_rfl) (by kernel_rfl) (id (by kernel_rfl : Tryd.prog.underlying 5 = some (.int .u8))) <|
  TTok.add (by kernel_rfl) (by kernel_rfl) (id (by kernel_rfl : Tryd.prog.underlying 6 = some (.int .u8))) <|
  TTok.add (by kernel_rfl) (by kernel_rfl) ⟨rfl, by kernel_rfl⟩ <|
  TTok.add (by kernel_rfl) (by kernel_rfl) ⟨rfl, by kernel_rfl⟩ <|
  TTok.add (by kernel_rfl) (by kernel_rfl) (id (by kernel_rfl : Tryd.prog.underlying 9 = some .string)) <|
  TTok.add (by kernel_rfl) (by kernel_rfl) (id (by kernel_rfl : Tryd.prog.underlying 10 = some .string)) <|
  TTok.add (by kernel_rfl) (by kernel_rfl) (id (by kernel_rfl : Tryd.prog.underlying 11 = some .string)) <|
  TTok.add (by kernel_rfl) (by kernel_rfl) (id (by kernel_rfl : Tryd.prog.underlying 12 = some (.int .u64))) <|
  TTok.add (by kernel_rfl) (by kernel_rfl) ⟨rfl, by kernel_rfl⟩ <|
  TTok.add (by kernel_rfl) (by kernel_rfl) ⟨rfl, by kernel_rfl⟩ <|
  TTok.add (by kernel_rfl) (by kernel_rfl) (id (by kernel_rfl : Tryd.prog.underlying 20 = some (.interface (Tryd.prog.methodsAt 20)))) <|
  TTok.add (by kernel_rfl) (by kernel_rfl) (id (by kernel_rfl : Tryd.prog.underlying 23 = some (.pointer 50))) <|
  TTok.add (by kernel_rfl) (by kernel_rfl) (id (by kernel_rfl : Tryd.prog.underlying 24 = some (.int .i64))) <|
  TTok.add (by kernel_rfl) (by kernel_rfl) (id (by kernel_rfl : Tryd.prog.underlying 29 = some (.pointer 47))) <|
  TTok.add (by kernel_rfl) (by kernel_rfl) ⟨rfl, by kernel_rfl⟩ <|
  TTok.add (by kernel_rfl) (by kernel_rfl) ⟨rfl, by kernel_rfl⟩ <|
  TTok.add (by kernel_rfl) (by kernel_rfl) (id (by kernel_rfl : Tryd.prog.underlying 34 = some (.pointer 36))) <|
  TTok.add (by kernel_rfl) (by kernel_rfl) ⟨rfl, by kernel_rfl⟩ <|
  TTok.add (by kernel_rfl) (by kernel_rfl) ⟨rfl, by kernel_rfl⟩ <|
  TTok.add (by kernel_rfl) (by kernel_rfl) (id (by kernel_rfl : Tryd.prog.underlying 40 = some (.pointer 43))) <|
  TTok.add (by kernel_rfl) (by kernel_rfl) ⟨by kernel_rfl, _, rfl⟩ <|
  TTok.add (by kernel_rfl) (by kernel_rfl) ⟨rfl, by kernel_rfl⟩ <|
  TTok.add (by kernel_rfl) (by kernel_rfl) ⟨rfl, by kernel_rfl⟩ <|
  TTok.add (by kernel_rfl) (by kernel_rfl) ⟨by kernel_rfl, _, rfl⟩ <|
  TTok.add (by kernel_rfl) (by kernel_rfl) ⟨rfl, by kernel_rfl⟩ <|
  TTok.add (by kernel_rfl) (by kernel_rfl) ⟨rfl, by kernel_rfl⟩ <|
  TTok.add (by kernel_rfl) (by kernel_rfl) ⟨rfl, by kernel_rfl⟩ <|
  TTok.add (by kernel_rfl) (by kernel_rfl) ⟨rfl, by kernel_rfl⟩ <|
  TTok.add (by kernel_rfl) (by kernel_rfl) (id (by kernel_rfl : Tryd.prog.underlying 57 = some (.int .u64))) <|
  TTok.add (by kernel_rfl) (by kernel_rfl) ⟨by kernel_rfl, _, rfl⟩ <|
  TTok.add (by kernel_rfl) (by kernel_rfl) (id (by kernel_rfl : Tryd.prog.underlying 75 = some (.interface (Tryd.prog.methodsAt 75)))) <|
  TTok.add (by kernel_rfl) (by kernel_rfl) (id (by kernel_rfl : Tryd.prog.underlying 76 = some (.interface (Tryd.prog.methodsAt 76)))) <|
  TTok.add (by kernel_rfl) (by kernel_rfl) ⟨rfl, by kernel_rfl⟩ <|
  TTok.add (by kernel_rfl) (by kernel_rfl) (id (by kernel_rfl : Tryd.prog.underlying 95 = some (.int .u64))) <|
  TTok.add (by kernel_rfl) (by kernel_rfl) (id (by kernel_rfl : Tryd.prog.underlying 101 = some (.pointer 5))) <|
  TTok.add (by kernel_rfl) (by kernel_rfl) ⟨rfl, by kernel_rfl⟩ <|
  TTok.add (by kernel_rfl) (by kernel_rfl) ⟨rfl, by kernel_rfl⟩ <|
  TTok.add (by kernel_rfl) (by kernel_rfl) (id (by kernel_rfl : Tryd.prog.underlying 110 = some (.int .i64))) <|
  TTok.add (by kernel_rfl) (by kernel_rfl) (id (by kernel_rfl : Tryd.prog.underlying 113 = some (.pointer 124))) <|
  TTok.add (by kernel_rfl) (by kernel_rfl) ⟨rfl, by kernel_rfl⟩ <|
  TTok.add (by kernel_rfl) (by kernel_rfl) ⟨rfl, by kernel_rfl⟩ <|
  TTok.add (by kernel_rfl) (by kernel_rfl) ⟨rfl, by kernel_rfl⟩ <|
  TTok.add (by kernel_rfl) (by kernel_rfl) ⟨rfl, by kernel_rfl⟩ <|
  TTok.add (by kernel_rfl) (by kernel_rfl) (id (by kernel_rfl : Tryd.prog.underlying 130 = some (.pointer 132))) <|
  TTok.add (by kernel_rfl) (by kernel_rfl) ⟨rfl, by kernel_rfl⟩ <|
  TTok.add (by kernel_rfl) (by kernel_rfl) ⟨rfl, by kernel_rfl⟩ <|
  TTok.add (by kernel_rfl) (by kernel_rfl) (id (by kernel_rfl : Tryd.prog.underlying 138 = some (.int .u8))) <|
  TTok.add (by kernel_rfl) (by kernel_rfl) (id (by kernel_rfl : Tryd.prog.underlying 139 = some (.int .u8))) <|
  TTok.nil
theorem elok : ELok Tryd.prog tt := ELok.of (by kernel_rfl)
theorem exok : EXok Tryd.prog ex := EXok.add Tryd.func60 (by kernel_rfl) (by kernel_rfl) (by kernel_rfl) (fun _ => by kernel_rfl) (fun h => by cases h) <|
  EXok.nil
theorem mord : Tryd.prog.follows .mixedOrders = true := by kernel_rfl
theorem sg {cs : List Sig} (an : An) {fu : Nat} {s : Sig} {fn : Func} (hf : Tryd.prog.funcs[s.f]? = some fn) (hC : ∀ s ∈ cs, SigOK Tryd.prog s) (hb : fnB Tryd.prog s.f = true) (hM : ∀ x, denF ⟨tt, cs, an, fu, ex, [], [], [], [], []⟩ fn s.dom s.cod x = s.M x) (hk : s.bk = 0 := by rfl) : SigOK Tryd.prog s :=
  sgP mord ttok elok exok rfl an hf hC hb hk hM
theorem sgb {cs : List Sig} (an : An) {fu : Nat} {s : Sig} {fn : Func} (hf : Tryd.prog.funcs[s.f]? = some fn) (hC : ∀ s ∈ cs, SigOK Tryd.prog s) (hb : fnB Tryd.prog s.f = true) (hM : ∀ pn x, denG ⟨tt, cs, an, fu, ex, [], [], [], [], []⟩ fn s.dom s.cod s.bk pn x = s.M x) : SigOK Tryd.prog s :=
  sgG mord ttok elok exok rfl an hf hC hb hM
theorem sgc {cs : List Sig} {ps : List PSig} {vg : List VSig} (an : An) {fu : Nat} {s : Sig} {fn : Func} {hd : FuncId} {T : TypeId} {k : Int} (hH : HOC Tryd.prog hd T k) (hf : Tryd.prog.funcs[s.f]? = some fn) (hC : ∀ s ∈ cs, SigOK Tryd.prog s) (hP : ∀ q ∈ ps, POK Tryd.prog q) (hV : ∀ q ∈ vg, VOK Tryd.prog q) (hb : fnB Tryd.prog s.f = true) (hM : ∀ x, denC3 ⟨tt, cs, an, fu, ex, [], [], [], ps, vg⟩ fn s.dom s.cod hd T k x = s.M x) (hk : s.bk = 0 := by rfl) : SigOK Tryd.prog s :=
  denC3_s (cf := ⟨tt, cs, an, fu, ex, [], [], [], ps, vg⟩) mord ttok elok hC ⟨exok, fun _ h => absurd h List.not_mem_nil, fun _ h => absurd h List.not_mem_nil, fun _ h => absurd h List.not_mem_nil, rfl, hP, hV⟩ hf hb hk hH fun x r h => (hM x).trans h
theorem pN : ∀ p ∈ ([] : List PSig), POK Tryd.prog p := fun _ h => absurd h List.not_mem_nil
theorem pC {s : PSig} {l : List PSig} (h : POK Tryd.prog s) (k : ∀ s ∈ l, POK Tryd.prog s) : ∀ q ∈ s :: l, POK Tryd.prog q := by grind
theorem vN : ∀ p ∈ ([] : List VSig), VOK Tryd.prog p := fun _ h => absurd h List.not_mem_nil
theorem vC {s : VSig} {l : List VSig} (h : VOK Tryd.prog s) (k : ∀ s ∈ l, VOK Tryd.prog s) : ∀ q ∈ s :: l, VOK Tryd.prog q := by grind
theorem pg0 {p : PSig} (hb : fnB Tryd.prog p.s.f = true) (hM : ∀ x, p.M x = none) : POK Tryd.prog p := ⟨hb, fun x vs hl => ⟨fun r h => (by rw [hM x] at h; cases h), fun q h => (by rw [hM x] at h; cases h)⟩⟩
theorem vg0 {s : VSig} (hb : fnB Tryd.prog s.f = true) (hM : ∀ z ys x, s.M z ys x = none) : VOK Tryd.prog s := ⟨hb, fun z ys x r h => (by rw [hM z ys x] at h; cases h)⟩
abbrev cfa (cs : List Sig) (ps : List PSig) (vg : List VSig) (an : An) (fu : Nat) : Cf := ⟨tt, cs, an, fu, ex, [], [], [], ps, vg⟩
section
variable {cs : List Sig} {ps : List PSig} {vg : List VSig} {fu : Nat} {fn : Func}
theorem xok {an : An} (hP : ∀ q ∈ ps, POK Tryd.prog q) (hV : ∀ q ∈ vg, VOK Tryd.prog q) : XOK Tryd.prog (cfa cs ps vg an fu) := ⟨exok, fun _ h => absurd h List.not_mem_nil, fun _ h => absurd h List.not_mem_nil, fun _ h => absurd h List.not_mem_nil, rfl, hP, hV⟩
theorem gF (an : An) {s : Sig} (hf : Tryd.prog.funcs[s.f]? = some fn) (hC : ∀ s ∈ cs, SigOK Tryd.prog s) (hP : ∀ q ∈ ps, POK Tryd.prog q) (hV : ∀ q ∈ vg, VOK Tryd.prog q) (hb : fnB Tryd.prog s.f = true) (hM : ∀ x, denF (cfa cs ps vg an fu) fn s.dom s.cod x = s.M x) (hk : s.bk = 0 := by rfl) : SigOK Tryd.prog s :=
  denF_s mord ttok elok hC (xok hP hV) hf hb hk fun x r h => (hM x).trans h
theorem gQ (an : An) {p : PSig} (hf : Tryd.prog.funcs[p.s.f]? = some fn) (hC : ∀ s ∈ cs, SigOK Tryd.prog s) (hP : ∀ q ∈ ps, POK Tryd.prog q) (hV : ∀ q ∈ vg, VOK Tryd.prog q) (hb : fnB Tryd.prog p.s.f = true) (hM : ∀ pn x, denQ (cfa cs ps vg an fu) fn p.s.dom p.s.cod p.s.bk pn x = p.M x) : POK Tryd.prog p :=
  denQ_s mord ttok elok hC (xok hP hV) hf hb fun pn x r h => (hM pn x).trans h
theorem gV (an : An) {s : VSig} (hf : Tryd.prog.funcs[s.f]? = some fn) (hC : ∀ s ∈ cs, SigOK Tryd.prog s) (hP : ∀ q ∈ ps, POK Tryd.prog q) (hV : ∀ q ∈ vg, VOK Tryd.prog q) (hb : fnB Tryd.prog s.f = true) (hM : ∀ pn z ys x, denV (cfa cs ps vg an fu) fn s.t s.E s.s s.E1 s.n s.i s.dom pn z ys x = s.M z ys x) : VOK Tryd.prog s :=
  denV_s mord ttok elok hC (xok hP hV) hf hb fun pn z ys x r h => (hM pn z ys x).trans h
end
end
end Go.Proofs.YtbaoeefdjpaomaaDoor

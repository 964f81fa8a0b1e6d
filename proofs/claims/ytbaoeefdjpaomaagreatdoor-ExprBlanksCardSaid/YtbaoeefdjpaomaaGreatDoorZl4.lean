/- What a proof needs: rules of walking, mirrors of functions and their plain laws. No condition. -/
import Derived.Test.YtbaoeefdjpaomaaGreatDoorZl3
import Derived.RangeFuncLeaves
import Derived.Below
import Derived.Lib.Join
import Derived.Shelf.Strings.Builder1
import Derived.Shelf.Strings.Builder2
import Derived.Shelf.Strings.OnBuilder
import Derived.Shelf.Strconv.Atoi
import Derived.Shelf.Strconv.AtoiErrFast
import Derived.Shelf.Strconv.ParseIntEmpty
import Derived.Shelf.Strconv.AtoiFail
import Derived.Shelf.LaysM
import Derived.Shelf.Strconv.Clone
import Derived.Shelf.Strconv.SyntaxError
import Derived.Shelf.LaysC
import Derived.Shelf.Strconv.ToError
import Derived.Shelf.Strconv.Lower
import Derived.Shelf.Strconv.ParseUint10
import Derived.Shelf.Strconv.ParseUint10Empty
import Derived.Shelf.Strconv.ParseUint10Any
import Derived.Shelf.Strconv.ParseInt10
import Derived.Shelf.Strconv.AtoiLong
import Derived.Shelf.Strconv.AtoiInnerAll
import Derived.Shelf.Strconv.RangeError
import Derived.Shelf.Strconv.ToErrorRange
import Derived.Shelf.Strconv.AtoiAll
import Derived.Shelf.Strconv.ErrVarAll
import Derived.Shelf.Strings.Search1
import Derived.RecoverIn
import Derived.Lib.AtoiAll
import Derived.Lib.Bytealg
import Derived.Shelf.Strconv.Itoa3
import Derived.Shelf.Strings.Search3
set_option linter.unusedVariables false
set_option linter.unusedSimpArgs false
namespace Go.Proofs
open Go.Shelf
def Tryz.lays156_ren:Go.Shelf.Ren:=⟨fun|156=>70|165=>80|166=>81|169=>82|240=>100|241=>101|276=>113|277=>114|n=>n,fun|31=>102|9=>9|3=>3|4=>4|0=>0|20=>20|72=>122|76=>111|70=>120|37=>33|75=>110|127=>135|164=>148|5=>5|80=>77|n=>n,fun|n=>n⟩
theorem Tryz.lays156:Go.Proofs.Lays.n156 Tryz.prog Tryz.lays156_ren:={
  mixed:=by kernel_rfl
  f156:=Tryz.func70.trans (congrArg some (by kernel_rfl))
  f165:=Tryz.func80.trans (congrArg some (by kernel_rfl))
  f166:=Tryz.func81.trans (congrArg some (by kernel_rfl))
  f169:=Tryz.func82.trans (congrArg some (by kernel_rfl))
  f240:=Tryz.func100.trans (congrArg some (by kernel_rfl))
  f241:=Tryz.func101.trans (congrArg some (by kernel_rfl))
  f276:=Tryz.func113.trans (congrArg some (by kernel_rfl))
  f277:=Tryz.func114.trans (congrArg some (by kernel_rfl))
  t0:=Tryz.underlying0
  a0:=Tryz.isAgg0
  z0:=Tryz.sizeOf0
  v0:=Tryz.zeroValue0
  t3:=Tryz.underlying3
  a3:=Tryz.isAgg3
  z3:=Tryz.sizeOf3
  v3:=Tryz.zeroValue3
  t4:=Tryz.underlying4
  a4:=Tryz.isAgg4
  z4:=Tryz.sizeOf4
  v4:=Tryz.zeroValue4
  t9:=Tryz.underlying9
  a9:=Tryz.isAgg9
  z9:=Tryz.sizeOf9
  v9:=Tryz.zeroValue9
  t20:=Tryz.underlying20
  a20:=Tryz.isAgg20
  z20:=Tryz.sizeOf20
  v20:=Tryz.zeroValue20
  t31:=Tryz.underlying102
  a31:=Tryz.isAgg102
  z31:=Tryz.sizeOf102
  v31:=Tryz.zeroValue102
  t37:=Tryz.underlying33
  a37:=Tryz.isAgg33
  z37:=Tryz.sizeOf33
  v37:=Tryz.zeroValue33
  t70:=Tryz.underlying120
  a70:=Tryz.isAgg120
  z70:=Tryz.sizeOf120
  v70:=Tryz.zeroValue120
  t72:=Tryz.underlying122
  a72:=Tryz.isAgg122
  z72:=Tryz.sizeOf122
  v72:=Tryz.zeroValue122
  t75:=Tryz.underlying110
  a75:=Tryz.isAgg110
  z75:=Tryz.sizeOf110
  v75:=Tryz.zeroValue110
  t76:=Tryz.underlying111
  a76:=Tryz.isAgg111
  z76:=Tryz.sizeOf111
  v76:=Tryz.zeroValue111
  t127:=Tryz.underlying135
  a127:=Tryz.isAgg135
  z127:=Tryz.sizeOf135
  v127:=Tryz.zeroValue135
  t164:=Tryz.underlying148
  a164:=Tryz.isAgg148
  z164:=Tryz.sizeOf148
  v164:=Tryz.zeroValue148}
theorem Tryz.Builder_Extra_156:Builder.Extra Tryz.prog Tryz.lays156_ren:={
  sizeBuilder:=by kernel_rfl
  liesBuilder:=by kernel_rfl
  t5:=Tryz.underlying5
  a5:=Tryz.isAgg5
  z5:=Tryz.sizeOf5
  v5:=Tryz.zeroValue5
  infoByte:=by kernel_rfl
  cellsByte:=by kernel_rfl
  sizeByte:=by kernel_rfl
  neB5:=by decide}
open Go.RowKit in
theorem Tryz.strings_Join_none(a:Option Addr)(c:Nat)(sep:ByteArray)(w:World):
    Calls Tryz.prog 70 #[.slice a 0 c,.string sep] w fun e w'=>e=.returned (.string ⟨#[]⟩)∧w'=w:=Any.strings_Join_none Tryz.lays156 Tryz.Builder_Extra_156 a c sep w
open Go.RowKit in
theorem Tryz.strings_Join(bk o c:Nat)(xs:List ByteArray)(sep:ByteArray)(w:World)(hcells:∀(j:Nat) x,xs[j]? =some x→w.cell? ⟨bk,o+j,none⟩=some (.string x))(hbk:bk<w.heap.size)(hN:xs.length≤140737488355328)(hcap:xs.length≤c)(hlen:(Lib.join (xs.map (·.data.toList)) sep.data.toList).length≤140737488355328):
    Calls Tryz.prog 70 #[.slice (some ⟨bk,o,none⟩) xs.length c,.string sep] w fun e w'=>e=.returned (.string ⟨(Lib.join (xs.map (·.data.toList)) sep.data.toList).toArray⟩)∧Below w.heap.size w w':=Any.strings_Join Tryz.lays156 Tryz.Builder_Extra_156 bk o c xs sep w hcells hbk hN hcap hlen
end Go.Proofs
namespace Go.Proofs
open Go.Shelf
def Tryz.laysM171_ren:Go.Shelf.Ren:=⟨fun|171=>31|243=>51|246=>71|283=>83|284=>84|285=>85|286=>86|129=>48|317=>102|318=>103|319=>104|320=>105|337=>115|338=>116|n=>n,fun|3=>3|9=>9|2=>2|4=>4|171=>124|0=>0|53=>64|37=>33|5=>5|173=>126|212=>137|51=>88|20=>20|213=>138|46=>67|232=>157|233=>158|n=>n,fun|17=>3|18=>6|19=>7|n=>n⟩
theorem Tryz.laysM171:Go.Proofs.LaysM.n171 Tryz.prog Tryz.laysM171_ren:={
  mixed:=by kernel_rfl
  f129:=Tryz.func48.trans (congrArg some (by kernel_rfl))
  f171:=Tryz.func31.trans (congrArg some (by kernel_rfl))
  f243:=Tryz.func51.trans (congrArg some (by kernel_rfl))
  f246:=Tryz.func71.trans (congrArg some (by kernel_rfl))
  f283:=Tryz.func83.trans (congrArg some (by kernel_rfl))
  f284:=Tryz.func84.trans (congrArg some (by kernel_rfl))
  f285:=Tryz.func85.trans (congrArg some (by kernel_rfl))
  f286:=Tryz.func86.trans (congrArg some (by kernel_rfl))
  f317:=Tryz.func102.trans (congrArg some (by kernel_rfl))
  f318:=Tryz.func103.trans (congrArg some (by kernel_rfl))
  f319:=Tryz.func104.trans (congrArg some (by kernel_rfl))
  f320:=Tryz.func105.trans (congrArg some (by kernel_rfl))
  f337:=Tryz.func115.trans (congrArg some (by kernel_rfl))
  f338:=Tryz.func116.trans (congrArg some (by kernel_rfl))
  t0:=Tryz.underlying0
  a0:=Tryz.isAgg0
  z0:=Tryz.sizeOf0
  v0:=Tryz.zeroValue0
  t2:=Tryz.underlying2
  a2:=Tryz.isAgg2
  z2:=Tryz.sizeOf2
  v2:=Tryz.zeroValue2
  t3:=Tryz.underlying3
  a3:=Tryz.isAgg3
  z3:=Tryz.sizeOf3
  v3:=Tryz.zeroValue3
  t4:=Tryz.underlying4
  a4:=Tryz.isAgg4
  z4:=Tryz.sizeOf4
  v4:=Tryz.zeroValue4
  t5:=Tryz.underlying5
  a5:=Tryz.isAgg5
  z5:=Tryz.sizeOf5
  v5:=Tryz.zeroValue5
  t9:=Tryz.underlying9
  a9:=Tryz.isAgg9
  z9:=Tryz.sizeOf9
  v9:=Tryz.zeroValue9
  t20:=Tryz.underlying20
  a20:=Tryz.isAgg20
  z20:=Tryz.sizeOf20
  v20:=Tryz.zeroValue20
  t37:=Tryz.underlying33
  a37:=Tryz.isAgg33
  z37:=Tryz.sizeOf33
  v37:=Tryz.zeroValue33
  t46:=Tryz.underlying67
  a46:=Tryz.isAgg67
  z46:=Tryz.sizeOf67
  v46:=Tryz.zeroValue67
  t51:=Tryz.underlying88
  a51:=Tryz.isAgg88
  z51:=Tryz.sizeOf88
  v51:=Tryz.zeroValue88
  t53:=Tryz.underlying64
  a53:=Tryz.isAgg64
  z53:=Tryz.sizeOf64
  v53:=Tryz.zeroValue64
  t171:=Tryz.underlying124
  a171:=Tryz.isAgg124
  z171:=Tryz.sizeOf124
  v171:=Tryz.zeroValue124
  t173:=Tryz.underlying126
  a173:=Tryz.isAgg126
  z173:=Tryz.sizeOf126
  v173:=Tryz.zeroValue126
  t212:=Tryz.underlying137
  a212:=Tryz.isAgg137
  z212:=Tryz.sizeOf137
  v212:=Tryz.zeroValue137
  t213:=Tryz.underlying138
  a213:=Tryz.isAgg138
  z213:=Tryz.sizeOf138
  t232:=Tryz.underlying157
  a232:=Tryz.isAgg157
  z232:=Tryz.sizeOf157
  v232:=Tryz.zeroValue157
  t233:=Tryz.underlying158
  a233:=Tryz.isAgg158
  z233:=Tryz.sizeOf158
  v233:=Tryz.zeroValue158
  g17:=by kernel_rfl
  g18:=by kernel_rfl
  g19:=by kernel_rfl
  i0:=by kernel_rfl
  i2:=by kernel_rfl
  i3:=by kernel_rfl
  i4:=by kernel_rfl
  i5:=by kernel_rfl
  i9:=by kernel_rfl
  i20:=by kernel_rfl
  i37:=by kernel_rfl
  i46:=by kernel_rfl
  i51:=by kernel_rfl
  i53:=by kernel_rfl
  i171:=by kernel_rfl
  i173:=by kernel_rfl
  i212:=by kernel_rfl
  i232:=by kernel_rfl
  i233:=by kernel_rfl
  m17:=by kernel_rfl
  m18:=by kernel_rfl
  m19:=by kernel_rfl}
def Tryz.laysC172_ren:Go.Shelf.Ren:=⟨fun|172=>73|244=>91|245=>92|247=>108|279=>109|280=>110|281=>111|282=>112|287=>117|316=>118|171=>31|205=>119|321=>120|322=>121|243=>51|246=>71|283=>83|284=>84|285=>85|286=>86|129=>48|317=>102|318=>103|319=>104|320=>105|337=>115|338=>116|n=>n,fun|9=>9|3=>3|75=>110|76=>111|4=>4|5=>5|167=>142|37=>33|0=>0|85=>143|2=>2|168=>145|53=>64|175=>151|46=>67|210=>155|127=>135|145=>163|143=>161|21=>21|171=>124|173=>126|212=>137|51=>88|20=>20|213=>138|232=>157|233=>158|80=>77|n=>n,fun|15=>4|16=>5|17=>3|18=>6|19=>7|n=>n⟩
theorem Tryz.laysC172:Go.Proofs.LaysC.n172 Tryz.prog Tryz.laysC172_ren:={
  mixed:=by kernel_rfl
  f129:=Tryz.func48.trans (congrArg some (by kernel_rfl))
  f171:=Tryz.func31.trans (congrArg some (by kernel_rfl))
  f172:=Tryz.func73.trans (congrArg some (by kernel_rfl))
  f205:=Tryz.func119.trans (congrArg some (by kernel_rfl))
  f243:=Tryz.func51.trans (congrArg some (by kernel_rfl))
  f244:=Tryz.func91.trans (congrArg some (by kernel_rfl))
  f245:=Tryz.func92.trans (congrArg some (by kernel_rfl))
  f246:=Tryz.func71.trans (congrArg some (by kernel_rfl))
  f247:=Tryz.func108.trans (congrArg some (by kernel_rfl))
  f279:=Tryz.func109.trans (congrArg some (by kernel_rfl))
  f280:=Tryz.func110.trans (congrArg some (by kernel_rfl))
  f281:=Tryz.func111.trans (congrArg some (by kernel_rfl))
  f282:=Tryz.func112.trans (congrArg some (by kernel_rfl))
  f283:=Tryz.func83.trans (congrArg some (by kernel_rfl))
  f284:=Tryz.func84.trans (congrArg some (by kernel_rfl))
  f285:=Tryz.func85.trans (congrArg some (by kernel_rfl))
  f286:=Tryz.func86.trans (congrArg some (by kernel_rfl))
  f287:=Tryz.func117.trans (congrArg some (by kernel_rfl))
  f316:=Tryz.func118.trans (congrArg some (by kernel_rfl))
  f317:=Tryz.func102.trans (congrArg some (by kernel_rfl))
  f318:=Tryz.func103.trans (congrArg some (by kernel_rfl))
  f319:=Tryz.func104.trans (congrArg some (by kernel_rfl))
  f320:=Tryz.func105.trans (congrArg some (by kernel_rfl))
  f321:=Tryz.func120.trans (congrArg some (by kernel_rfl))
  f322:=Tryz.func121.trans (congrArg some (by kernel_rfl))
  f337:=Tryz.func115.trans (congrArg some (by kernel_rfl))
  f338:=Tryz.func116.trans (congrArg some (by kernel_rfl))
  t0:=Tryz.underlying0
  a0:=Tryz.isAgg0
  z0:=Tryz.sizeOf0
  v0:=Tryz.zeroValue0
  t2:=Tryz.underlying2
  a2:=Tryz.isAgg2
  z2:=Tryz.sizeOf2
  v2:=Tryz.zeroValue2
  t3:=Tryz.underlying3
  a3:=Tryz.isAgg3
  z3:=Tryz.sizeOf3
  v3:=Tryz.zeroValue3
  t4:=Tryz.underlying4
  a4:=Tryz.isAgg4
  z4:=Tryz.sizeOf4
  v4:=Tryz.zeroValue4
  t5:=Tryz.underlying5
  a5:=Tryz.isAgg5
  z5:=Tryz.sizeOf5
  v5:=Tryz.zeroValue5
  t9:=Tryz.underlying9
  a9:=Tryz.isAgg9
  z9:=Tryz.sizeOf9
  v9:=Tryz.zeroValue9
  t20:=Tryz.underlying20
  a20:=Tryz.isAgg20
  z20:=Tryz.sizeOf20
  v20:=Tryz.zeroValue20
  t21:=Tryz.underlying21
  a21:=Tryz.isAgg21
  z21:=Tryz.sizeOf21
  v21:=Tryz.zeroValue21
  t37:=Tryz.underlying33
  a37:=Tryz.isAgg33
  z37:=Tryz.sizeOf33
  v37:=Tryz.zeroValue33
  t46:=Tryz.underlying67
  a46:=Tryz.isAgg67
  z46:=Tryz.sizeOf67
  v46:=Tryz.zeroValue67
  t51:=Tryz.underlying88
  a51:=Tryz.isAgg88
  z51:=Tryz.sizeOf88
  v51:=Tryz.zeroValue88
  t53:=Tryz.underlying64
  a53:=Tryz.isAgg64
  z53:=Tryz.sizeOf64
  v53:=Tryz.zeroValue64
  t75:=Tryz.underlying110
  a75:=Tryz.isAgg110
  z75:=Tryz.sizeOf110
  v75:=Tryz.zeroValue110
  t76:=Tryz.underlying111
  a76:=Tryz.isAgg111
  z76:=Tryz.sizeOf111
  v76:=Tryz.zeroValue111
  t85:=Tryz.underlying143
  a85:=Tryz.isAgg143
  z85:=Tryz.sizeOf143
  v85:=Tryz.zeroValue143
  t127:=Tryz.underlying135
  a127:=Tryz.isAgg135
  z127:=Tryz.sizeOf135
  v127:=Tryz.zeroValue135
  t143:=Tryz.underlying161
  a143:=Tryz.isAgg161
  z143:=Tryz.sizeOf161
  v143:=Tryz.zeroValue161
  t145:=Tryz.underlying163
  a145:=Tryz.isAgg163
  z145:=Tryz.sizeOf163
  v145:=Tryz.zeroValue163
  t167:=Tryz.underlying142
  a167:=Tryz.isAgg142
  z167:=Tryz.sizeOf142
  v167:=Tryz.zeroValue142
  t168:=Tryz.underlying145
  a168:=Tryz.isAgg145
  z168:=Tryz.sizeOf145
  v168:=Tryz.zeroValue145
  t171:=Tryz.underlying124
  a171:=Tryz.isAgg124
  z171:=Tryz.sizeOf124
  v171:=Tryz.zeroValue124
  t173:=Tryz.underlying126
  a173:=Tryz.isAgg126
  z173:=Tryz.sizeOf126
  v173:=Tryz.zeroValue126
  t175:=Tryz.underlying151
  a175:=Tryz.isAgg151
  z175:=Tryz.sizeOf151
  v175:=Tryz.zeroValue151
  t210:=Tryz.underlying155
  a210:=Tryz.isAgg155
  z210:=Tryz.sizeOf155
  v210:=Tryz.zeroValue155
  t212:=Tryz.underlying137
  a212:=Tryz.isAgg137
  z212:=Tryz.sizeOf137
  v212:=Tryz.zeroValue137
  t213:=Tryz.underlying138
  a213:=Tryz.isAgg138
  z213:=Tryz.sizeOf138
  t232:=Tryz.underlying157
  a232:=Tryz.isAgg157
  z232:=Tryz.sizeOf157
  v232:=Tryz.zeroValue157
  t233:=Tryz.underlying158
  a233:=Tryz.isAgg158
  z233:=Tryz.sizeOf158
  v233:=Tryz.zeroValue158
  g15:=by kernel_rfl
  g16:=by kernel_rfl
  g17:=by kernel_rfl
  g18:=by kernel_rfl
  g19:=by kernel_rfl
  t80:=Tryz.underlying77
  a80:=Tryz.isAgg77
  z80:=Tryz.sizeOf77
  v80:=Tryz.zeroValue77
  i0:=by kernel_rfl
  i2:=by kernel_rfl
  i3:=by kernel_rfl
  i4:=by kernel_rfl
  i5:=by kernel_rfl
  i9:=by kernel_rfl
  i20:=by kernel_rfl
  i21:=by kernel_rfl
  i37:=by kernel_rfl
  i46:=by kernel_rfl
  i51:=by kernel_rfl
  i53:=by kernel_rfl
  i75:=by kernel_rfl
  i76:=by kernel_rfl
  i80:=by kernel_rfl
  i85:=by kernel_rfl
  i127:=by kernel_rfl
  i143:=by kernel_rfl
  i145:=by kernel_rfl
  i167:=by kernel_rfl
  i168:=by kernel_rfl
  i171:=by kernel_rfl
  i173:=by kernel_rfl
  i175:=by kernel_rfl
  i210:=by kernel_rfl
  i212:=by kernel_rfl
  i232:=by kernel_rfl
  i233:=by kernel_rfl
  m15:=by kernel_rfl
  m16:=by kernel_rfl
  m17:=by kernel_rfl
  m18:=by kernel_rfl
  m19:=by kernel_rfl
  c0:=by kernel_rfl
  c2:=by kernel_rfl
  c3:=by kernel_rfl
  c4:=by kernel_rfl
  c5:=by kernel_rfl
  c9:=by kernel_rfl
  c20:=by kernel_rfl
  c21:=by kernel_rfl
  c37:=by kernel_rfl
  c46:=by kernel_rfl
  c51:=by kernel_rfl
  c53:=by kernel_rfl
  c75:=by kernel_rfl
  c76:=by kernel_rfl
  c80:=by kernel_rfl
  c85:=by kernel_rfl
  c127:=by kernel_rfl
  c143:=by kernel_rfl
  c145:=by kernel_rfl
  c167:=by kernel_rfl
  c168:=by kernel_rfl
  c171:=by kernel_rfl
  c173:=by kernel_rfl
  c175:=by kernel_rfl
  c210:=by kernel_rfl
  c212:=by kernel_rfl
  c213:=by kernel_rfl
  c232:=by kernel_rfl
  c233:=by kernel_rfl}
def Tryz.lays144_ren:Go.Shelf.Ren:=⟨fun|144=>32|143=>52|219=>72|217=>87|225=>88|224=>89|267=>90|266=>106|314=>107|n=>n,fun|9=>9|4=>4|3=>3|5=>5|46=>67|146=>140|51=>88|n=>n,fun|1=>0|n=>n⟩
theorem Tryz.lays144:Go.Proofs.Lays.n144 Tryz.prog Tryz.lays144_ren:={
  mixed:=by kernel_rfl
  f143:=Tryz.func52.trans (congrArg some (by kernel_rfl))
  f144:=Tryz.func32.trans (congrArg some (by kernel_rfl))
  f217:=Tryz.func87.trans (congrArg some (by kernel_rfl))
  f219:=Tryz.func72.trans (congrArg some (by kernel_rfl))
  f224:=Tryz.func89.trans (congrArg some (by kernel_rfl))
  f225:=Tryz.func88.trans (congrArg some (by kernel_rfl))
  f266:=Tryz.func106.trans (congrArg some (by kernel_rfl))
  f267:=Tryz.func90.trans (congrArg some (by kernel_rfl))
  f314:=Tryz.func107.trans (congrArg some (by kernel_rfl))
  t3:=Tryz.underlying3
  a3:=Tryz.isAgg3
  z3:=Tryz.sizeOf3
  v3:=Tryz.zeroValue3
  t4:=Tryz.underlying4
  a4:=Tryz.isAgg4
  z4:=Tryz.sizeOf4
  v4:=Tryz.zeroValue4
  t5:=Tryz.underlying5
  a5:=Tryz.isAgg5
  z5:=Tryz.sizeOf5
  v5:=Tryz.zeroValue5
  t9:=Tryz.underlying9
  a9:=Tryz.isAgg9
  z9:=Tryz.sizeOf9
  v9:=Tryz.zeroValue9
  t46:=Tryz.underlying67
  a46:=Tryz.isAgg67
  z46:=Tryz.sizeOf67
  v46:=Tryz.zeroValue67
  t51:=Tryz.underlying88
  a51:=Tryz.isAgg88
  z51:=Tryz.sizeOf88
  v51:=Tryz.zeroValue88
  t146:=Tryz.underlying140
  a146:=Tryz.isAgg140
  z146:=Tryz.sizeOf140
  v146:=Tryz.zeroValue140
  g1:=by kernel_rfl}
theorem Tryz.contains_one(s:ByteArray)(c:UInt8)(w:World):
    Calls Tryz.prog (Tryz.lays144_ren.f 144) #[.string s,.string ⟨#[c]⟩] w fun e w'=>e=.returned (.bool (decide (0≤Lib.indexByte s.data.toList c)))∧w'=w:=Any.strings_Contains_one Tryz.lays144 s c w
end Go.Proofs
namespace Go.Proofs.YtbaoeefdjpaomaaGreatDoor
open Bool renaming and_eq_true->IR,false_eq_true->Pd,false_or->Sa,not_eq_true'->Rj,not_true->SC
open Deferred renaming ofValue->Rn
open Ending renaming returned->SU
open Extern renaming find->Tb,findNext->SP
open Extern.MathBitsCarry renaming m64->Pj,pair->Ra,three->PN
open Fence renaming wide->Rq
open Lib renaming indexByte->SY
open List renaming all_eq_true->Pe,append_assoc->O2,append_nil->Ps,cons_append->PZ,drop_zero->Tz,filterMap_cons->Pf,filterMap_eq_nil_iff->Sv,getD_eq_getElem?_getD->PY,getElem?_append_right->PW,getElem?_cons_zero->PE,getElem?_eq_getElem->Pb,getElem?_eq_some_iff->O4,getElem?_map->Rz,getElem?_take->Rk,getElem?_zip_eq_some->S6,intercalate->S8,length->O9,length_append->O1,length_cons->FS,length_eq_one_iff->P2,length_map->Rp,length_nil->R1,length_replicate->Sp,length_take->PG,map_append->PS,map_congr_left->RZ,map_cons->PA,map_map->Sz,map_nil->RR,mem_append->OX,mem_cons->OY,mem_cons_of_mem->H1,mem_cons_self->Nm,mem_filter->PO,mem_filterMap->Sq,mem_iff_getElem?->TD,mem_map->O8,mem_of_getElem?->Pq,mem_singleton->OZ,nil_append->P1,not_mem_nil->UV,perm_append_comm_assoc->Sj,perm_middle->P6,range->P4,replicate->Pv
open List.Perm renaming append_left->Pw,append_right->SJ,cons->TA,refl->Su
open Nat renaming add_zero->Sl,beq->OW,ble->Tv,blt->RA,eq_of_beq_eq_true->P7,le_add_right->PV,le_of_ble_eq_true->PC,le_refl->O3,le_trans->Pz,lt_of_lt_of_le->Pc,lt_succ_self->Ru,mod_eq_of_lt->PT,pow_succ->Rh,zero_add->Pk,zero_lt_one->Tq
open Oper renaming looksAt->Pt
open Option renaming map_some->xaa
open Option.some renaming inj->P9,injEq->O6
open Prod.mk renaming injEq->Tj
open UInt8 renaming ofNat->P5,toNat->R7,toNat_ofNat'->SN
open _root_.Array renaming getD_eq_getD_getElem?->Px,getElem?_eq_some_iff->Ph,length_toList->SA,replicate->RE,toArray_toList->RB
section
section
variable{P:Program}{cf:Cf}{fr:Fr}{cx σ σ0:Sg}{vs vs':Nat->Value}{env env0:yb}{w:World}{R:Type}{r:R}
theorem Ye:∀{rg:List (Nat×Nat×Dv)}{e:Nat×Nat×Dv},e∈dd rg->e∈rg
 |a::r,e,h=>by
  rcases OY.1 h with rfl|h
  ·simp_all
  ·exact H1 _<|Ye (PO.1 h).1
theorem KJ:∀{rg:List (Nat×Nat×Dv)}{e:Nat×Nat×Dv},e∈dd rg->Y3 rg e.1 e.2.1=some e.2.2
 |(t,i,d)::r,e,h=>by
  rcases OY.1 h with rfl|h
  ·unfold Y3;simp
  ·obtain⟨h1,h2⟩:=PO.1 h;unfold Y3;simp only[Rj]at h2;rw[h2];exact KJ h1
theorem Q1:∀(ts:List Nat),qH env (ts.map fun t=>(t,env t))
 |[]=>rfl
 |t::ts=>QD rfl<|Q1 ts
theorem KK{rest:yb}:∀{ts:List Nat}{t:Nat},t∈ts->L (ts.map fun t=>(t,env t)) rest t=env t
 |s::ts,t,h=>by
  simp only[PA,L];cases hb:OW t s
  ·simp only[cond_false];rcases OY.1 h with rfl|h
   ·simp at hb
   ·exact KK h
  ·simp_all
theorem bZ:∀(l:List Oper) (al:List (Nat×Operand)) {σ:Sg},vD P fr cx σ env w->vD P fr cx (CK cf cx l al σ) env w
 |[],_,_,h=>h
 |o::r,al,σ,h=>bZ r _<|Q3 _ h
theorem fY{N:Nat}{l:List Oper}(h:(l.all fun o=>xr N o.dst)=true)(m:Nat):((l.drop m).all fun o=>xr N o.dst)=true:=by grind
theorem Xv:∀(l:List Nat) {σ:Sg},ZR P fr cx σ vs env w->ZR P fr cx (Qg σ l) vs env w
 |[],_,h=>h
 |o::r,_,h=>Xv r<|J4 h
theorem cw:∀(l:List Nat) (σ:Sg),(Qg σ l).nx=σ.nx
 |[],_=>rfl
 |o::r,σ=>by
  show(Qg (aR σ o) r).nx=_;rw[cw r];unfold aR;grind
structure Hb(i:Nat)(r r':Rb):Prop where
 a:r'.a=r.a
 o:r'.o=r.o
 x:r'.x=r.x
 c1:∀k,r.c=some k->r'.c=some k
 c2:r.c=none->∀k,r'.c=some k->i<=k
 d1:∀j∈r.rd,j∈r'.rd
 d2:∀j∈r'.rd,j∈r.rd\/i<=j
def RX(i:Nat):List Rb->List Rb->Prop
 |[],rs'=>∀r∈rs',(∃j,r.a=some j/\i<=j)/\(∀k,r.c=some k->i<=k)/\∀j∈r.rd,i<=j
 |_::_,[]=>False
 |r::rs,r'::rs'=>Hb i r r'/\RX i rs rs'
def Vy(i:Nat)(rs:List Rb):Prop:=∀r∈rs,(∀j,r.a=some j->j<i)/\(∀k,r.c=some k->k<i)/\∀j∈r.rd,j<i
theorem RX.refl(i:Nat):∀rs:List Rb,RX i rs rs
 |[]=>fun r hr=>absurd hr UV
 |r::rs=>⟨⟨rfl,rfl,rfl,fun _ h=>h,fun h k hk=>(by rw[h]at hk;cases hk),fun _ h=>h,fun _ h=> .inl h⟩,RX.refl i rs⟩
theorem fv{i:Nat}{rs':List Rb}(h:RX (i+1) [] rs'):RX i [] rs'/\WG i rs'=[]/\QG i rs'=[]/\YG i rs'=[]:=by
 refine⟨fun r hr=> ?_,?_,?_,?_⟩
 ·obtain⟨⟨j,h1,h2⟩,h3,h4⟩:=h r hr;grind
 ·refine Sv.2 fun r hr=>ir fun e=> ?_;have:=(h r hr).2.1 i e;lia
 ·refine Sv.2 fun r hr=>ir fun e=> ?_;obtain⟨j,h1,h2⟩:=(h r hr).1;grind
 ·refine Sv.2 fun r hr=>ir fun e=> ?_;have:=(h r hr).2.2 i e;lia
theorem Hb.step{i:Nat}{r r1 r':Rb}(h:Hb (i+1) r1 r')(ha:r1.a=r.a)(ho:r1.o=r.o)(hx:r1.x=r.x)(hc:∀k,r.c=some k->r1.c=some k)(hb:r.c=none->∀k,r1.c=some k->k=i)(hd:∀j∈r.rd,j∈r1.rd)(he:∀j∈r1.rd,j∈r.rd\/j=i):Hb i r r':={
 a:=h.a.trans ha
 o:=h.o.trans ho
 x:=h.x.trans hx
 c1:=fun k hk=>h.c1 k<|hc k hk
 c2:=fun hn k hk=>by
  cases h1:r1.c with
  |none=>have:=h.c2 h1 k hk;lia
  |some q=>
   have:=h.c1 q h1;simp_all
 d1:=fun j hj=>h.d1 j<|hd j hj
 d2:=fun j hj=>by
  rcases h.d2 j hj with h1|h1
  ·grind
  ·exact .inr<|by lia}
theorem KO{i:Nat}:∀{rs rs':List Rb},Vy i rs->RX (i+1) rs rs'->RX i rs rs'/\WG i rs'=[]/\QG i rs'=[]/\YG i rs'=[]
 |[],rs',_,h=>fv h
 |r::rs,[],_,h=>h.elim
 |r::rs,r'::rs',ho,⟨h1,h2⟩=>by
  obtain⟨g1,g2,g3,g4⟩:=KO (fun q hq=>ho q<|H1 _ hq) h2;obtain⟨q1,q2,q3⟩:=ho r<|Nm;have e1:r'.c≠some i:=fun e=>by
   cases hc:r.c with
   |none=>have:=h1.c2 hc i e;lia
   |some k=>have:=h1.c1 k hc;rw[e]at this;cases this;have:=q2 i hc;lia
  have e2:r'.a≠some i:=fun e=>by rw[h1.a]at e;have:=q1 i e;lia
  have e3:i∉r'.rd:=fun e=>by
   rcases h1.d2 i e with h|h
   ·grind
   ·lia
  refine⟨⟨h1.step rfl rfl rfl (fun _ h=>h) (fun hn k hk=>(by rw[hn]at hk;cases hk)) (fun _ h=>h)<|fun _ h=> .inl h,g1⟩,?_,?_,?_⟩
  ·unfold WG at g2⊢;rw[Pf,ir e1];exact g2
  ·unfold QG at g3⊢;rw[Pf,ir e2];exact g3
  ·unfold YG at g4⊢;rw[Pf,ir e3];exact g4
theorem Ad{i:Nat}{os:List Nat}:∀{rs rs':List Rb},Vy i rs->RX (i+1) (tN i os rs) rs'->RX i rs rs'/\WG i rs'=[]/\QG i rs'=[]/\∀e∈Yg os rs,e∈YG i rs'
 |[],rs',_,h=>by
  obtain⟨g1,g2,g3,_⟩:=fv h;exact⟨g1,g2,g3,fun e he=>absurd he UV⟩
 |r::rs,[],_,h=>h.elim
 |r::rs,r'::rs',ho,⟨h1,h2⟩=>by
  obtain⟨g1,g2,g3,g4⟩:=Ad (rs:=rs) (fun q hq=>ho q<|H1 _ hq) h2;obtain⟨q1,q2,q3⟩:=ho r<|Nm;obtain⟨r1,ha⟩:∃r1,r1=(match r.c,ZG os r.o with|none,true=>(⟨r.a,none,i::r.rd,r.o,r.x⟩:Rb)|_,_=>r):=⟨_,rfl⟩;have h1:Hb (i+1) r1 r':=by rw[ha];exact h1
  have k1:r1.a=r.a/\r1.o=r.o/\r1.x=r.x/\r1.c=r.c/\(∀j∈r.rd,j∈r1.rd)/\(∀j∈r1.rd,j∈r.rd\/j=i):=by
   rw[ha];split
   ·simp_all
   ·simp_all
  obtain⟨ka,ko,kx,kc,kd,kd2⟩:=k1;have e1:r'.c≠some i:=fun e=>by
   cases hc:r.c with
   |none=>have:=h1.c2 (kc.trans hc) i e;lia
   |some k=>have:=h1.c1 k<|kc.trans hc;rw[e]at this;cases this;have:=q2 i hc;lia
  have e2:r'.a≠some i:=fun e=>by rw[h1.a,ka]at e;have:=q1 i e;lia
  refine⟨⟨h1.step ka ko kx (fun k hk=>kc.trans hk) (fun hn k hk=>by rw[kc,hn]at hk;cases hk) kd kd2,g1⟩,?_,?_,?_⟩
  ·unfold WG at g2⊢;rw[Pf,ir e1];exact g2
  ·unfold QG at g3⊢;rw[Pf,ir e2];exact g3
  ·intro e he;unfold Yg at he;unfold YG at g4⊢;rw[Pf];split at he
   ·next hc hh=>
    have hi:i∈r'.rd:=h1.d1 i (by rw[ha,hc,hh];exact Nm);rw[iq hi];rcases OY.1 he with rfl|he
    ·rw[h1.o,h1.x,ko,kx];exact Nm
    ·exact H1 _<|g4 e he
   ·split
    ·exact g4 e he
    ·exact H1 _<|g4 e he
theorem rq{i:Nat}:∀{ob:List (Nat×Od)}{rs':List Rb},RX (i+1) (mb i ob) rs'->RX i [] rs'/\WG i rs'=[]/\QG i rs'=ob/\YG i rs'=[]
 |[],rs',h=>fv h
 |e::ob,[],h=>h.elim
 |e::ob,r'::rs',⟨h1,h2⟩=>by
  obtain⟨g1,g2,g3,g4⟩:=rq h2;have e1:r'.c≠some i:=fun e=>by have:=h1.c2 rfl i e;lia
  have e2:=h1.a;have e3:i∉r'.rd:=fun e=>by
   rcases h1.d2 i e with h|h
   ·cases h
   ·lia
  refine⟨fun r hr=> ?_,?_,?_,?_⟩
  ·rcases OY.1 hr with rfl|hr
   ·exact⟨⟨i,e2,O3 _⟩,fun k hk=>by have:=h1.c2 rfl k hk;lia,fun j hj=>by
     rcases h1.d2 j hj with h|h
     ·cases h
     ·lia⟩
   ·exact g1 r hr
  ·unfold WG at g2⊢;rw[Pf,ir e1];exact g2
  ·unfold QG at g3⊢;rw[Pf,iq e2,g3,h1.o,h1.x]
  ·unfold YG at g4⊢;rw[Pf,ir e3];exact g4
theorem eV{i:Nat}{os:List Nat}{ob:List (Nat×Od)}:∀{rs rs':List Rb},Vy i rs->RX (i+1) (eh i os rs++mb i ob) rs'->RX i rs rs'/\WG i rs'=Yg os rs/\QG i rs'=ob/\YG i rs'=[]
 |[],rs',_,h=>rq h
 |r::rs,[],_,h=>h.elim
 |r::rs,r'::rs',ho,⟨h1,h2⟩=>by
  obtain⟨g1,g2,g3,g4⟩:=eV (rs:=rs) (fun q hq=>ho q<|H1 _ hq) h2;obtain⟨q1,q2,q3⟩:=ho r<|Nm;obtain⟨r1,ha⟩:∃r1,r1=(match r.c,ZG os r.o with|none,true=>(⟨r.a,some i,r.rd,r.o,r.x⟩:Rb)|_,_=>r):=⟨_,rfl⟩;have h1:Hb (i+1) r1 r':=by rw[ha];exact h1
  have k1:r1.a=r.a/\r1.o=r.o/\r1.x=r.x/\r1.rd=r.rd/\(∀k,r.c=some k->r1.c=some k)/\(r.c=none->∀k,r1.c=some k->k=i):=by
   rw[ha];split
   ·simp_all
   ·exact⟨rfl,rfl,rfl,rfl,fun _ h=>h,fun hn k hk=>(by rw[hn]at hk;cases hk)⟩
  obtain⟨ka,ko,kx,kd,kc,kc2⟩:=k1;have e2:r'.a≠some i:=fun e=>by rw[h1.a,ka]at e;have:=q1 i e;lia
  have e3:i∉r'.rd:=fun e=>by
   rcases h1.d2 i e with h|h
   ·rw[kd]at h;have:=q3 i h;lia
   ·lia
  refine⟨⟨h1.step ka ko kx kc kc2 (fun j hj=>by rw[kd];exact hj) (fun j hj=>by rw[kd]at hj;exact .inl hj),g1⟩,?_,?_,?_⟩
  ·have no:r1=r->r'.c≠some i:=fun hb e=>by
    rw[hb]at h1
    cases hc:r.c with
    |none=>have:=h1.c2 hc i e;lia
    |some k=>have:=h1.c1 k hc;rw[e]at this;cases this;have:=q2 i hc;lia
   have hv:Yg os (r::rs)=(match r.c,ZG os r.o with|none,true=>(r.o,r.x)::Yg os rs|_,_=>Yg os rs):=rfl;have hd:WG i (r'::rs')=if r'.c=some i then(r'.o,r'.x)::WG i rs' else WG i rs':=by
    unfold WG;rw[Pf];split<;>next h=>split at h<;>simp_all
   rw[hd,hv,g2]
   cases hc:r.c with
   |some k=>
    rw[ir<|no<|by rw[ha,hc]]
   |none=>
    cases hh:ZG os r.o with
    |false=>rw[ir<|no<|by rw[ha,hc,hh]]
    |true=>
     have:r'.c=some i:=h1.c1 i (by rw[ha,hc,hh]);rw[iq this,h1.o,h1.x,ko,kx]
  ·unfold QG at g3⊢;rw[Pf,ir e2];exact g3
  ·unfold YG at g4⊢;rw[Pf,ir e3];exact g4
theorem ov{i:Nat}:∀{ob:List (Nat×Od)}{rs':List Rb},RX i (H4 ob) rs'->jU (fun r=>r.a.isNone) rs'=ob
 |[],rs',h=>Sv.2 fun r hr=>by
  obtain⟨⟨j,h1,_⟩,_⟩:=h r hr;simp[h1]
 |e::ob,[],h=>h.elim
 |e::ob,r'::rs',⟨h1,h2⟩=>by
  have ih:=ov h2;unfold jU at ih⊢;have:r'.a=none:=h1.a;simp only[Pf,this,Option.isNone_none,if_true];rw[ih,h1.o,h1.x]
theorem B3{i:Nat}{os:List Nat}{rs:List Rb}(h:Vy i rs):Vy (i+1) (tN i os rs):=by
 induction rs with
 |nil=>exact fun r hr=>absurd hr UV
 |cons r rs ih=>
  intro q hq;rcases OY.1 hq with rfl|hq
  ·obtain⟨q1,q2,q3⟩:=h r<|Nm;split
   ·grind
   ·grind
  ·exact ih (fun q hq=>h q<|H1 _ hq) q hq
theorem gG{i:Nat}{os:List Nat}{rs:List Rb}(h:Vy i rs):Vy (i+1) (eh i os rs):=by
 induction rs with
 |nil=>exact fun r hr=>absurd hr UV
 |cons r rs ih=>
  intro q hq;rcases OY.1 hq with rfl|hq
  ·obtain⟨q1,q2,q3⟩:=h r<|Nm;split
   ·grind
   ·grind
  ·exact ih (fun q hq=>h q<|H1 _ hq) q hq
theorem BS{i:Nat}{ob:List (Nat×Od)}{rs:List Rb}(h:Vy (i+1) rs):Vy (i+1) (rs++mb i ob):=fun q hq=>by
 rcases OX.1 hq with hq|hq
 ·exact h q hq
 ·obtain⟨e,_,rfl⟩:=O8.1 hq;simp_all
theorem nf{i:Nat}{rs:List Rb}(h:Vy i rs):Vy (i+1) rs:=fun r hr=>by
 obtain⟨q1,q2,q3⟩:=h r hr;grind
theorem IG{i n:Nat}{os:List Nat}{rs:List Rb}(h:∀r∈rs,r.o<n):∀r∈tN i os rs,r.o<n:=by
 induction rs with
 |nil=>exact fun r hr=>absurd hr UV
 |cons r rs ih=>
  intro q hq;rcases OY.1 hq with rfl|hq
  ·grind
  ·simp_all
theorem Dt{i n:Nat}{os:List Nat}{rs:List Rb}(h:∀r∈rs,r.o<n):∀r∈eh i os rs,r.o<n:=by
 induction rs with
 |nil=>exact fun r hr=>absurd hr UV
 |cons r rs ih=>
  intro q hq;rcases OY.1 hq with rfl|hq
  ·grind
  ·simp_all
theorem Aa{n:Nat}{os:List Nat}:∀{rs:List Rb},(∀r∈rs,r.o<n)->∀e∈Yg os rs,e.1<n
 |[],_,e,he=>absurd he UV
 |r::rs,h,e,he=>by
  have ih:=Aa (os:=os) fun q hq=>h q<|H1 _ hq;unfold Yg at he;split at he
  ·grind
  ·grind
theorem gP:∀(rs:List Rb),dB rs=jU (fun r=>r.c.isNone) rs
 |[]=>rfl
 |r::rs=>by
  have ih:=gP rs;unfold jU at ih⊢;unfold dB
  cases hc:r.c with
  |none=>simp only[Pf,hc,Option.isNone_none,if_true];rw[ih]
  |some k=>simp only[Pf,hc];exact ih
theorem Zy{ts:List Tmp}:∀{rg:List (Nat×Nat×Dv)}{e:Nat×Nat×Dv},e∈ZA ts rg->e∈rg/\ZG ts e.1=true
 |(t,i,v)::r,e,h=>by
  unfold ZA at h;split at h
  ·next hh=>
   rcases OY.1 h with rfl|h
   ·simp_all
   ·obtain⟨h1,h2⟩:=Zy h;exact⟨H1 _ h1,h2⟩
  ·obtain⟨h1,h2⟩:=Zy h;exact⟨H1 _ h1,h2⟩
theorem Xu{ts:List Tmp}{t i:Nat}(ht:ZG ts t=true):∀{rg:List (Nat×Nat×Dv)},Y3 (ZA ts rg) t i=Y3 rg t i
 |[]=>rfl
 |(t',i',v)::r=>by
  unfold ZA;split
  ·unfold Y3;rw[Xu ht]
  ·next hh=>
   rw[Xu ht];conv=>rhs;unfold Y3
   rw[qt<|fun e=>by rw[e,ht]at hh;cases hh];rfl
theorem gJ{t i:Nat}:∀{a b:List (Nat×Nat×Dv)},Y3 (a++b) t i=match Y3 a t i with|some d=>some d|none=>Y3 b t i
 |[],b=>rfl
 |(t',i',v)::a,b=>by
  show(bif OW t' t && OW i' i then some v else Y3 (a++b) t i)=(match(bif OW t' t && OW i' i then some v else Y3 a t i)with|some d=>some d|none=>Y3 b t i);cases hb:OW t' t && OW i' i
  ·simp only[cond_false];exact gJ
  ·rfl
theorem BP{l:List Nat}{t:Nat}(h:ZG l t=true):t∈l:=by grind [ZG,zr]
theorem WO:∀{l:List (Nat×Dv)}{e:Nat×Dv}{p:Nat},e∈l->xz e.2=some p->p∈Wx l
 |(i,v)::r,e,p,h,hp=>by
  unfold Wx;rcases OY.1 h with rfl|h
  ·simp_all
  ·have:=WO h hp;split
   ·simp_all
   ·lia
theorem oE{d:Option Tmp}{rg:List (Nat×Nat×Dv)}{e:Nat×Dv}(h:e∈Vs d rg):∃t,d=some t/\(t,e.1,e.2)∈rg:=by
 unfold Vs at h;split at h
 ·next t=>
  obtain⟨q,hq,he⟩:=Sq.1 h;split at he
  ·next hb=>
   rw[<-zr hb];grind
  ·cases he
 ·cases h
def eo(P:Program)(vs:Nat->Value)(n0:Nat)(Γ:List FF)(env0:yb)(cx σ:Sg)(KL:List (Tmp×List (Nat×Dv))):Prop:=∀vs',(∀p,p<n0->vs' p=vs p)->fQ P vs' Γ env0 cx σ (KV P vs' KL)
def gY(cx:Sg)(KL:List (Tmp×List (Nat×Dv))):Prop:=∀e∈KL,qk cx.rg e.1=true
theorem Zd{KL:List (Tmp×List (Nat×Dv))}{l:List (Nat×Dv)}{d:Option Tmp}(hd:yJ cx d=true)(h:gY cx KL):gY cx (JF d l KL):=by
 cases d with
 |none=>exact h
 |some s=>
  intro e he;rcases OY.1 he with rfl|he
  ·exact hd
  ·exact h e he
theorem Yt{n0:Nat}{Γ:List FF}{KL:List (Tmp×List (Nat×Dv))}{l:List (Nat×Dv)}{o:Oper}(hd:yJ cx o.dst=true)(h:eo P vs n0 Γ env0 cx σ KL):eo P vs n0 Γ env0 cx (σ.put o.dst l) (JF o.dst l KL):=fun vs' hv=>by
 rw[pS];exact QX hd (h vs' hv) fun S v w hv=>hv
def DF(pn:Option (Nat×PX))(i n:Nat)(pn':Option (Nat×PX)):Prop:=pn'=pn\/(pn=none/\∃i0 q,pn'=some (i0,q)/\i<=i0/\i0<i+n)
theorem DF.up{pn pn':Option (Nat×PX)}{i n:Nat}(h:DF pn (i+1) n pn'):DF pn i (n+1) pn':=by
 rcases h with h|⟨h,i0,q,h1,h2,h3⟩
 ·exact .inl h
 ·exact .inr ⟨h,i0,q,h1,by lia,by lia⟩
theorem DF.ne{pn pn':Option (Nat×PX)}{i n:Nat}(h:DF pn (i+1) n pn')(hi:∀i0 q,pn=some (i0,q)->i0<i)(q:PX):pn'≠some (i,q):=fun e=>by
 rcases h with h|⟨h,i0,q',h1,h2,h3⟩
 ·grind
 ·grind
theorem DF.of_some{pn':Option (Nat×PX)}{e:Nat×PX}{i n:Nat}(h:DF (some e) i n pn'):pn'=some e:=by
 rcases h with h|⟨h,_⟩
 ·exact h
 ·cases h
def Ga(P:Program)(all:List Oper)(we:World)(Se:Nat->Prop)(mE:List MF)(Γ:List FF)(env0:yb)(vs:Nat->Value)(n0:Nat)(pn:Option (Nat×PX))(rs:List Rb):List ((Oper×List (Nat×Dv))×Oi)->Nat->List (Tmp×List (Nat×Dv))->Prop
 |[],_,_=>True
 |((o,L),I)::r,i,KL=>(iY all (pn.map (·.1)) i=false->L3 P all.toArray we Se mE Γ env0 vs n0 rs KL i o L I)/\(∀q,pn=some (i,q)->YG i rs=[]/\Mu P all.toArray we Se mE Γ env0 vs n0 q rs KL i o)/\Ga P all we Se mE Γ env0 vs n0 pn rs r (i+1) (JF o.dst L KL)
theorem QM{P:Program}{all:List Oper}{we:World}{Se:Nat->Prop}{mE:List MF}{Γ:List FF}{env0:yb}{vs:Nat->Value}{n0:Nat}{pn:Option (Nat×PX)}{rs:List Rb}:∀(r:List (Oper×List (Nat×Dv))) (is:List Oi) (n:Nat) (KL:List (Tmp×List (Nat×Dv))) (i:Nat) (x:Oper×List (Nat×Dv)) (I:Oi),
 Ga P all we Se mE Γ env0 vs n0 pn rs (r.zip is) n KL->r[i]? =some x->is[i]? =some I->(iY all (pn.map (·.1)) (n+i)=false->L3 P all.toArray we Se mE Γ env0 vs n0 rs (uV (r.take i) KL) (n+i) x.1 x.2 I)/\∀q,pn=some (n+i,q)->YG (n+i) rs=[]/\Mu P all.toArray we Se mE Γ env0 vs n0 q rs (uV (r.take i) KL) (n+i) x.1
 |[],_,_,_,_,_,_,h,hx,_=>by simp at hx
 |_::_,[],_,_,_,_,_,_,_,h=>by simp at h
 |(o,L)::r,I0::is,n,KL,0,x,I,h,hx,hc=>by simp at hx hc;subst hx;subst hc;exact⟨h.1,h.2.1⟩
 |(o,L)::r,I0::is,n,KL,i+1,x,I,h,hx,hc=>by
  have:=QM r is (n+1) (JF o.dst L KL) i x I h.2.2 (by simpa using hx) (by simpa using hc);rw[show n+1+i=n+(i+1)by lia]at this;simpa[uV]using this
theorem W7(hT:ya P cf.tt)(hL:vd P cf.tt)(hC:∀s∈cf.cs,zQ P s)(hX:Vd P cf){all:List Oper}{fz:List Nat}{k:Option (Nat×PX)->Sg->List Rb->List Oi->Option R}{Γ:List FF}{n0:Nat}(hE:∀e∈cx.ob,e.1<n0):∀{os:List Oper}{i:Nat}{pn:Option (Nat×PX)}{σ:Sg}{rs:List Rb}{is:List Oi}{KL:List (Tmp×List (Nat×Dv))},
 bO cf cx all fz pn os i σ rs is k=some r->(∀i0 q,pn=some (i0,q)->i0<i)->eo P vs n0 Γ env0 cx σ KL->gY cx KL->σ.ob=[]->Bd cx σ->(∀r∈rs,r.o<σ.nx)->Vy i rs->n0<=σ.nx->
 ∃(pn':Option (Nat×PX)) (Ls:List (List<|Nat×Dv)) (is':List Oi) (σ':Sg) (rs':List Rb),DF pn i os.length pn'/\Ls.length=os.length/\is'.length=os.length/\k pn' σ' rs' (is++is')=some r/\RX i rs rs'/\
  Ga P all fr.we fr.Se (MS vs cx.ob++fr.F) Γ env0 vs n0 pn' rs' ((os.zip Ls).zip is') i KL/\eo P vs n0 Γ env0 cx σ' (uV (os.zip Ls) KL)/\gY cx (uV (os.zip Ls) KL)/\σ'.ob=[]/\Bd cx σ'/\(∀r∈rs',r.o<σ'.nx)/\n0<=σ'.nx
 |[],i,pn,σ,rs,is,KL,h,hG,hi,hn,ho,hB,hr,hO,h0=>⟨pn,[],[],σ,rs,.inl rfl,rfl,rfl,by rw[Ps];exact h,RX.refl _ _,trivial,hi,hn,ho,hB,hr,h0⟩
 |o::os,i,pn,σ,rs,is,KL,h,hG,hi,hn,ho,hB,hr,hO,h0=>by
  unfold bO at h;obtain⟨hd,h⟩:=zw h;have hF:∀i0 q,pn=some (i0,q)->i0<i+1:=fun i0 q e=>Nat.lt_succ_of_lt<|hG i0 q e;cases hI:Dr all pn i<;>rw[hI]at h
  case true=>
   obtain⟨i0,q0,rfl⟩:∃i0 q0,pn=some (i0,q0):=by
    cases pn with
    |none=>cases hI
    |some e=>exact⟨e.1,e.2,rfl⟩
   obtain⟨pn',Ls,is',σ',rs',hb,h1,h2,h3,h4,h5,h6,h7,h8,h9,hj,hu⟩:=W7 hT hL hC hX hE (os:=os) h hF (Yt (l:=[]) hd hi) (Zd hd hn) ho (Z8 hB fun e he=>absurd he UV) hr (nf hO) h0;obtain⟨g1,g2,g3,g4⟩:=KO hO h4;have hJ:pn'=some (i0,q0):=hb.of_some;refine⟨pn',[]::Ls,⟨σ.nx,σ.nx,[]⟩::is',σ',rs',hb.up,by simp[h1],by simp[h2],by rw[<-h3];simp,g1,⟨fun hD=> ?_,fun q hq=>absurd hq<|hb.ne hG q,h5⟩,h6,h7,h8,h9,hj,hu⟩;exfalso;rw[hJ]at hD;have hI:xD all 16 i i0=true:=hI;simp[iY,hI]at hD
  simp only[Jw]at h;obtain⟨σ1,b,h,hV,hN,h',hS,hw1⟩:=dn h hB;have hA:∀{vs' env S w},(∀p,p<n0->vs' p=vs p)->ze S Γ w->jE (KV P vs' KL) env0 env S w (Pt all.toArray o)->∀t∈Pt all.toArray o,Lk P vs' env S w cx σ t:=fun{vs' env S w} hv hΓ hh t ht=>hi vs' hv env S w hΓ t<|jk hh t ht;cases b
  ·have hi':eo P vs n0 Γ env0 cx (σ1.put o.dst [(0,.un)]) (JF o.dst [(0,.un)] KL):=Yt hd fun vs' hv env S w hΓ t ht=>hS P vs' env S w t<|hi vs' hv env S w hΓ t ht;obtain⟨pn',Ls,is',σ',rs',hb,h1,h2,h3,h4,h5,h6,h7,h8,h9,hj,hu⟩:=W7 hT hL hC hX hE (os:=os) h hF hi' (Zd hd hn) (hV.trans ho) (Z8 h' fun e he p hp=>by obtain rfl:=OZ.1 he;cases hp) (fun r hy=>by show r.o<σ1.nx;rw[hN];exact hr r hy) (nf hO) (by show n0<=σ1.nx;rw[hN];exact h0);obtain⟨g1,g2,g3,g4⟩:=KO hO h4;refine⟨pn',[(0,.un)]::Ls,⟨σ1.nx,σ1.nx,[]⟩::is',σ',rs',hb.up,by simp[h1],by simp[h2],by rw[<-h3];simp,g1,⟨fun _=>⟨(by show n0<=σ1.nx;rw[hN];exact h0),O3 _,fun e he p hp=>(by obtain rfl:=OZ.1 he;cases hp),fun e he=>(by rw[g3]at he;cases he),fun vs' hv env F G w ha=>⟨fun hw=> ?_,fun _=>⟨g2,g3,fun S w=>⟨rfl,trivial⟩⟩⟩⟩,fun q hq=>absurd hq<|hb.ne hG q,h5⟩,h6,h7,h8,h9,hj,hu⟩;exfalso;obtain⟨S,_,hΓ⟩:=ha.ex;have:=hw1 P vs' env S w fun t ht=>hA hv (ze.left hΓ.2) hΓ.1 t ht;rw[hw]at this;cases this
  ·obtain⟨σ2,h,ho2,hx2,hz,hlk2⟩:=ls h h';have hW:∀vs' env S w t,Lk P vs' env S w cx σ t->Lk P vs' env S w cx σ2 t:=fun vs' env S w t ht=>hlk2 P vs' env S w t<|hS P vs' env S w t ht;have hY:eo P vs n0 Γ env0 cx σ2 KL:=fun vs' hv env S w hΓ t ht=>hW vs' env S w t<|hi vs' hv env S w hΓ t ht;have hg:σ2.nx=σ.nx:=hx2.trans hN;have hP:∀{vs' env S w},(∀p,p<n0->vs' p=vs p)->ze S Γ w->jE (KV P vs' KL) env0 env S w (Pt all.toArray o)->zG all.toArray env o=true:=fun{vs' env S w} hv hΓ hh=>hw1 P vs' env S w fun t ht=>hA hv hΓ hh t ht;generalize hH:Pt all.toArray o=ts at h hA hP;generalize hos:ZJ ts σ2.rg=osn at h;generalize hbz:Ny fz o.dst=bz at h;cases hM:(De cf cx ⟨σ2.nx,σ2.rg,Yg osn rs⟩ bz o.dst o.op||(BW cf cx σ2 o.op).isSome)<;>rw[hM]at h
   ·simp only[Jw]at h;obtain⟨l,h,hes⟩:=nK (P:=P) (d:=o.dst) (ty:=o.type) (pos:=o.pos) (aft:=o.after) (g:=o.guard) (F:=[]) hT hL hC hX h;obtain⟨hl,h⟩:=zw h;obtain⟨pn',Ls,is',σ',rs',hb,h1,h2,h3,h4,h5,h6,h7,h8,h9,hj,hu⟩:=W7 hT hL hC hX hE (os:=os) h hF (Yt hd hY) (Zd hd hn) (ho2.trans<|hV.trans ho) (Z8 hz<|J5 hl) (IG fun r hy=>by show r.o<σ2.nx;rw[hg];exact hr r hy) (B3 hO) (by show n0<=σ2.nx;rw[hg];exact h0);obtain⟨g1,g2,g3,g4⟩:=Ad hO h4;refine⟨pn',l::Ls,⟨σ2.nx,σ2.nx,Wx l⟩::is',σ',rs',hb.up,by simp[h1],by simp[h2],by rw[<-h3];simp,g1,⟨fun _=>⟨(by show n0<=σ2.nx;rw[hg];exact h0),O3 _,fun e he p hp=>⟨J5 hl e he p hp,WO he hp⟩,fun e he=>(by rw[g3]at he;cases he),fun vs' hv env F G w ha=>⟨fun _=> ?_,fun hw=> ?_⟩⟩,fun q hq=>absurd hq<|hb.ne hG q,h5⟩,h6,h7,h8,h9,hj,hu⟩
    ·rw[g2]at ha;rw[g3];obtain⟨k1,k2,k3,S,k4,k5,k6,k7,k8⟩:=ha;have hK:MS vs' cx.ob=MS vs cx.ob:=yY fun e he=>hv _<|hE e he;refine(hes env w S vs' (k2.at k1 k5) (qo.2 fun mf hmf=> ?_) fun t ht=> ?_).mono ?_
     ·rcases OX.1 hmf with hmf|hmf
      ·obtain⟨e,he,rfl⟩:=O8.1 hmf;exact qo.1 k7 _<|OX.2 (.inl<|O8.2 ⟨e,g4 e he,rfl⟩)
      ·rw[Ps]at hmf;have hmf:mf∈MS vs' cx.ob:=hmf;rw[hK]at hmf;exact qo.1 k7 _<|OX.2 (.inr<|OX.2 (.inl<|OX.2 (.inl hmf)))
     ·have hh:jE (KV P vs' KL) env0 env S w (Pt all.toArray o):=k8.1;exact hW vs' env S w t<|hA hv (ze.left k8.2) (hH▸hh) t<|hH▸OX.2 (.inl ht)
     ·rintro v w' ⟨hx,hf⟩;refine⟨vs',fun _ _=>rfl,k1.trans hx,k2,k3,S,k4,fun k hk=>k5 k<|Pz hx.size hk,k6,z7.keep hx.to (fun m hm i hi=>hx.block i (z7.lt k7 m hm i hi) trivial) k7,ze.append (wg.2 fun f hf'=> ?_)<|ze.keep hx.to k8.2⟩;obtain⟨e,he,rfl⟩:=O8.1 hf';exact hf e he
    ·exfalso;obtain⟨S,_,hΓ⟩:=ha.ex;have hh:jE (KV P vs' KL) env0 env S w (Pt all.toArray o):=hΓ.1;have:=hP hv (ze.left hΓ.2)<|hH▸hh;rw[hw]at this;cases this
   ·simp only[Jw]at h;have hK:∀{vs2:Nat->Value},(∀p,p<n0->vs2 p=vs p)->MS vs2 cx.ob=MS vs cx.ob:=fun hv=>yY fun e he=>hv _<|hE e he
    have hU:∀{vs':Nat->Value}{env:yb}{F:List MF}{G:List FF}{w:World},(∀p,p<n0->vs' p=vs p)->St fr.we fr.Se (MS vs' (Yg osn rs)++((MS vs cx.ob++fr.F)++F)) (Kz (KV P vs' KL) env0 env (Pt all.toArray o)::(Γ++G)) w->
     ZR P ⟨fr.we,fr.Se,fr.F++F,Γ++G⟩ ⟨0,[],cx.ob⟩ ⟨σ2.nx,dd<|ZA ts<|σ2.rg++cx.rg,Yg osn rs⟩ vs' env w:=by
     intro vs' env F G w hv ha;refine⟨⟨fun e he=>Aa (fun r hy=>by rw[hg];exact hr r hy) e he,hz.o2,fun e he p hp=> ?_,fun e he=>absurd he UV⟩,?_⟩
     ·have:=(Zy<|Ye he).1;rcases OX.1 this with h|h
      ·exact hz.r1 e h p hp
      ·exact hz.r2 e h p hp
     ·show St fr.we fr.Se (MS vs' (Yg osn rs)++(MS vs' cx.ob++(fr.F++F))) (RS P vs' env (dd<|ZA ts<|σ2.rg++cx.rg)++([]++(Γ++G))) w;rw[hK hv,<-O2<|MS vs cx.ob];refine ha.weak fun S w hΓ=>ze.append (wg.2 fun f hf=> ?_) hΓ.2;obtain⟨e,he,rfl⟩:=O8.1 hf;have hh:jE (KV P vs' KL) env0 env S w (Pt all.toArray o):=hΓ.1;have htm:=(Zy<|Ye he).2;have hf2:=KJ he;rw[Xu htm,gJ]at hf2;exact hW vs' env S w e.1 (hA hv (ze.left hΓ.2) (hH▸hh) e.1<|BP htm) e.2.1 e.2.2 hf2
    rcases pE (P:=P) (cx:=⟨0,[],cx.ob⟩) (d:=o.dst) (ty:=o.type) (pos:=o.pos) (aft:=o.after) (g:=o.guard) hT hL hC hX (by cases o.dst<;>rfl) h with⟨τ,h,hle,hm⟩|⟨q,σp,h,_,hm⟩;rotate_left
    ·cases pn with
     |some e=>cases h
     |none=>
      obtain⟨pn',Ls,is',σ',rs',hb,h1,h2,h3,h4,h5,h6,h7,h8,h9,hj,hu⟩:=W7 hT hL hC hX hE (os:=os) h (fun i0 q e=>by cases e;lia) (Yt (l:=[]) hd hY) (Zd hd hn) (ho2.trans<|hV.trans ho) (Z8 hz fun e he=>absurd he UV) (Dt fun r hy=>by show r.o<σ2.nx;rw[hg];exact hr r hy) (gG hO) (by show n0<=σ2.nx;rw[hg];exact h0);have h4':RX (i+1) (eh i osn rs++mb i []) rs':=by rw[show mb i []=[]from rfl,Ps];exact h4
      obtain⟨g1,g2,g3,g4⟩:=eV hO h4';have hJ:pn'=some (i,q):=hb.of_some;refine⟨pn',[]::Ls,⟨σ2.nx,σ2.nx,[]⟩::is',σ',rs',.inr ⟨rfl,i,q,hJ,O3 _,by simp⟩,by simp[h1],by simp[h2],by rw[<-h3];simp,g1,⟨fun hD=> ?_,fun q' hq=>⟨g4,?_⟩,h5⟩,h6,h7,h8,h9,hj,hu⟩
      ·exfalso;rw[hJ]at hD;simp[iY]at hD
      ·rw[hJ]at hq;cases hq;intro vs' hv env F G w ha;rw[g2]at ha;obtain⟨S,_,hΓ⟩:=ha.ex;have hh:jE (KV P vs' KL) env0 env S w (Pt all.toArray o):=hΓ.1;refine⟨hP hv (ze.left hΓ.2)<|hH▸hh,(hm _ vs' env w<|hU hv ha).mono ?_⟩;rintro ch w' ⟨hch,_,hs⟩;refine⟨hch,?_⟩;have hs:St fr.we fr.Se ([]++(MS vs' σp.ob++(MS vs' cx.ob++(fr.F++F)))) (RS P vs' env σp.rg++([]++(Γ++G))) w':=hs;have hs:=St.dropM (A:=[]) hs;rw[hK hv,<-O2<|MS vs cx.ob]at hs;exact St.weak (show St fr.we fr.Se (MS vs cx.ob++fr.F++F) _ w' from hs) fun S w hΓ=>ze.right hΓ
    obtain⟨τ2,hτ⟩:∃τ2,τ2=If bz o.dst τ:=⟨_,rfl⟩;simp only at h;rw[<-hτ]at h;have hnx2:τ2.nx=τ.nx:=by rw[hτ];cases bz<;>first|rfl|exact cw _ _
    have hZ:∀{frm:Fr}{vs2:Nat->Value}{env w},ZR P frm ⟨0,[],cx.ob⟩ τ vs2 env w->ZR P frm ⟨0,[],cx.ob⟩ τ2 vs2 env w:=fun{frm vs2 env w} hq=>by rw[hτ];cases bz<;>first|exact hq|exact Xv _ hq
    unfold Db at h;obtain⟨hl,h⟩:=zw h;rw[IR]at hl;obtain⟨hl,hQ⟩:=hl;have hQ:∀e∈τ2.ob,e.1<τ2.nx:=fun e he=>by
     have:=Pe.1 hQ e he;have:=PC this;lia
    have hc:σ2.nx<=τ2.nx:=by rw[hnx2];exact hle
    have hi3:eo P vs n0 Γ env0 cx ⟨τ2.nx,xK σ2.rg o.dst<|Vs o.dst τ2.rg,[]⟩ (JF o.dst (Vs o.dst τ2.rg) KL):=fun vs' hv=>Yt (l:=Vs o.dst τ2.rg) hd hY vs' hv;have hB3:Bd cx ⟨τ2.nx,xK σ2.rg o.dst<|Vs o.dst τ2.rg,[]⟩:=by
     refine⟨fun e he=>absurd he UV,fun e he=>Pc (hz.o2 e he) hc,fun e he p hp=> ?_,fun e he p hp=>Pc (hz.r2 e he p hp) hc⟩;have he:e∈xK σ2.rg o.dst (Vs o.dst τ2.rg):=he;unfold xK at he;split at he
     ·rcases OX.1 he with he|he
      ·obtain⟨e',he',rfl⟩:=O8.1 he;exact J5 hl e' he' p hp
      ·exact Pc (hz.r1 e (PO.1 he).1 p hp) hc
     ·exact Pc (hz.r1 e he p hp) hc
    obtain⟨pn',Ls,is',σ',rs',hb,h1,h2,h3,h4,h5,h6,h7,h8,h9,hj,hu⟩:=W7 hT hL hC hX hE (os:=os) h hF hi3 (Zd hd hn) rfl hB3 (fun q hq=>by
     rcases OX.1 hq with hq|hq
     ·exact Pc (Dt (n:=σ2.nx) (fun r hy=>by rw[hg];exact hr r hy) q hq) hc
     ·obtain⟨e,he,rfl⟩:=O8.1 hq;exact hQ e he) (BS (gG hO)) (Pz (by rw[hg];exact h0) hc)
    obtain⟨g1,g2,g3,g4⟩:=eV hO h4;refine⟨pn',Vs o.dst τ2.rg::Ls,⟨σ2.nx,τ2.nx,Wx<|Vs o.dst τ2.rg⟩::is',σ',rs',hb.up,by simp[h1],by simp[h2],by rw[<-h3];simp,g1,⟨fun _=>⟨(by show n0<=σ2.nx;rw[hg];exact h0),hc,fun e he p hp=>⟨J5 hl e he p hp,WO he hp⟩,fun e he=>hQ e (by rw[g3]at he;exact he),fun vs' hv env F G w ha=>⟨fun _=> ?_,fun hw=> ?_⟩⟩,fun q hq=>absurd hq<|hb.ne hG q,h5⟩,h6,h7,h8,h9,hj,hu⟩
    ·rw[g2,g4,Ps]at ha;rw[g3,g4];refine(hm _ vs' env w<|hU hv ha).mono ?_;rintro v w' ⟨vs2,hv2,hrv⟩;obtain⟨_,hR⟩:=hZ hrv;refine⟨vs2,hv2,?_⟩;have hR:St fr.we fr.Se (MS vs2 τ2.ob++(MS vs2 cx.ob++(fr.F++F))) (RS P vs2 (put env o.dst v) τ2.rg++([]++(Γ++G))) w':=hR;rw[hK (vs2:=vs2)<|fun p hp=>(hv2 p<|Pc hp (by show n0<=σ2.nx;rw[hg];exact h0)).trans<|hv p hp,<-O2<|MS vs cx.ob]at hR;refine St.weak (show St fr.we fr.Se (MS vs2 τ2.ob++(MS vs' []++(MS vs cx.ob++fr.F++F))) _ w' from hR) fun S w hΓ=>ze.append (wg.2 fun f hf=> ?_)<|ze.right hΓ;obtain⟨e,he,rfl⟩:=O8.1 hf;obtain⟨t,ht,hm'⟩:=oE he;have:=kD (ze.left hΓ) hm';rw[ht,Vf]at this;exact this
    ·exfalso;obtain⟨S,_,hΓ⟩:=ha.ex;have hh:jE (KV P vs' KL) env0 env S w (Pt all.toArray o):=hΓ.1;have:=hP hv (ze.left hΓ.2)<|hH▸hh;rw[hw]at this;cases this
def N3:Option (Nat×PX)->PX
 |some e=>e.2
 |none=>(0,0)
theorem cn{o:Oper}{x:List (Nat×Dv)}{t:Tmp}:∀{L:List (Oper×List (Nat×Dv))}{K:List (Tmp×List (Nat×Dv))},(o,x)∈L->o.dst=some t->∃y,(t,y)∈uV L K
 |(o',x')::L,K,h,ht=>by
  rcases OY.1 h with h|h
  ·cases h;have:∀{L:List (Oper×List (Nat×Dv))}{K:List (Tmp×List (Nat×Dv))}{e},e∈K->e∈uV L K:=by
    intro L
    induction L with
    |nil=>exact fun h=>h
    |cons a L ih=>
     intro K e he;refine ih ?_
     cases ha:a.1.dst with
     |none=>exact he
     |some s=>exact H1 _ he
   exact⟨x,show(t,x)∈uV L (JF o.dst x K)from this<|by rw[ht];exact Nm⟩
  ·exact cn (L:=L) h ht
theorem AL{l:List Nat}{t:Nat}(h:t∈l):ZG l t=true:=by
 unfold ZG;simp_all
theorem mz{l:List Oper}{i m:Nat}(hi:i<m)(hm:m<=l.length):zt l i∈l.take m:=by
 have ha:i<l.length:=by lia
 rw[show zt l i=l[i]by simp[zt,ha]];exact Pq<|by rw[Rk,iq hi];exact Pb ha
theorem Jc:∀(rs:List Rb),JL rs=jU uq rs
 |[]=>rfl
 |r::rs=>by
  rw[Wy];unfold JL uq;rw[Jc rs];cases r.a<;>cases r.c<;>rfl
theorem Fb(hm:P.follows .mixedOrders=true)(hT:ya P cf.tt)(hL:vd P cf.tt)(hC:∀s∈cf.cs,zQ P s)(hX:Vd P cf){N:Nd}{id m:Nat}{l:List Oper}{Q:Qs}{kp:PX->Sg->Option R}{k:Sg->Option R}
 (hP:∀q σ',kp q σ'=some r->∀env' w,Y9 cx env env'->vD P fr cx σ' env' w->Q (.panic<|XU q) env' w) (hK:∀σ',k σ'=some r->∀env' w,Y9 cx env env'->vD P fr cx σ' env' w->Q .normal env' w) (hN:(l.all fun o=>xr N.n o.dst)=true) (hc:jq l m=true) (h:Ec cf cx id l m σ kp k=some r) (hR:vD P fr cx σ env w):Wp P N (.region id l.toArray true) Q env w:=by
 unfold Ec at h;simp only at h;obtain⟨hQ,vs,hD⟩:=hR;obtain⟨ha,hE⟩:=Xv (ZJ (GA cf id) σ.rg) ⟨hQ,hD⟩;generalize Qg σ (ZJ (GA cf id) σ.rg)=σ0 at h ha hE;have h':m<=l.length:=(vP hc).1
 obtain⟨pn',Ls,is,σ',rs,hS,h1,h2,h3,h4,h5,hF,hA,hob,hs,hG,hU⟩:=W7 (P:=P) (fr:=fr) (vs:=vs) (env0:=env) (Γ:=GS P vs env fr cx σ0) (n0:=σ0.nx) (KL:=[]) hT hL hC hX ha.o2 h (fun _ _ e=>by cases e)
  (fun vs' hv env' S w' hΓ t ht i dv hd=>by
   have ht:env' t=env t:=ht;rw[ht];have hg:get cx σ0 t i=some dv:=hd;have:=qZ hΓ t i dv hg;have hV:xG P vs' dv (env t) i=xG P vs dv (env t) i:=by
    unfold xG;simp only[YC (P:=P) (vs':=vs') (vs:=vs) (d:=dv) fun o ho=>hv o (by
     rcases VI hg with hm|hm
     ·exact ha.r1 _ hm o ho
     ·exact ha.r2 _ hm o ho)]
   rw[hV];exact this) (fun _ he=>absurd he UV) rfl ⟨fun _ he=>absurd he UV,ha.o2,ha.r1,ha.r2⟩ (fun q hq=>by
    obtain⟨e,he,rfl⟩:=O8.1 hq;exact ha.o1 e he) (fun q hq=>by
    obtain⟨e,he,rfl⟩:=O8.1 hq;exact⟨fun j hj=>(by cases hj),fun j hj=>(by cases hj),fun j hj=>absurd hj UV⟩) (O3 _)
 simp only[P1]at h3;obtain⟨hx,h3⟩:=zw h3;have hW:=ov h4;have hH:∀i x I,((l.take m).zip Ls)[i]? =some x->is[i]? =some I->iY l (pn'.map (·.1)) i=false->L3 P l.toArray fr.we fr.Se (MS vs cx.ob++fr.F) (GS P vs env fr cx σ0) env vs σ0.nx rs (uV (((l.take m).zip Ls).take i) []) i x.1 x.2 I:=fun i x I a b c=>by
  have:=(QM _ is 0 [] i x I h5 a b).1;rw[Pk]at this;exact this c
 have hI:∀i0 q,pn'=some (i0,q)->i0<m:=fun i0 q e=>by
  rcases hS with h|⟨_,i1,q1,g1,g2,g3⟩
  ·rw[h]at e;cases e
  ·rw[e]at g1;cases g1;rw[PG]at g3;lia
 refine Au (we:=fr.we) (Se:=fr.Se) (ms:=OS vs fr cx σ0.ob) (mE:=MS vs cx.ob++fr.F) (pn'.map (·.1)) (N3 pn') m Ls is rs (σ'.rg.map (·.1)++cx.rg.map (·.1)) vs σ0.nx hm hc (by rw[h1,PG];lia) (by rw[h2,PG];lia) hx (by rw[hW]) hN (fun i0 e=>by
  cases pn' with
  |none=>cases e
  |some e'=>cases e;exact hI _ _ rfl) hH (fun i0 x e hY=> ?_) (fun hB env1 w1 vs' hl hJ hn=> ?_) (fun hB=> ?_) w hE
 ·cases pn' with
  |none=>cases e
  |some e'=>
   obtain⟨i1,q1⟩:=e';cases e;have hi0:=hI _ _ rfl;have:=(QM _ is 0 [] i1 x (is[i1]'(by rw[h2,PG];lia)) h5 hY<|Pb _).2 q1;rw[Pk]at this;exact this rfl
 ·cases pn' with
  |none=>cases hB
  |some e'=>
   obtain⟨i1,q1⟩:=e';have hM:∀i,i<m->∀t,(zt l i).dst=some t->qk cx.rg t=true:=fun i hi t ht=>by
    have hZ:i<l.length:=by lia
    obtain⟨x,h0⟩:∃x,((l.take m).zip Ls)[i]? =some (zt l i,x):=⟨Ls[i]'(by rw[h1,PG];lia),by
     rw[S6];refine⟨?_,by simp⟩;rw[Rk,iq hi];simp[zt,hZ]⟩
    obtain⟨y,hy⟩:=cn (K:=[]) (Pq h0) ht;exact hA _ hy
   have hu:∀e0∈cx.rg,env1 e0.1=env e0.1:=fun e0 hr=>hJ e0.1 fun i hi hd=>by
    have:=hM i hi _ hd;simp only[qk,Pe]at this;have:=this e0 hr;simp at this
   have hw:∀e∈σ0.rg.filter (fun e=> !ZG (A8<|l.take m) e.1),e∈σ0.rg/\env1 e.1=env e.1:=fun e he=>by
    obtain⟨he,hb⟩:=PO.1 he;refine⟨he,hJ e.1 fun i hi hd=> ?_⟩;have:ZG (A8<|l.take m) e.1=true:=AL<|Sq.2 ⟨zt l i,mz hi (by lia),hd⟩;rw[this]at hb;cases hb
   refine hP q1 _ h3 env1 w1 hu ⟨⟨fun e he=> ?_,hs.o2,fun e he p hp=> ?_,hs.r2⟩,vs',?_⟩
   ·rw[Jc]at he;obtain⟨q,hq,he⟩:=Sq.1 he;split at he
    ·cases he;exact hG q hq
    ·cases he
   ·exact Pc (ha.r1 e (hw e he).1 p hp) hU
   ·show St fr.we fr.Se (MS vs' (JL rs)++(MS vs' cx.ob++fr.F)) (RS P vs' env1 (σ0.rg.filter<|fun e=> !ZG (A8<|l.take m) e.1)++(RS P vs' env1 cx.rg++fr.G)) w1;rw[Jc,yY (ob:=cx.ob) fun e he=>hl _<|ha.o2 e he];refine hn.weak fun S w2 hΓ=>ze.append ?_<|ze.append ?_<|ze.right<|ze.right hΓ
    ·rw[xO (vs:=vs) (env:=env) (fun e he o ho=>hl o<|ha.r1 e (hw e he).1 o ho) fun e he=>(hw e he).2];refine wg.2 fun f hf=> ?_;obtain⟨e,he,rfl⟩:=O8.1 hf;exact wg.1 (ze.left hΓ) _<|O8.2 ⟨e,(hw e he).1,rfl⟩
    ·rw[xO (vs:=vs) (env:=env) (fun e he o ho=>hl o<|ha.r2 e he o ho) fun e he=>hu e he];exact ze.left<|ze.right hΓ
 obtain rfl:pn'=none:=by cases pn' with
  |none=>rfl
  |some e=>cases hB
 simp only at h3;intro env1 w1 vs' hl hn;have hz:dB rs=jU (fun r=>r.c.isNone) rs:=gP rs;have hO:∀e∈dB rs,e.1<σ'.nx:=fun e he=>by
  rw[hz]at he;obtain⟨q,hq,he⟩:=Sq.1 he;split at he
  ·cases he;exact hG q hq
  ·cases he
 obtain⟨S1,_,h6⟩:=hn.ex;have hu:Y9 cx env env1:=fun e0 hr=>by
  have h1:=jk h6.1 e0.1<|OX.2 (.inr<|O8.2 ⟨e0,hr,rfl⟩);unfold qB at h1;have hf:(KV P vs'<|uV ((l.take m).zip Ls) []).find? (fun x=>OW x.1 e0.1)=none:=by
   rw[List.find?_eq_none];intro e he hb;obtain⟨e1,h7,rfl⟩:=O8.1 he;have:=hA e1 h7;simp only[qk,Pe]at this;have:=this e0 hr;rw[zr hb]at this;simp at this
  rw[hf]at h1;exact h1
 refine Qt (P:=P) (fr:=fr) hT hL hC hX hK hP hu (fY hN m) h3 ⟨⟨hO,hs.o2,fun e he=>hs.r1 e<|Ye he,hs.r2⟩,vs',?_⟩;show St fr.we fr.Se (MS vs' (dB rs)++(MS vs' cx.ob++fr.F)) (RS P vs' env1 (dd σ'.rg)++(RS P vs' env1 cx.rg++fr.G)) w1;rw[hz,yY (ob:=cx.ob) fun e he=>hl _<|ha.o2 e he];refine hn.weak fun S w2 hΓ=> ?_;have hk:=jk hΓ.1;have h8:∀t∈cx.rg.map (·.1),env1 t=env t:=fun t ht=>by
  have h1:=hk t<|OX.2 (.inr ht);unfold qB at h1;have hf:(KV P vs'<|uV ((l.take m).zip Ls) []).find? (fun x=>OW x.1 t)=none:=by
   rw[List.find?_eq_none];intro e he hb;obtain⟨e0,hr,rfl⟩:=O8.1 he;have:=hA e0 hr;obtain⟨e',h9,rfl⟩:=O8.1 ht;simp only[qk,Pe]at this;have:=this e' h9;rw[zr hb]at this;simp at this
  rw[hf]at h1;exact h1
 refine ze.append ?_<|ze.append ?_<|ze.right<|ze.right hΓ.2
 ·refine wg.2 fun f hf=> ?_;obtain⟨e,he,rfl⟩:=O8.1 hf;have hg:get cx σ' e.1 e.2.1=some e.2.2:=by unfold get;rw[KJ he]
  exact hF vs' hl env1 S w2 hΓ.2 e.1 (hk e.1<|OX.2 (.inl<|O8.2 ⟨e,Ye he,rfl⟩)) _ _ hg
 ·rw[xO (vs:=vs) (env:=env) (fun e he o ho=>hl o<|ha.r2 e he o ho) fun e he=>h8 e.1<|O8.2 ⟨e,he,rfl⟩];exact ze.left<|ze.right hΓ.2
theorem VZ(hm:P.follows .mixedOrders=true)(hT:ya P cf.tt)(hL:vd P cf.tt)(hC:∀s∈cf.cs,zQ P s)(hX:Vd P cf){N:Nd}{id:Nat}{l:List Oper}{draw:Bool}{Q:Qs}{kp:PX->Sg->Option R}{k:Sg->Option R}
 (hP:∀q σ',kp q σ'=some r->∀env' w,Y9 cx env env'->vD P fr cx σ' env' w->Q (.panic<|XU q) env' w) (hK:∀σ',k σ'=some r->∀env' w,Y9 cx env env'->vD P fr cx σ' env' w->Q .normal env' w) (hN:(l.all fun o=>xr N.n o.dst)=true) (h:oQ cf cx id l draw σ kp k=some r) (hR:vD P fr cx σ env w):Wp P N (.region id l.toArray draw) Q env w:=by
 unfold oQ at h;cases draw
 ·exact fun a h1 h2 h3=>wpIn_region_lit<|Qt hT hL hC hX hK hP Y9.refl hN h hR a h1 h2 h3
 ·simp only[Jw]at h;obtain⟨hc,h⟩:=zw h;generalize eZ l l.length l.length=m at hc h;cases hw:IV cf id<;>rw[hw]at h
  case true=>exact Fb hm hT hL hC hX hP hK hN hc h hR
  simp only at h;have hi:=bZ (cf:=cf) (l.take m) [] hR;generalize CK cf cx (l.take m) [] σ=σ0 at h hi;obtain⟨hB,vs,hr⟩:=hi;have hy:m<=l.length:=(vP hc).1
  obtain⟨Φs,σ',hl,hj,h,hn,hs,hu,ha⟩:=eN (P:=P) (fr:=fr) (vs:=vs) (env0:=env) (σ0:=σ0) (Γ:=GS P vs env fr cx σ0) (K:=[]) hT hL hC hX h
   (fun env' S w' hΓ t ht i dv hd=>by
    have ht:env' t=env t:=ht;rw[ht];exact qZ hΓ t i dv hd) (fun _ he=>absurd he UV) rfl hB
  refine fA (we:=fr.we) (Se:=fr.Se) (ms:=OS vs fr cx σ0.ob) (Γ:=GS P vs env fr cx σ0) m Φs (σ'.rg.map (·.1)++cx.rg.map (·.1)) hm hc (by rw[hl,PG];lia) hN hj ?_ w hr;intro S w1 env1 hS hΓ hh;have hk:=jk hh;have ho:∀t∈cx.rg.map (·.1),env1 t=env t:=fun t ht=>by
   have h1:=hk t<|OX.2 (.inr ht);unfold qB at h1;have hf:(aY ((l.take m).zip Φs) []).find? (fun x=>OW x.1 t)=none:=by
    rw[List.find?_eq_none];intro e he hb;have:=hs e he;obtain⟨e',hv,rfl⟩:=O8.1 ht;simp only[qk,Pe]at this;have:=this e' hv;rw[zr hb]at this;simp at this
   rw[hf]at h1;exact h1
  have hd:ze S (RS P vs env1<|dd σ'.rg) w1:=wg.2 fun f hf=>by
   obtain⟨e,he,rfl⟩:=O8.1 hf;have hg:get cx σ' e.1 e.2.1=some e.2.2:=by unfold get;rw[KJ he]
   exact hn env1 S w1 hΓ e.1 (hk e.1<|OX.2 (.inl<|O8.2 ⟨e,Ye he,rfl⟩)) _ _ hg
  have hx:ze S (RS P vs env1 cx.rg) w1:=by
   rw[xO (env:=env) (fun _ _ _ _=>rfl) fun e he=>ho e.1<|O8.2 ⟨e,he,rfl⟩];exact ze.left<|ze.right hΓ
  refine⟨GS P vs env1 fr cx ⟨σ'.nx,dd σ'.rg,σ'.ob⟩,(σ'.rg.map (·.1)++cx.rg.map (·.1)).map fun t=>(t,env1 t),ze.append hd<|ze.append hx<|ze.right<|ze.right hΓ,Q1 _,fun rest w2 hp=> ?_⟩;refine Qt (P:=P) (fr:=fr) hT hL hC hX hK hP (fun e0 hq=>(KK<|OX.2 (.inr<|O8.2 ⟨e0,hq,rfl⟩)).trans<|ho e0.1<|O8.2 ⟨e0,hq,rfl⟩) (fY hN m) h ⟨⟨ha.o1,ha.o2,fun e he=>ha.r1 e<|Ye he,ha.r2⟩,vs,?_⟩;have e1:RS P vs (L ((σ'.rg.map (·.1)++cx.rg.map (·.1)).map fun t=>(t,env1 t)) rest) (dd σ'.rg)=RS P vs env1 (dd σ'.rg):=xO (fun _ _ _ _=>rfl) fun e he=>KK<|OX.2 (.inl<|O8.2 ⟨e,Ye he,rfl⟩);have e2:RS P vs (L ((σ'.rg.map (·.1)++cx.rg.map (·.1)).map fun t=>(t,env1 t)) rest) cx.rg=RS P vs env1 cx.rg:=xO (fun _ _ _ _=>rfl) fun e he=>KK<|OX.2 (.inr<|O8.2 ⟨e,he,rfl⟩);show St _ _ (OS vs fr cx σ'.ob) (RS P vs _ (dd σ'.rg)++(RS P vs _ cx.rg++fr.G)) w2;rw[e1,e2,hu];exact hp
end
end
section
section
variable{P:Program}{cf:Cf}{fr:Fr}{cx kp σ:Sg}{vs vs':Nat->Value}{env env0:yb}{w:World}{R:Type}{r:R}
def GY(u:Value)(r:Nat):Option Value:=(yL u)[r]?
def Hj:(f:TF)->f.D->(Nat->Value)->Value->Value->FF
 |.d t,x,_,_,v=>fV t.rep x v
 |.q t,x,_,_,v=>fP t.rep x v
 |.own _ _,_,_,u,v=>Zn<|v=u
 |.var _ _,_,_,u,v=>Zn (v=u/\∃b,v=.pointer (some ⟨b,0,none⟩))
 |.mat _ _ _,_,_,u,v=>Zn<|v=zN u
 |.matv _ _ _,x,_,u,v=>Zn<|lH (zN u) x.2.1 x.2.2 v
 |.row j,r,U,_,v=>Zn<|GY (U j) r=some v
 |.view j,r,U,_,v=>Zn<|lH (zN<|U j) r.1 r.2 v
 |.bo _ _ _,_,_,u,v=>Zn<|v=zN u
 |.vr _ _ _ _ _ _,_,_,u,v=>Zn<|v=zN u
def gU:(f:TF)->f.D->Value->List MF
 |.own t E,xs,u=>[mO t.rep E u xs]
 |.var t E,z,u=>[mP t.rep.c E u z]
 |.mat t E E1,x,u=>[Js t.rep E E1 u x.1 x.2]
 |.matv t E E1,x,u=>[Js t.rep E E1 u x.1.1 x.1.2]
 |.bo t E E0,xs,u=>[NZ t.rep E E0 u xs]
 |.vr t E s E1 n i,x,u=>[MN (mx s<|yq n t i) t.rep E (qv<|yq n t i) (vn s (yq n t i) []) s.rep E1 u x.1 x.2]
 |_,_,_=>[]
def L4(U:Nat->Value)(env:yb):(l:List (Nat×TF))->kq l->Nat->List FF
 |[],_,_=>[]
 |[a],x,i=>[Hj a.2 x U (U i)<|env a.1]
 |a::b::r,x,i=>Hj a.2 x.1 U (U i) (env a.1)::L4 U env (b::r) x.2 (i+1)
def jM(U:Nat->Value):(l:List (Nat×TF))->kq l->Nat->List MF
 |[],_,_=>[]
 |[a],x,i=>gU a.2 x<|U i
 |a::b::r,x,i=>gU a.2 x.1 (U i)++jM U (b::r) x.2 (i+1)
def qT(f:TF)(dv:Option Dv)(vs:Nat->Value)(v:Value):Value:=match f,dv with
 |.mat _ _ _,some .nil=>Zr v []
 |.mat _ _ _,some (.mw o)=>vs o
 |.matv _ _ _,some (.mv o _ _)=>vs o
 |.bo _ _ _,some (.mw o)=>vs o
 |.vr _ _ _ _ _ _,some (.mw o)=>vs o
 |_,_=>v
def uD(cx σ:Sg)(ds:List (Nat×TF))(vs:Nat->Value)(env:yb)(j:Nat):Value:=match ds[j]? with
 |some (t,f)=>qT f (get cx σ t 0) vs<|env t
 |none=>undef
theorem Uj:∀{os l:List Nat},Qc os l=true->∀o∈l,ZG os o=false
 |os,o::r,h,p,hp=>by
  simp only[Qc,IR,Rj]at h;rcases OY.1 hp with rfl|hp
  ·exact h.1
  ·exact Uj h.2 p hp
theorem U2{ds:List (Nat×TF)}{t:Nat}{f:TF}{k:f.D->List Nat->Option R}(h:Yf cx σ ds t f k=some r):∃x os,k x os=some r/\(∀j,Q6 f=some j->j<ds.length)/\
 (∀(P:Program) vs env S w,(∀t,Lk P vs env S w cx σ t)->(Hj f x (uD cx σ ds vs env) (qT f (get cx σ t 0) vs<|env t)<|env t).p S w)/\
 (∀(P:Program) vs (fr:Fr) env (A:List MF) (Γ:List FF) w (os':List Nat),(∀S w,ze S Γ w->Lk P vs env S w cx σ t)->(∀o∈os,ZG os' o=false)->St fr.we fr.Se (A++OS vs fr cx (xu σ.ob os')) Γ w->
  St fr.we fr.Se (gU f x (qT f (get cx σ t 0) vs<|env t)++(A++OS vs fr cx (xu σ.ob<|os++os'))) Γ w):=by
 have nr:∀{f:TF},(∀j,Q6 f≠some j)->∀j,Q6 f=some j->j<ds.length:=fun h j e=>absurd e<|h j
 cases f with
 |d s=>
  obtain⟨y,h,hy⟩:=rS h;refine⟨y,[],h,nr (fun j e=>by cases e),fun P vs env S w hl=> ?_,fun P vs fr env A Γ w os' _ _ h=>h⟩
  cases hg:get cx σ t 0 with
  |none=>rename_i h0;simp only[Yf]at h0;rw[hg]at h0;cases h0
  |some v=>exact hy P vs S w v _ hg<|hl t 0 v hg
 |q s=>
  simp only[Yf]at h;split at h
  ·next s' x hg=>
   obtain⟨e,h⟩:=zx h;subst e;exact⟨_,[],h,nr (fun j e=>by cases e),fun P vs env S w hl=>hl t 0 _ hg,fun P vs fr env A Γ w os' _ _ h=>h⟩
  ·cases h
 |own s E=>
  simp only[Yf]at h;split at h
  ·next o hg=>
   split at h
   ·next s' E' xs ho=>
    obtain⟨hE,h1⟩:=zw h;have hE:=zr hE;subst hE;obtain⟨e,h2⟩:=zx h1;cases e;refine⟨_,[o],h2,nr (fun j e=>by cases e),fun _ _ _ _ _ _=>by simp only[hg,qT];exact rfl,fun P vs fr env A Γ w os' hl hn ha=> ?_⟩;have hp:=xo (vs:=vs) (fr:=fr) (cx:=cx)<|(wi<|hn o<|Nm).trans ho;have h3:=St.mid<|St.perm ha<|Pw _ hp;obtain⟨S,_,hΓ⟩:=ha.ex;have hv:env t=vs o:=hl S w hΓ 0 _ hg;simp only[hg,qT];show St _ _ (mO s.rep E (env t) _::(A++_)) _ _;rw[hv];exact h3
   ·cases h
  ·next hg=>
   refine⟨_,[],h,nr (fun j e=>by cases e),fun _ _ _ _ _ _=>by simp only[hg,qT];exact rfl,fun P vs fr env A Γ w os' hl hn ha=> ?_⟩;obtain⟨S,_,hΓ⟩:=ha.ex;have hv:env t=.slice none 0 0:=hl S w hΓ 0 _ hg;simp only[hg,qT];show St _ _ (mO s.rep E (env t) _::(A++_)) _ _;rw[hv];exact ha.nilO
  ·cases h
 |var s E=>
  simp only[Yf]at h;split at h
  ·next o s0 hg=>
   split at h
   ·next s' E' z ho=>
    obtain⟨hE,h1⟩:=zw h;have hE:=zr hE;subst hE;obtain⟨e,h2⟩:=zx h1;subst e;refine⟨_,[o],h2,nr (fun j e=>by cases e),fun P vs env S w hl=> ?_,fun P vs fr env A Γ w os' hl hn ha=> ?_⟩
    ·obtain⟨h3,b,h4⟩:=hl t 0 _ hg;simp only[hg,qT];exact⟨rfl,b,h3.trans h4⟩
    ·have hp:=xo (vs:=vs) (fr:=fr) (cx:=cx)<|(wi<|hn o<|Nm).trans ho;have h3:=St.mid<|St.perm ha<|Pw _ hp;obtain⟨S,_,hΓ⟩:=ha.ex;have hv:env t=vs o:=(hl S w hΓ 0 _ hg).1;simp only[hg,qT];show St _ _ (mP s'.rep.c E (env t) _::(A++_)) _ _;rw[hv];exact h3
   ·cases h
  ·cases h
 |mat s E E1=>
  simp only[Yf]at h;split at h
  ·next o hg=>
   split at h
   ·next s' E' F' xss ix ho=>
    obtain⟨hE,h1⟩:=zw h;rw[IR]at hE;have hc:=zr hE.1;have hd:=zr hE.2;subst hc;subst hd;obtain⟨e,h2⟩:=zx h1;cases e;refine⟨_,[o],h2,nr (fun j e=>by cases e),fun P vs env S w hl=> ?_,fun P vs fr env A Γ w os' hl hn ha=> ?_⟩
    ·simp only[hg,qT];exact hl t 0 _ hg
    ·have hp:=xo (vs:=vs) (fr:=fr) (cx:=cx)<|(wi<|hn o<|Nm).trans ho;simp only[hg,qT];have h3:=St.mid<|St.perm ha<|Pw _ hp;exact h3
   ·cases h
  ·next hg=>
   refine⟨_,[],h,nr (fun j e=>by cases e),fun P vs env S w hl=>by simp only[hg,qT];exact rfl,fun P vs fr env A Γ w os' hl hn ha=> ?_⟩;obtain⟨S,_,hΓ⟩:=ha.ex;have hv:env t=.slice none 0 0:=hl S w hΓ 0 _ hg;simp only[hg,qT];refine bR (u:=Zr (env t) []) rfl ?_;show St _ _ (mO (qs []) E (env t) []::(A++_)) _ _;rw[hv];exact ha.nilO
  ·cases h
 |matv s E E1=>
  simp only[Yf]at h;split at h
  ·next o lo n hg=>
   split at h
   ·next s' E' F' xss ix ho=>
    obtain⟨hE,h1⟩:=zw h;rw[IR]at hE;have hc:=zr hE.1;have hd:=zr hE.2;subst hc;subst hd;obtain⟨e,h2⟩:=zx h1;cases e;refine⟨_,[o],h2,nr (fun j e=>by cases e),fun P vs env S w hl=> ?_,fun P vs fr env A Γ w os' hl hn ha=> ?_⟩
    ·simp only[hg,qT];exact hl t 0 _ hg
    ·have hp:=xo (vs:=vs) (fr:=fr) (cx:=cx)<|(wi<|hn o<|Nm).trans ho;simp only[hg,qT];have h3:=St.mid<|St.perm ha<|Pw _ hp;exact h3
   ·cases h
  ·cases h
 |row j=>
  simp only[Yf]at h
  have fin:∀(o o' p:Nat),j<ds.length->get cx σ t 0=some (.rw o p)->OW o o'=true->k p []=some r->(∀vs env,uD cx σ ds vs env j=vs o')->∃(x:Nat) (os:List Nat),k x os=some r/\(∀i,Q6 (TF.row j)=some i->i<ds.length)/\
   (∀(P:Program) vs env S w,(∀t,Lk P vs env S w cx σ t)->(Hj (.row j) x (uD cx σ ds vs env) (qT (.row j) (get cx σ t 0) vs<|env t)<|env t).p S w)/\
   (∀(P:Program) vs (fr:Fr) env (A:List MF) (Γ:List FF) w (os':List Nat),(∀S w,ze S Γ w->Lk P vs env S w cx σ t)->(∀o∈os,ZG os' o=false)->St fr.we fr.Se (A++OS vs fr cx (xu σ.ob os')) Γ w->
    St fr.we fr.Se (gU (.row j) x (qT (.row j) (get cx σ t 0) vs<|env t)++(A++OS vs fr cx (xu σ.ob<|os++os'))) Γ w):=by
   intro o o' p he hg h2 h3 h4;refine⟨p,[],h3,fun i e=>by cases e;exact he,fun P vs env S w hl=> ?_,fun P vs fr env A Γ w os' _ _ h=>h⟩;have h5:(yL<|vs o)[p]? =some (env t):=hl t 0 _ hg;rw[zr h2]at h5;show GY (uD cx σ ds vs env j) p=some (env t);rw[h4];exact h5
  split at h
  ·next o p s _ _ _ hg hj=>
   split at h
   ·next o' hs=>
    obtain⟨hb,h⟩:=zw h;exact fin o o' p (O4.1 hj).1 hg hb h fun vs env=>by unfold uD;rw[hj];simp only[hs,qT]
   ·cases h
  ·next o p s _ _ _ hg hj=>
   split at h
   ·next o' lo n hs=>
    obtain⟨hb,h⟩:=zw h;exact fin o o' p (O4.1 hj).1 hg hb h fun vs env=>by unfold uD;rw[hj];simp only[hs,qT]
   ·cases h
  ·cases h
 |view j=>
  simp only[Yf]at h
  have fin:∀(o o' p q:Nat),j<ds.length->get cx σ t 0=some (.mv o p q)->OW o o'=true->k (p,q) []=some r->(∀vs env,uD cx σ ds vs env j=vs o')->∃(x:Nat×Nat) (os:List Nat),k x os=some r/\(∀i,Q6 (TF.view j)=some i->i<ds.length)/\
   (∀(P:Program) vs env S w,(∀t,Lk P vs env S w cx σ t)->(Hj (.view j) x (uD cx σ ds vs env) (qT (.view j) (get cx σ t 0) vs<|env t)<|env t).p S w)/\
   (∀(P:Program) vs (fr:Fr) env (A:List MF) (Γ:List FF) w (os':List Nat),(∀S w,ze S Γ w->Lk P vs env S w cx σ t)->(∀o∈os,ZG os' o=false)->St fr.we fr.Se (A++OS vs fr cx (xu σ.ob os')) Γ w->
    St fr.we fr.Se (gU (.view j) x (qT (.view j) (get cx σ t 0) vs<|env t)++(A++OS vs fr cx (xu σ.ob<|os++os'))) Γ w):=by
   intro o o' p q he hg h2 h3 h4;refine⟨(p,q),[],h3,fun i e=>by cases e;exact he,fun P vs env S w hl=> ?_,fun P vs fr env A Γ w os' _ _ h=>h⟩;have h5:lH (zN<|vs o) p q (env t):=hl t 0 _ hg;rw[zr h2]at h5;show lH (zN<|uD cx σ ds vs env j) p q (env t);rw[h4];exact h5
  split at h
  ·next o p q s _ _ _ hg hj=>
   split at h
   ·next o' hs=>
    obtain⟨hb,h⟩:=zw h;exact fin o o' p q (O4.1 hj).1 hg hb h fun vs env=>by unfold uD;rw[hj];simp only[hs,qT]
   ·cases h
  ·next o p q s _ _ _ hg hj=>
   split at h
   ·next o' lo n hs=>
    obtain⟨hb,h⟩:=zw h;exact fin o o' p q (O4.1 hj).1 hg hb h fun vs env=>by unfold uD;rw[hj];simp only[hs,qT]
   ·cases h
  ·cases h
 |bo s E E0=>
  simp only[Yf]at h;split at h
  ·next o hg=>
   split at h
   ·next s' E' F' xs ho=>
    obtain⟨hE,h1⟩:=zw h;rw[IR]at hE;have hc:=zr hE.1;have hd:=zr hE.2;subst hc;subst hd;obtain⟨e,h2⟩:=zx h1;cases e;refine⟨_,[o],h2,nr (fun j e=>by cases e),fun P vs env S w hl=> ?_,fun P vs fr env A Γ w os' hl hn ha=> ?_⟩
    ·simp only[hg,qT];exact hl t 0 _ hg
    ·have hp:=xo (vs:=vs) (fr:=fr) (cx:=cx)<|(wi<|hn o<|Nm).trans ho;simp only[hg,qT];have h3:=St.mid<|St.perm ha<|Pw _ hp;exact h3
   ·cases h
  ·cases h
 |vr s E s2 E1 n i=>
  simp only[Yf]at h;split at h
  ·next o hg=>
   split at h
   ·next s' E' s2' F' n' i' z xs ho=>
    obtain⟨hE,h1⟩:=zw h;rw[IR,IR,IR]at hE;obtain⟨e1,h2⟩:=zx h1;obtain⟨e2,h3⟩:=zx h2;have hc:=zr hE.1;have hd:=zr hE.2.1;have hf:=zr hE.2.2.1;have hi:=zr hE.2.2.2;subst hc;subst hd;subst hf;subst hi;subst e1;cases e2;refine⟨_,[o],h3,nr (fun j e=>by cases e),fun P vs env S w hl=> ?_,fun P vs fr env A Γ w os' hl hn ha=> ?_⟩
    ·simp only[hg,qT];exact hl t 0 _ hg
    ·have hp:=xo (vs:=vs) (fr:=fr) (cx:=cx)<|(wi<|hn o<|Nm).trans ho;simp only[hg,qT];have h3:=St.mid<|St.perm ha<|Pw _ hp;exact h3
   ·cases h
  ·cases h
theorem VK{ds:List (Nat×TF)}{i:Nat}{t:Nat}{f:TF}{env:yb}(h:ds[i]? =some (t,f)):uD cx σ ds vs env i=qT f (get cx σ t 0) vs (env t):=by unfold uD;rw[h]
theorem CZ{ds:List (Nat×TF)}:∀{l:List (Nat×TF)}{i:Nat}{k:kq l->List Nat->Option R},(∀j a,l[j]? =some a->ds[i+j]? =some a)->MQ cx σ ds l k=some r->∃x os,k x os=some r/\(∀a∈l,∀j,Q6 a.2=some j->j<ds.length)/\
 (∀(P:Program) vs env S w,(∀t,Lk P vs env S w cx σ t)->ze S (L4 (uD cx σ ds vs env) env l x i) w)/\
 (∀(P:Program) vs (fr:Fr) env (Γ:List FF) w,(∀S w,ze S Γ w->∀t,Lk P vs env S w cx σ t)->St fr.we fr.Se (OS vs fr cx σ.ob) Γ w->St fr.we fr.Se (jM (uD cx σ ds vs env) l x i++OS vs fr cx (xu σ.ob os)) Γ w)
 |[],i,k,_,h=>⟨(),[],h,fun _ h=>absurd h UV,fun _ _ _ _ _ _=>trivial,fun _ _ _ _ _ _ _ h=>h⟩
 |[a],i,k,hd,h=>by
  obtain⟨x,os,h1,h0,h2,h3⟩:=U2 (h:Yf cx σ ds a.1 a.2 k=some r);have ha:ds[i]? =some (a.1,a.2):=hd 0 a rfl;refine⟨x,os,h1,fun b hb j e=> ?_,fun P vs env S w hl=>⟨?_,trivial⟩,fun P vs fr env Γ w hl he=> ?_⟩
  ·simp_all
  ·rw[VK ha];exact h2 P vs env S w hl
  ·have:=h3 P vs fr env [] Γ w [] (fun S w hΓ=>hl S w hΓ a.1) (fun _ _=>rfl) he;rw[Ps]at this;show St _ _ (gU a.2 x (uD cx σ ds vs env i)++_) _ _;rw[VK ha];exact this
 |a::b::l,i,k,hd,h=>by
  obtain⟨x,o,h1,h0,h2,h3⟩:=U2 (h:Yf cx σ ds a.1 a.2 _=some r);obtain⟨y,os,h4,hf,h5,h6⟩:=CZ (l:=b::l) (i:=i+1) (fun j c hj=>by
   have:=hd (j+1) c (by simpa using hj);rw[show i+1+j=i+(j+1)by lia];exact this) h1
  obtain⟨hn,h4⟩:=zw h4;have ha:ds[i]? =some (a.1,a.2):=hd 0 a rfl;refine⟨(x,y),o++os,h4,fun c hc j e=> ?_,fun P vs env S w hl=>⟨?_,h5 P vs env S w hl⟩,fun P vs fr env Γ w hl he=> ?_⟩
  ·rcases OY.1 hc with rfl|hc
   ·exact h0 j e
   ·exact hf c hc j e
  ·rw[VK ha];exact h2 P vs env S w hl
  ·have:=h3 P vs fr env (jM (uD cx σ ds vs env) (b::l) y<|i+1) Γ w os (fun S w hΓ=>hl S w hΓ a.1) (Uj hn)<|h6 P vs fr env Γ w hl he;show St _ _ ((gU a.2 x (uD cx σ ds vs env i)++jM (uD cx σ ds vs env) (b::l) y (i+1))++_) _ _;rw[VK ha,O2];exact this
def Dc(vs:Nat->Value)(U:Nat->Value)(n:Nat):Nat->Value:=fun k=>if k<n then vs k else U (k-n)
theorem fH{n0:Nat}:∀{l:List (Nat×TF)}{x:kq l}{o:Nat},∀e∈(Y5 n0 l x o).2,o<=e.1/\e.1<o+l.length
 |[],_,_,e,he=>absurd he UV
 |[(t,f)],x,o,e,he=>by
  cases f<;>simp only[Y5]at he<;>first|exact absurd he UV|(obtain rfl:=OZ.1 he;exact⟨O3 _,Ru _⟩)
 |(t,f)::b::l,x,o,e,he=>by
  have ih:∀e∈(Y5 n0 (b::l) x.2<|o+1).2,o<=e.1/\e.1<o+((t,f)::b::l).length:=fun e he=>by
   have:=fH e he;grind
  cases f<;>simp only[Y5]at he<;>first
   |exact ih e he
   |exact(OY.1 he).elim (fun he=>by subst he;exact⟨O3 _,by simp only[FS];lia⟩)<|fun he=>ih e he
theorem dk{n0 o p n:Nat}{f:TF}{x:f.D}(hn:∀j,Q6 f=some j->j<n)(h:xz (Jy n0 o f x).1=some p):p=o\/p<n0+n:=by
 cases f<;>simp only[Jy,xz,O6,reduceCtorEq]at h
 ·lia
 ·lia
 ·lia
 ·lia
 ·next j=>have:=hn j rfl;exact .inr<|by lia
 ·next j=>have:=hn j rfl;exact .inr<|by lia
 ·lia
 ·lia
theorem KT{n0 n:Nat}:∀{l:List (Nat×TF)}{x:kq l}{o:Nat},(∀a∈l,∀j,Q6 a.2=some j->j<n)->∀e∈(Y5 n0 l x o).1,∀p,xz e.2.2=some p->p<o+l.length\/p<n0+n
 |[],_,_,_,e,he=>absurd he UV
 |[(t,f)],x,o,hn,e,he=>by
  intro p hp;obtain rfl:=OZ.1 (show e∈[(t,0,(Jy n0 o f x).1)]from he);rcases dk (hn _<|Nm) hp with rfl|h
  ·simp_all
  ·lia
 |(t,f)::b::l,x,o,hn,e,he=>by
  intro p hp;have he:e=(t,0,(Jy n0 o f x.1).1)\/e∈(Y5 n0 (b::l) x.2<|o+1).1:=OY.1 he;rcases he with rfl|he
  ·rcases dk (hn _<|Nm) hp with rfl|h
   ·simp_all
   ·lia
  ·rcases KT (fun a ha=>hn a<|H1 _ ha) e he p hp with h|h
   ·simp only[FS]at h⊢;exact .inl<|by lia
   ·exact .inr h
theorem KU{U:Nat->Value}{n0:Nat}:∀{l:List (Nat×TF)}{x:kq l}{o i:Nat},(∀j,j<l.length->vs (o+j)=U (i+j))->MS vs (Y5 n0 l x o).2=jM U l x i
 |[],_,_,_,_=>rfl
 |[(t,f)],x,o,i,h=>by
  have h0:vs o=U i:=h 0 (by simp);cases f<;>simp only[Y5,Jy,MS,PA,RR,uk,jM,gU,h0]<;>rfl
 |(t,f)::b::l,x,o,i,h=>by
  have h0:vs o=U i:=h 0 (by simp);have ih:MS vs (Y5 n0 (b::l) x.2<|o+1).2=jM U (b::l) x.2 (i+1):=KU fun j hj=>by
   have:=h (j+1) (by simpa using hj);grind
  unfold MS at ih;cases f<;>simp only[Y5,Jy,MS,PA,uk,jM,h0,ih]<;>rfl
theorem JZ{U:Nat->Value}{n0 n:Nat}{f:TF}{x:f.D}{o t:Nat}{u:Value}{S:Nat->Prop}(hv:vs o=u)(hn:∀j,Q6 f=some j->j<n)(hU:∀j,j<n->vs (n0+j)=U j)(h:(Hj f x U u<|env t).p S w):(xG P vs (Jy n0 o f x).1 (env t) 0).p S w:=by
 subst hv;cases f
 ·exact h
 ·exact h
 ·exact h
 ·obtain⟨h1,b,h2⟩:=h;exact⟨h1,b,h1.symm.trans h2⟩
 ·exact h
 ·exact h
 ·next j=>
  show GY (vs<|n0+j) x=some (env t);rw[hU j<|hn j rfl];exact h
 ·next j=>
  show lH (zN<|vs<|n0+j) x.1 x.2 (env t);rw[hU j<|hn j rfl];exact h
 ·exact h
 ·exact h
theorem eb{U:Nat->Value}{n0 n:Nat}(hU:∀j,j<n->vs (n0+j)=U j):∀{l:List (Nat×TF)}{x:kq l}{o i:Nat}{S:Nat->Prop},(∀a∈l,∀j,Q6 a.2=some j->j<n)->(∀j,j<l.length->vs (o+j)=U (i+j))->ze S (L4 U env l x i) w->ze S (RS P vs env (Y5 n0 l x o).1) w
 |[],_,_,_,_,_,_,_=>trivial
 |[(t,f)],x,o,i,S,hn,h,hf=>⟨JZ (h 0<|by simp) (hn _<|Nm) hU hf.1,trivial⟩
 |(t,f)::b::l,x,o,i,S,hn,h,hf=>⟨JZ (h 0<|by simp) (hn _<|Nm) hU hf.1,eb hU (fun a ha=>hn a<|H1 _ ha) (fun j hj=>by
  have:=h (j+1) (by simpa using hj);rw[show o+1+j=o+(j+1)by lia,show i+1+j=i+(j+1)by lia];exact this) hf.2⟩
theorem nH:∀{ns:List (Nat×NF)},B8 cx σ ns=true->∀t f,(t,f)∈ns->(match f,get cx σ t 0 with
 |.kb b,some (.kb c)=>b==c
 |.nil,some .nil=>true
 |.ci x,some (.d .i y)=>HF x y
 |.cu x,some (.d .u y)=>MY x y
 |.al s,some (.ow o)=>(match get cx σ s 0 with
  |some (.ow o')=>OW o o'
  |_=>false)
 |.al s,some (.vs o _)=>(match get cx σ s 0 with
  |some (.vs o' _)=>OW o o'
  |_=>false)
 |.al s,some (.mw o)=>(match get cx σ s 0 with
  |some (.mw o')=>OW o o'
  |_=>false)
 |.bm s f,some (.bm f' o _)=>(match get cx σ s 0 with
  |some (.vs o' _)=>OW o o' && OW f f'
  |_=>false)
 |_,_=>false)=true
 |(t',f')::r,h,t,f,hm=>by
  unfold B8 at h;rw[IR]at h;rcases OY.1 hm with ha|hm
  ·grind
  ·exact nH h.2 t f hm
theorem gH{rg:List (Nat×Nat×Dv)}{S:Nat->Prop}(hr:ze S (RS P vs env rg) w):∀{ns:List (Nat×NF)},(∀t f,(t,f)∈ns->match f with
 |.kb b=>env t=.bool b
 |.nil=>env t=.slice none 0 0
 |.ci x=>(fV eI x<|env t).p S w
 |.cu x=>(fV eU x<|env t).p S w
 |.al s=>env t=env s
 |.bm s f=>env t=.func (.func f) #[env s] #[])->ze S (RS P vs env (UB rg ns)) w
 |[],_=>hr
 |(t,f)::r,h=>by
  have ih:=gH hr (ns:=r) fun t f hm=>h t f<|H1 _ hm;have h0:=h t f<|Nm;unfold UB;show ze S (RS P vs env<|_++_) w;rw[show RS P vs env (_++UB rg r)=RS P vs env _++RS P vs env (UB rg r)from PS];refine ze.append ?_ ih;cases f
  ·exact⟨h0,trivial⟩
  ·exact⟨h0,trivial⟩
  ·exact⟨h0,trivial⟩
  ·exact⟨h0,trivial⟩
  ·next s=>
   simp only;split
   ·next v hv=>
    have:=kD hr<|YK hv;have h0:env t=env s:=h0;refine⟨?_,trivial⟩;simp_all
   ·trivial
  ·next s f=>
   simp only;split
   ·next o q hv=>
    obtain⟨h1,h2⟩:=kD hr<|YK hv;have h0:env t=.func (.func f) #[env s] #[]:=h0;exact⟨⟨by rw[h0,h1],h2⟩,trivial⟩
   ·trivial
theorem bF{rg:List (Nat×Nat×Dv)}{n:Nat}(hr:∀e∈rg,∀p,xz e.2.2=some p->p<n):∀{ns:List (Nat×NF)},∀e∈UB rg ns,∀p,xz e.2.2=some p->p<n
 |[],e,he=>hr e he
 |(t,f)::r,e,he=>by
  intro p hp;unfold UB at he;rcases OX.1 he with he|he
  ·cases f
   ·obtain rfl:=OZ.1 he;cases hp
   ·obtain rfl:=OZ.1 he;cases hp
   ·obtain rfl:=OZ.1 he;cases hp
   ·obtain rfl:=OZ.1 he;cases hp
   ·simp only at he;split at he
    ·next v hv=>
     obtain rfl:=OZ.1 he;exact hr _ (YK hv) p hp
    ·simp_all
   ·simp only at he;split at he
    ·next o q hv=>
     obtain rfl:=OZ.1 he;cases hp;exact hr _ (YK hv) _ rfl
    ·exact absurd he UV
  ·exact bF hr e he p hp
theorem vF:∀(l:List (Nat×TF)) {σ:Sg},vD P fr cx σ env w->vD P fr cx (Ah cx σ l) env w
 |[],_,h=>h
 |(t,.d _)::r,_,h=>vF r<|U3 _ h
 |(t,.q _)::r,_,h=>vF r h
 |(t,.own _ _)::r,_,h=>vF r h
 |(t,.var _ _)::r,_,h=>vF r h
 |(t,.mat _ _ _)::r,_,h=>vF r h
 |(t,.matv _ _ _)::r,_,h=>vF r h
 |(t,.row _)::r,_,h=>vF r h
 |(t,.view _)::r,_,h=>vF r h
 |(t,.bo _ _ _)::r,_,h=>vF r h
 |(t,.vr _ _ _ _ _ _)::r,_,h=>vF r h
end
end
section
section
variable{P:Program}{cf:Cf}{fr:Fr}{cx kp σ:Sg}{vs vs':Nat->Value}{env env0:yb}{w:World}{R:Type}{r:R}{N:Nd}{Q:Qs}
theorem Yl{a b:List (Nat×Nat×Dv)}:RS P vs env (a++b)=RS P vs env a++RS P vs env b:=PS
theorem Y2{sh:Sh}{k:kq sh.ds->Option R}(h:ZD (xW cx kp) sh σ k=some r)(hK:Bd cx kp):∃x,k x=some r/\∀(fr:Fr) env w,vD P fr (xW cx kp) σ env w->vD P fr cx (kP sh x kp) env w:=by
 unfold ZD at h;simp only at h;obtain⟨hr,h⟩:=zw h;obtain⟨x,os,h1,h0,h2,h3⟩:=CZ (ds:=sh.ds) (i:=0) (fun j a hj=>by rw[Pk];exact hj) h;refine⟨x,h1,fun fr env w hR=> ?_⟩;have hs:=vF sh.ds hR;generalize Ah (xW cx kp) σ sh.ds=σ1 at*
 obtain⟨hB,vs,ht⟩:=hs;have hf:=h3 P vs fr env (GS P vs env fr (xW cx kp) σ1) w (fun S w hΓ=>qZ hΓ) ht;have hi:=St.dropM hf;generalize hu:uD (xW cx kp) σ1 sh.ds vs env=U at*
 have hc:∀o,o<kp.nx->Dc vs U kp.nx o=vs o:=fun o ho=>iq ho;have hd:∀j,j<sh.ds.length->Dc vs U kp.nx (kp.nx+j)=U (0+j):=fun j hj=>by
  unfold Dc;rw[xb,show kp.nx+j-kp.nx=j by lia,Pk]
 have hv:=fun e he=>fH (n0:=kp.nx) (l:=sh.ds) (x:=x) (o:=kp.nx) e he;have hk:∀e∈(Y5 kp.nx sh.ds x kp.nx).1,∀p,xz e.2.2=some p->p<kp.nx+sh.ds.length:=fun e he p hp=>by
  rcases KT (n0:=kp.nx) (n:=sh.ds.length) (l:=sh.ds) (x:=x) (o:=kp.nx) h0 e he p hp with h|h<;>exact h
 refine⟨⟨fun e he=> ?_,fun e he=> ?_,fun e he p hp=> ?_,fun e he p hp=> ?_⟩,Dc vs U kp.nx,?_⟩
 ·rcases OX.1 he with he|he
  ·exact(hv e he).2
  ·exact Pc (hK.o1 e he)<|PV _ _
 ·exact Pc (hK.o2 e he)<|PV _ _
 ·rcases OX.1 he with he|he
  ·rcases OX.1 he with he|he
   ·exact bF (fun e he p hp=>hk e he p hp) e he p hp
   ·exact hk e he p hp
  ·exact Pc (hK.r1 e he p hp)<|PV _ _
 ·exact Pc (hK.r2 e he p hp)<|PV _ _
 ·have e1:OS (Dc vs U kp.nx) fr cx ((Y5 kp.nx sh.ds x kp.nx).2++kp.ob)=jM U sh.ds x 0++(MS vs (kp.ob++cx.ob)++fr.F):=by
   show MS _ (_++kp.ob)++(MS _ cx.ob++_)=_
   rw[show MS (Dc vs U kp.nx) ((Y5 kp.nx sh.ds x kp.nx).2++kp.ob)=MS _ _++MS _ _ from PS,KU hd,yY fun e he=>hc _<|hK.o1 e he,yY (ob:=cx.ob) fun e he=>hc _<|hK.o2 e he,
    show MS vs (kp.ob++cx.ob)=MS _ _++MS _ _ from PS,O2,O2]
  show St _ _ (OS (Dc vs U kp.nx) fr cx<|(Y5 kp.nx sh.ds x kp.nx).2++kp.ob) _ _;rw[e1];refine hi.weak fun S w hΓ=> ?_;have hl:∀t,Lk P vs env S w (xW cx kp) σ1 t:=qZ hΓ;have hy:ze S (RS P (Dc vs U kp.nx) env (Y5 kp.nx sh.ds x kp.nx).1) w:=eb (U:=U) (n:=sh.ds.length) (fun j hj=>by rw[hd j hj,Pk]) h0 hd (by rw[<-hu];exact h2 P vs env S w hl);have hq:ze S (RS P vs env kp.rg++RS P vs env cx.rg) w:=by
   have:=ze.left<|ze.right hΓ;rwa[show RS P vs env (xW cx kp).rg=RS P vs env kp.rg++RS P vs env cx.rg from PS]at this
  have hn:=gH hy (ns:=sh.ns) fun t f hm=>by
   have hg:=nH hr t f hm;cases f
   ·split at hg<;>simp_all
    next b c h3=>exact hl t 0 _ h3
   ·split at hg<;>simp_all
    next h3=>exact hl t 0 _ h3
   ·split at hg<;>simp_all
    next a b h3=>
    have:=hl t 0 _ h3;simp only[HF,decide_eq_true_eq]at hg;rw[hg];exact this
   ·split at hg<;>simp_all
    next a b h3=>
    have:=hl t 0 _ h3;simp only[MY,decide_eq_true_eq]at hg;rw[hg];exact this
   ·next s=>
    cases hb:get (xW cx kp) σ1 t 0 with
    |none=>rw[hb]at hg;cases hg
    |some v=>
     rw[hb]at hg;cases v<;>simp only[Pd]at hg
     ·next o=>
      cases ha:get (xW cx kp) σ1 s 0 with
      |none=>rw[ha]at hg;cases hg
      |some v'=>
       rw[ha]at hg;cases v'<;>simp only[Pd]at hg;have a1:env t=vs o:=hl t 0 _ hb;have a2:=hl s 0 _ ha;have:=zr hg;subst this;exact a1.trans (show env s=_ from a2).symm
     ·next o _=>
      cases ha:get (xW cx kp) σ1 s 0 with
      |none=>rw[ha]at hg;cases hg
      |some v'=>
       rw[ha]at hg;cases v'<;>simp only[Pd]at hg;have a1:env t=vs o:=(hl t 0 _ hb).1;have a2:=(hl s 0 _ ha).1;have:=zr hg;subst this;exact a1.trans a2.symm
     ·next o=>
      cases ha:get (xW cx kp) σ1 s 0 with
      |none=>rw[ha]at hg;cases hg
      |some v'=>
       rw[ha]at hg;cases v'<;>simp only[Pd]at hg;have a1:env t=zN (vs o):=hl t 0 _ hb;have a2:=hl s 0 _ ha;have:=zr hg;subst this;exact a1.trans (show env s=_ from a2).symm
   ·next s f=>
    cases hb:get (xW cx kp) σ1 t 0 with
    |none=>rw[hb]at hg;cases hg
    |some v=>
     rw[hb]at hg;cases v<;>simp only[Pd]at hg
     next f' o _=>
     cases ha:get (xW cx kp) σ1 s 0 with
     |none=>rw[ha]at hg;cases hg
     |some v'=>
      rw[ha]at hg;cases v'<;>simp only[Pd]at hg;rw[IR]at hg;have a1:=(hl t 0 _ hb).1;have a2:=(hl s 0 _ ha).1;have e1:=zr hg.1;have e2:=zr hg.2;subst e1;subst e2;show env t=.func (.func f) #[env s] #[];rw[a2];exact a1
  show ze S (RS P _ env ((UB (Y5 kp.nx sh.ds x kp.nx).1 sh.ns++(Y5 kp.nx sh.ds x kp.nx).1)++kp.rg)++(RS P _ env cx.rg++fr.G)) w;refine ze.append ?_<|ze.append ?_<|ze.right<|ze.right hΓ
  ·rw[Yl,Yl];refine ze.append (ze.append hn hy) ?_;rw[xO (fun e he p hp=>hc _<|hK.r1 e he p hp)<|fun _ _=>rfl];exact ze.left hq
  ·rw[xO (fun e he p hp=>hc _<|hK.r2 e he p hp)<|fun _ _=>rfl];exact ze.right hq
theorem rZ{a t:Tg}(hp:∀q,t≠ .p q)(h:dZ a t=true):a=t:=by
 cases a<;>cases t<;>first|rfl|cases h|skip
 ·rw[zr (show OW _ _=true from h)]
 ·simp_all
theorem DA{t:Tg}(hK:Bd cx kp){a:Tg×Sh}{k:eD a->Option R}(ht:dZ a.1 t=true)(h:ED (xW cx kp) σ t a k=some r):∃(y:eD a) (σt:Sg),k y=some r/\(∀{R':Type} (K:Tg->Sg->Option R'),nN kp K a y=K t σt)/\∀(fr:Fr) env w,vD P fr (xW cx kp) σ env w->vD P fr cx σt env w:=by
 obtain⟨τ,sh⟩:=a
 cases τ with
 |p q0=>
  cases t with
  |p q=>
   obtain⟨x,h1,h2⟩:=Y2 (show ZD (xW cx kp) sh σ (fun x=>k (q,x))=some r from h) hK;exact⟨(q,x),_,h1,fun K=>rfl,h2⟩
  |n=>cases ht
  |x i=>cases ht
  |r=>cases ht
 |n=>
  obtain⟨x,h1,h2⟩:=Y2 (show ZD (xW cx kp) sh σ k=some r from h) hK
  cases t with
  |n=>exact⟨x,_,h1,fun K=>rfl,h2⟩
  |_=>cases ht
 |x i=>
  obtain⟨x,h1,h2⟩:=Y2 (show ZD (xW cx kp) sh σ k=some r from h) hK
  cases t with
  |x j=>
   obtain rfl:i=j:=zr ht;exact⟨x,_,h1,fun K=>rfl,h2⟩
  |_=>cases ht
 |r=>
  obtain⟨x,h1,h2⟩:=Y2 (show ZD (xW cx kp) sh σ k=some r from h) hK
  cases t with
  |r=>exact⟨x,_,h1,fun K=>rfl,h2⟩
  |_=>cases ht
theorem be{t:Tg}(hK:Bd cx kp):∀{l:List (Tg×Sh)}{k:Ee l->Option R},rm (xW cx kp) σ t l k=some r->∃(y:Ee l) (σt:Sg),k y=some r/\(∀{R':Type} (K:Tg->Sg->Option R'),dm kp K l y=K t σt)/\∀(fr:Fr) env w,vD P fr (xW cx kp) σ env w->vD P fr cx σt env w
 |[],k,h=>by cases h
 |[a],k,h=>by
  obtain⟨ht,h⟩:=zw h;obtain⟨y,σt,h1,h2,h3⟩:=DA hK ht h;exact⟨y,σt,h1,fun K=>h2 K,h3⟩
 |a::b::l,k,h=>by
  unfold rm at h;cases ht:dZ a.1 t<;>rw[ht]at h
  ·obtain⟨y,σt,h1,h2,h3⟩:=be hK h;exact⟨.inr y,σt,h1,fun K=>h2 K,h3⟩
  ·obtain⟨y,σt,h1,h2,h3⟩:=DA hK ht h;exact⟨.inl y,σt,h1,fun K=>h2 K,h3⟩
abbrev Qd:=Exit->List Nat->yb->World->Prop
def xM(D:Nat):MF where
 blk k:=k=D
 p _ w:=w.heap[D]? =some (.deferred<|some [])
 keep h _ hb:=(hb D rfl).trans h
 sub h _:=h
 lt h k hk:=by subst hk;exact(Ph.1 h).1
def aq(D:Nat):Deferred:={target:=.collected D,args:= #[]}
def Nd.wd(N:Nd)(Ds:List Nat):Nd:=⟨N.n,Ds.map aq++N.ds,N.rd⟩
def Fr.wd(fr:Fr)(Ds:List Nat):Fr:=⟨fr.we,fr.Se,Ds.map xM++fr.F,fr.G⟩
def Dj(N:Nd)(Q:Qd):Exit->Act->World->Prop:=fun e a w=>a.tmps.size=N.n/\∃Ds:List Nat,a.defers=Ds.map aq++N.ds/\Q e Ds (zg a) w
def JO(P:Program)(N:Nd)(c:Code)(Q:Qd)(Ds:List Nat)(env:yb)(w:World):Prop:=
 ∀a:Act,a.tmps.size=N.n->a.defers=Ds.map aq++N.ds->zg a=env->c.wpIn N.F 0 P (Dj N Q) a w
section
variable{N:Nd}{Q Q':Qd}{Ds:List Nat}
theorem EC{c:Code}(h:Wp P (N.wd Ds) c (fun e env w=>Q e Ds env w) env w):JO P N c Q Ds env w:=fun a h1 h2 h3=>wpIn_mono (h a h1 h2 h3) fun e a' w' ⟨q1,q2,q3⟩=>⟨q1,Ds,q2,q3⟩
def Dw(K:List Nat->yb->World->Prop)(Q:Qd):Qd
 |.normal,Ds,env,w=>K Ds env w
 |e,Ds,env,w=>Q e Ds env w
def U9(id:Nat)(Q:Qd):Qd
 |.exit id',Ds,env,w=>bif OW id' id then Q .normal Ds env w else Q (.exit id') Ds env w
 |e,Ds,env,w=>Q e Ds env w
def Lh(Q:Qd):Qd
 |.goto _,_,_,_=>False
 |e,Ds,env,w=>Q e Ds env w
theorem iG{x y:Code}(h:JO P N x (Dw (JO P N y Q) Q) Ds env w):JO P N (.seq x y) Q Ds env w:=by
 intro a h1 h2 h3;refine wpIn_seq<|wpIn_mono (h a h1 h2 h3) ?_;intro e a' w' ⟨q1,Ds',q2,q3⟩;cases e<;>first|exact q3 a' q1 q2 rfl|exact⟨q1,Ds',q2,q3⟩
theorem ot{c:Code}(h:JO P N c Q Ds env w)(hq:∀e Ds env w,Q e Ds env w->Q' e Ds env w):JO P N c Q' Ds env w:=
 fun a h1 h2 h3=>wpIn_mono (h a h1 h2 h3) fun e a' w' ⟨q1,Ds',q2,q3⟩=>⟨q1,Ds',q2,hq e _ _ _ q3⟩
theorem mr{id:Nat}{c:Code}(h:JO P N c (U9 id Q) Ds env w):JO P N (.block id c) Q Ds env w:=by
 intro a h1 h2 h3;refine wpIn_block<|wpIn_mono (h a h1 h2 h3) ?_;intro e a' w' ⟨q1,Ds',q2,q3⟩
 cases e with
 |exit i=>
  simp only[U9]at q3;simp only[Exit.inBlock];cases hb:OW i id
  ·rw[hb]at q3;rw[ir<|fun e=>by subst e;simp at hb];exact⟨q1,Ds',q2,q3⟩
  ·rw[hb]at q3;rw[iq<|P7 hb];exact⟨q1,Ds',q2,q3⟩
 |_=>exact⟨q1,Ds',q2,q3⟩
theorem ly{c:Code}(h:JO P N c (Lh Q) Ds env w):JO P N (.scope c) Q Ds env w:=by
 intro a h1 h2 h3;refine dQ<|wpIn_mono (h a h1 h2 h3) ?_;intro e a' w' ⟨q1,Ds',q2,q3⟩;cases e<;>first|exact⟨q1,Ds',q2,q3⟩|exact q3.elim
theorem nq{c:Code}{G:Type}(I:G->List Nat->yb->World->Prop)(μ:G->Nat)(g₀:G)(h₀:I g₀ Ds env w)(round:∀g Ds env w,I g Ds env w->JO P N c (Dw (fun Ds' env' w'=>∃g',I g' Ds' env' w'/\μ g'<μ g) Q) Ds env w):JO P N (.loop c) Q Ds env w:=by
 intro a h1 h2 h3;refine QI (fun g a w=>a.tmps.size=N.n/\∃Ds:List Nat,a.defers=Ds.map aq++N.ds/\I g Ds (zg a) w) μ g₀ ⟨h1,Ds,h2,h3▸h₀⟩ ?_;intro g a w ⟨h1,Ds,h2,hI⟩;refine wpIn_mono (round g Ds (zg a) w hI a h1 h2 rfl) ?_;intro e a' w' ⟨q1,Ds',q2,q3⟩
 cases e with
 |normal=>obtain⟨g',o1,o2⟩:=q3;exact⟨g',⟨q1,Ds',q2,o1⟩,o2⟩
 |_=>exact⟨q1,Ds',q2,q3⟩
theorem V7{c:Operand}{x y:Code}(hc:ev env c=.bool true)(h:JO P N x Q Ds env w):JO P N (.cond c x y) Q Ds env w:=
 fun a h1 h2 h3=>wpIn_cond_true (by rw[uj,h3];exact hc)<|h a h1 h2 h3
theorem Qi{c:Operand}{x y:Code}(hc:ev env c=.bool false)(h:JO P N y Q Ds env w):JO P N (.cond c x y) Q Ds env w:=
 fun a h1 h2 h3=>wpIn_cond_false (by rw[uj,h3];exact hc)<|h a h1 h2 h3
end
theorem JU{α:Type _}(p:α->Bool):∀l:List α,l.Perm ((l.filter fun a=> !p a)++l.filter p)
 |[]=>Su _
 |a::l=>by
  have ih:=JU p l;rw[List.filter_cons,List.filter_cons];cases hp:p a
  ·simpa using ih.cons a
  ·simp only[SC,Pd,if_false,if_true];exact(ih.cons a).trans P6.symm
theorem Q4{ag ro:List Nat}(h:vD P fr cx σ env w):Bd cx (keep σ ag ro)/\vD P fr (xW cx<|keep σ ag ro) (rest σ ag ro) env w:=by
 obtain⟨hB,vs,ha⟩:=h;have hb:Bd cx (keep σ ag ro):=⟨fun e he=>hB.o1 e (PO.1 he).1,hB.o2,fun e he=>hB.r1 e (PO.1 he).1,hB.r2⟩;refine⟨hb,⟨fun e he=>hB.o1 e (PO.1 he).1,fun e he=> ?_,fun e he=>hB.r1 e (PO.1 he).1,fun e he=> ?_⟩,vs,?_⟩
 ·rcases OX.1 he with he|he
  ·exact hb.o1 e he
  ·exact hb.o2 e he
 ·rcases OX.1 he with he|he
  ·exact hb.r1 e he
  ·exact hb.r2 e he
 ·have hp:(OS vs fr cx σ.ob).Perm (OS vs fr (xW cx<|keep σ ag ro) (rest σ ag ro).ob):=by
   show List.Perm (MS vs σ.ob++(MS vs cx.ob++fr.F)) (MS vs (rest σ ag ro).ob++(MS vs ((keep σ ag ro).ob++cx.ob)++fr.F));have e:MS vs (rest σ ag ro).ob++(MS vs ((keep σ ag ro).ob++cx.ob)++fr.F)=(MS vs (rest σ ag ro).ob++MS vs (keep σ ag ro).ob)++(MS vs cx.ob++fr.F):=by
    rw[show MS vs ((keep σ ag ro).ob++cx.ob)=MS _ _++MS _ _ from PS];simp_all
   rw[e];refine SJ _ ?_;have:=(JU (fun e:Nat×Od=>ZG (Ko σ ro) e.1) σ.ob).map<|uk vs;rw[PS]at this;exact this
  refine(St.perm ha hp).sub' ?_;intro f hf;rcases OX.1 hf with hf|hf
  ·obtain⟨e,he,rfl⟩:=O8.1 hf;exact OX.2 (.inl<|O8.2 ⟨e,(PO.1 he).1,rfl⟩)
  ·rcases OX.1 hf with hf|hf
   ·obtain⟨e,he,rfl⟩:=O8.1 hf;rcases OX.1 he with he|he
    ·exact OX.2 (.inl<|O8.2 ⟨e,(PO.1 he).1,rfl⟩)
    ·exact OX.2 (.inr<|OX.2 (.inl<|O8.2 ⟨e,he,rfl⟩))
   ·exact OX.2 (.inr<|OX.2 (.inr hf))
end
end
section
def ZV(l:Nat)(r:Loop):MF where
 blk k:=k=l
 p _ w:=w.heap[l]? =some (.loop r)
 keep h _ hb:=(hb l rfl).trans h
 sub h _:=h
 lt h k hk:=by subst hk;exact(Ph.1 h).1
def Ix(Γ:List FF):MF where
 blk _:=False
 p S w:=ze S Γ w
 keep h k _:=ze.keep k h
 sub h k:=ze.sub k h
 lt _ _ hk:=hk.elim
section
variable{we:World}{Se:Nat->Prop}{ms:List MF}{Γ Δ:List FF}{w:World}
theorem St.ffIn(h:St we Se ms (Δ++Γ) w):St we Se (Ix Δ::ms) Γ w:=by
 obtain⟨h1,h2,h3,S,h4,h5,h6,h7,h8⟩:=h;refine⟨h1,h2,⟨fun k hk=>hk.elim,h3⟩,S,h4,h5,fun m hm k hk=> ?_,⟨ze.left h8,h7⟩,ze.right h8⟩;rcases OY.1 hm with rfl|hm
 ·exact hk.elim
 ·grind
theorem St.ffOut(h:St we Se (Ix Δ::ms) Γ w):St we Se ms (Δ++Γ) w:=by
 obtain⟨h1,h2,h3,S,h4,h5,h6,h7,h8⟩:=h;exact⟨h1,h2,h3.2,S,h4,h5,fun m hm=>h6 m<|H1 _ hm,h7.2,ze.append h7.1 h8⟩
theorem St.putObj{l:Nat}{m m':MF}{o:Obj}(h:St we Se (m::ms) Γ w)(hb:∀k,m.blk k↔k=l)(hf:∀k,m'.blk k->k=l)(hp:∀S w',w'.heap[l]? =some o->m'.p S w'):St we Se (m'::ms) Γ (w.putObj l o):=by
 obtain⟨h1,h2,h3,S,h4,h5,h6,h7,h8⟩:=h;have hl:=h6 m (Nm) l<|(hb l).2 rfl;have hg:=z7.lt h7 m (Nm) l<|(hb l).2 rfl;have hd:(w.putObj l o).heap.size=w.heap.size:=World.putObj_size;have ha:∀k,k≠l->(w.putObj l o).heap[k]? =w.heap[k]? :=fun k hk=>World.putObj_heap_other hk;have hk:zH S w (w.putObj l o):=⟨rfl,rfl,rfl,Nat.le_of_eq hd.symm,fun k _ hS=>ha k fun e=>hl.1<|e▸hS⟩;have hx:jA we (w.putObj l o):=⟨h1.os,h1.tape,h1.output,Pz h1.size<|Nat.le_of_eq hd.symm,fun k hk hS=>(ha k fun e=>by lia).trans<|h1.block k hk hS⟩;refine⟨hx,h2,⟨fun k hk m2 hc=>h3.1 k ((hb k).2<|hf k hk) m2 hc,h3.2⟩,S,h4,fun k hk=>h5 k (by rw[hd]at hk;exact hk),fun m2 hc k he=> ?_,⟨hp S _<|World.putObj_heap_same hg,z7.keep hk (fun m2 hc k he=>ha k fun e=> ?_) h7.2⟩,ze.keep hk h8⟩
 ·grind
 ·subst e;exact h3.1 k ((hb k).2 rfl) m2 hc he
theorem St.allocObj{o:Obj}{m:MF}(h:St we Se ms Γ w)(hb:∀k,m.blk k->k=w.heap.size)(hp:∀S w',w'.heap[w.heap.size]? =some o->m.p S w'):St we Se (m::ms) Γ (w.alloc o):=by
 obtain⟨h1,h2,h3,S,h4,h5,h6,h7,h8⟩:=h;have he:(w.alloc o).heap.size=w.heap.size+1:=World.size_alloc ..;have yW:∀k,k<w.heap.size->(w.alloc o).heap[k]? =w.heap[k]? :=fun k hk=>by
  show(w.heap.push o)[k]? =_;grind
 have hd:(w.alloc o).heap[w.heap.size]? =some o:=World.alloc_heap_new w o;let S':Nat->Prop:=fun k=>S k/\k≠w.heap.size
 have hk:zH S' w (w.alloc o):=⟨rfl,rfl,rfl,by lia,fun k hk _=>yW k hk⟩;have hc:∀k,k<w.heap.size->S k->S' k:=fun k hk hS=>⟨hS,by lia⟩;refine⟨⟨h1.os,h1.tape,h1.output,by have:=h1.size;lia,fun k hk hS=>(yW k<|Pc hk h1.size).trans<|h1.block k hk hS⟩,h2,⟨fun k hk m2 hm2 ha=> ?_,h3⟩,S',fun k hk=>h4 k hk.1,fun k hk=>⟨h5 k (by lia),by lia⟩,fun m2 hm2 k ha=> ?_,⟨hp _ _ hd,z7.keep hk (fun m2 hm2 k ha=>yW k<|z7.lt h7 m2 hm2 k ha)<|z7.sub hc h7⟩,ze.keep hk<|ze.sub hc h8⟩
 ·grind
 ·rcases OY.1 hm2 with rfl|hm2
  ·exact⟨fun hS=>hS.2<|hb k ha,by have:=hb k ha;have:=h1.size;lia⟩
  ·exact⟨fun hS=>(h6 m2 hm2 k ha).1 hS.1,(h6 m2 hm2 k ha).2⟩
end
section
variable{P:Program}{cf:Cf}{fr:Fr}{cx kp σ:Sg}{vs vs':Nat->Value}{env env':yb}{w:World}
theorem UE{cx σ:Sg}(h:Bd cx σ):Bd (xW cx σ) ⟨σ.nx,[],[]⟩where
 o1:=fun _ he=>absurd he UV
 o2:=fun e he=>by
  rcases OX.1 he with he|he
  ·exact h.o1 e he
  ·exact h.o2 e he
 r1:=fun _ he=>absurd he UV
 r2:=fun e he=>by
  rcases OX.1 he with he|he
  ·exact h.r1 e he
  ·exact h.r2 e he
def Vc(f:TF)(v u:Value):Prop:=match f with
 |.own _ _=>v=u
 |.var _ _=>v=u/\∃b,v=.pointer (some ⟨b,0,none⟩)
 |.mat _ _ _=>v=zN u
 |.bo _ _ _=>v=zN u
 |_=>False
def ue(ds:List (Nat×TF))(env:yb)(U:Nat->Value):Prop:=∀(j t:Nat) (f:TF),ds[j]? =some (t,f)->Vc f (env t) (U j)
theorem Uu:∀{ds:List (Nat×TF)},ZU ds=true->∀(j t:Nat) (f:TF),ds[j]? =some (t,f)->(∃s E,f=.own s E)\/(∃s E,f=.var s E)\/(∃s E F,f=.mat s E F)\/(∃s E F,f=.bo s E F)
 |[],_,j,t,f,h=>by simp at h
 |(t',f')::ds,hm,0,t,f,h=>by
  simp only[PE,O6,Tj]at h;obtain⟨rfl,rfl⟩:=h;cases f'<;>simp only[ZU,Pd]at hm
  ·simp_all
  ·simp_all
  ·simp_all
  ·simp_all
 |(t',f')::ds,hm,j+1,t,f,h=>by
  refine Uu (ds:=ds) ?_ j t f (by simpa using h);cases f'<;>simp only[ZU,Pd]at hm<;>exact hm
theorem bn{ds:List (Nat×TF)}(hm:ZU ds=true):∀a∈ds,∀j,Q6 a.2=some j->j<ds.length:=fun a ha j e=>by
 obtain⟨i,hi⟩:=TD.1 ha;rcases Uu hm i a.1 a.2 hi with⟨_,_,h⟩|⟨_,_,h⟩|⟨_,_,_,h⟩|⟨_,_,_,h⟩<;>rw[h]at e<;>cases e
theorem iA{U:Nat->Value}{S:Nat->Prop}:∀{ds:List (Nat×TF)}{x:kq ds}{i:Nat},(∀(j t:Nat) (f:TF),ds[j]? =some (t,f)->Vc f (env t) (U<|i+j))->ze S (L4 U env ds x i) w
 |[],_,_,_=>trivial
 |[(t,f)],x,i,h=>by
  have h0:=h 0 t f rfl;refine⟨?_,trivial⟩;cases f<;>first|exact h0|exact h0.elim
 |(t,f)::b::l,x,i,h=>by
  have h0:=h 0 t f rfl;refine⟨?_,iA fun j t f hj=>by
   have:=h (j+1) t f (by simpa using hj);rw[show i+1+j=i+(j+1)by lia];exact this⟩
  cases f<;>first|exact h0|exact h0.elim
theorem ra{n0:Nat}:∀{ds:List (Nat×TF)}{x:kq ds}{o j t:Nat}{f:TF},ds[j]? =some (t,f)->∃y:f.D,(t,0,(Jy n0 (o+j) f y).1)∈(Y5 n0 ds x o).1
 |[],_,_,_,_,_,h=>by simp at h
 |[(t',f')],x,o,0,t,f,h=>by
  obtain⟨rfl,rfl⟩:=h;exact⟨x,Nm⟩
 |[(t',f')],x,o,j+1,t,f,h=>by simp at h
 |(t',f')::b::l,x,o,0,t,f,h=>by
  obtain⟨rfl,rfl⟩:=h;exact⟨x.1,Nm⟩
 |(t',f')::b::l,x,o,j+1,t,f,h=>by
  obtain⟨y,hy⟩:=ra (by simpa using h);rw[show o+1+j=o+(j+1)by lia]at hy;exact⟨y,H1 _ hy⟩
theorem oU{ds:List (Nat×TF)}{x:kq ds}{n:Nat}{S:Nat->Prop}(hm:ZU ds=true)(h:ze S (RS P vs env (Y5 n ds x n).1) w):ue ds env fun j=>vs (n+j):=by
 intro j t f hj;obtain⟨y,hy⟩:=ra hj;have:=kD h hy;rcases Uu hm j t f hj with⟨_,_,rfl⟩|⟨_,_,rfl⟩|⟨_,_,_,rfl⟩|⟨_,_,_,rfl⟩
 ·exact this
 ·obtain⟨h1,b,h2⟩:=this;exact⟨h1,b,h1.trans h2⟩
 ·exact this
 ·exact this
theorem DT{ds:List (Nat×TF)}{x:kq ds}(hm:ZU ds=true)(o1:∀e∈kp.ob,e.1<kp.nx+ds.length)(o2:∀e∈cx.ob,e.1<kp.nx+ds.length)(r1:∀e∈kp.rg,∀o,xz e.2.2=some o->o<kp.nx+ds.length)(r2:∀e∈cx.rg,∀o,xz e.2.2=some o->o<kp.nx+ds.length):Bd cx (kP ⟨ds,[]⟩ x kp):=by
 refine⟨fun e he=> ?_,o2,fun e he p hp=> ?_,r2⟩
 ·rcases OX.1 he with he|he
  ·exact(fH e he).2
  ·exact o1 e he
 ·have hr:∀e∈(Y5 kp.nx ds x kp.nx).1,∀p,xz e.2.2=some p->p<kp.nx+ds.length:=fun e he p hp=>by
   rcases KT (bn hm) e he p hp with h|h<;>exact h
  rcases OX.1 he with he|he
  ·rcases OX.1 he with he|he
   ·exact hr e he p hp
   ·exact hr e he p hp
  ·exact r1 e he p hp
theorem sV{ds:List (Nat×TF)}{x:kq ds}(hm:ZU ds=true)(hc:ue ds env fun j=>vs<|kp.nx+j)(hb:Bd cx (kP ⟨ds,[]⟩ x kp))
 (hd:St fr.we fr.Se (jM (fun j=>vs<|kp.nx+j) ds x 0++(MS vs kp.ob++(MS vs cx.ob++fr.F))) (RS P vs env kp.rg++(RS P vs env cx.rg++fr.G)) w):vD P fr cx (kP ⟨ds,[]⟩ x kp) env w:=by
 refine⟨hb,vs,?_⟩;have ha:∀j,j<ds.length->vs (kp.nx+j)=(fun j=>vs<|kp.nx+j) (0+j):=fun j _=>by simp only[Pk]
 have e1:OS vs fr cx (kP ⟨ds,[]⟩ x kp).ob=jM (fun j=>vs<|kp.nx+j) ds x 0++(MS vs kp.ob++(MS vs cx.ob++fr.F)):=by
  show MS vs ((Y5 kp.nx ds x kp.nx).2++kp.ob)++(MS vs cx.ob++fr.F)=_;rw[show MS vs ((Y5 kp.nx ds x kp.nx).2++kp.ob)=MS vs (Y5 kp.nx ds x kp.nx).2++MS vs kp.ob from PS,KU (U:=fun j=>vs<|kp.nx+j) ha,O2]
 show St _ _ (OS vs fr cx (kP ⟨ds,[]⟩ x kp).ob) _ _;rw[e1];refine hd.weak fun S w hΓ=> ?_;have hy:ze S (RS P vs env (Y5 kp.nx ds x kp.nx).1) w:=eb (fun j _=>rfl) (bn hm) ha (iA fun j t f hj=>by rw[Pk];exact hc j t f hj);show ze S (RS P vs env (((Y5 kp.nx ds x kp.nx).1++(Y5 kp.nx ds x kp.nx).1)++kp.rg)++(RS P vs env cx.rg++fr.G)) w;rw[Yl,Yl];exact ze.append (ze.append (ze.append hy hy)<|ze.left hΓ)<|ze.right hΓ
theorem gh{ds:List (Nat×TF)}{x:kq ds}{n:Nat}(hm:ZU ds=true)(hR:vD P fr cx (kP ⟨ds,[]⟩ x ⟨n,[],[]⟩) env w):∃vs,ue ds env (fun j=>vs<|n+j)/\Bd cx (kP ⟨ds,[]⟩ x ⟨n,[],[]⟩)/\St fr.we fr.Se (jM (fun j=>vs<|n+j) ds x 0++(MS vs cx.ob++fr.F)) (RS P vs env cx.rg++fr.G) w:=by
 obtain⟨hB,vs,ha⟩:=hR;obtain⟨S,_,hΓ⟩:=ha.ex;have h1:ze S (RS P vs env<|((Y5 n ds x n).1++(Y5 n ds x n).1)++[]) w:=ze.left hΓ;rw[Yl,Yl]at h1;refine⟨vs,oU hm<|ze.right<|ze.left h1,hB,?_⟩;have e1:OS vs fr cx (kP ⟨ds,[]⟩ x ⟨n,[],[]⟩).ob=jM (fun j=>vs<|n+j) ds x 0++(MS vs cx.ob++fr.F):=by
  show MS vs ((Y5 n ds x n).2++[])++(MS vs cx.ob++fr.F)=_;rw[Ps,KU (U:=fun j=>vs<|n+j) (i:=0) fun j _=>by simp only[Pk]]
 have h2:St fr.we fr.Se (OS vs fr cx (kP ⟨ds,[]⟩ x ⟨n,[],[]⟩).ob) (GS P vs env fr cx<|kP ⟨ds,[]⟩ x ⟨n,[],[]⟩) w:=ha;rw[e1]at h2;exact h2.weak fun S w h=>ze.right h
theorem dI{U:Nat->Value}{a:Nat×TF}:∀{l:List (Nat×TF)}{y:a.2.D}{x:kq l}{i:Nat},jM U (a::l) (J7 y x) i=gU a.2 y (U i)++jM U l x (i+1)
 |[],y,x,i=>by show gU a.2 y (U i)=_++[];rw[Ps]
 |_::_,y,x,i=>rfl
theorem YI{U V:Nat->Value}:∀{l:List (Nat×TF)}{x:kq l}{i k:Nat},(∀j,j<l.length->U (i+j)=V (k+j))->jM U l x i=jM V l x k
 |[],_,_,_,_=>rfl
 |[a],x,i,k,h=>by
  have h0:U i=V k:=h 0 (by simp);show gU a.2 x (U i)=gU a.2 x (V k);rw[h0]
 |a::b::l,x,i,k,h=>by
  have h0:U i=V k:=h 0 (by simp);show gU a.2 x.1 (U i)++jM U (b::l) x.2 (i+1)=gU a.2 x.1 (V k)++jM V (b::l) x.2 (k+1);rw[h0,YI (k:=k+1) fun j hj=>by
   have:=h (j+1) (by simpa using hj);rw[show i+1+j=i+(j+1)by lia,show k+1+j=k+(j+1)by lia];exact this]
theorem nu{a:Nat×TF}:∀{l:List (Nat×TF)} (z:kq (a::l)),z=J7 (Y6 z).1 (Y6 z).2
 |[],_=>rfl
 |_::_,_=>rfl
theorem UO{we:World}{Se:Nat->Prop}{A B:List MF}{G:List FF}{l:Nat}{m m':MF}{o:Obj}(h:vD P ⟨we,Se,A++m::B,G⟩ cx σ env w)(hb:∀k,m.blk k↔k=l)(ha:∀k,m'.blk k->k=l)(hp:∀S w',w'.heap[l]? =some o->m'.p S w'):vD P ⟨we,Se,A++m'::B,G⟩ cx σ env (w.putObj l o):=by
 obtain⟨hB,vs,hc⟩:=h;refine⟨hB,vs,?_⟩;have h1:St we Se ((MS vs σ.ob++(MS vs cx.ob++A))++m::B) (GS P vs env ⟨we,Se,A++m::B,G⟩ cx σ) w:=by simp_all
 have h2:=St.putObj (St.mid h1) hb ha hp;have h3:=h2.perm P6.symm;simp_all
theorem og{n:Nat}{S:Nat->Prop}:∀{ds:List (Nat×TF)}{i:Nat},ZU ds=true->(∀(j t:Nat) (f:TF),ds[j]? =some (t,f)->Vc f (env t) (vs<|n+(i+j)))->ze S (RS P vs env<|Vv ds<|n+i) w
 |[],_,_,_=>trivial
 |(t,f)::r,i,hm,h=>by
  have h0:=h 0 t f rfl;have ih:ZU r=true->ze S (RS P vs env<|Vv r<|n+i+1) w:=fun hm=>og hm fun j t f hj=>by
   have:=h (j+1) t f (by simpa using hj);grind
  cases f<;>simp only[ZU,Pd]at hm
  ·exact⟨h0,ih hm⟩
  ·exact⟨h0.1,ih hm⟩
  ·exact⟨h0,ih hm⟩
  ·exact⟨h0,ih hm⟩
theorem bT:∀{ds:List (Nat×TF)}{n:Nat},∀e∈Vv ds n,∀o,xz e.2.2=some o->o<n+ds.length
 |[],_,e,he=>absurd he UV
 |(t,f)::r,n,e,he=>by
  intro o ho;have ih:e∈Vv r (n+1)->o<n+((t,f)::r).length:=fun he=>by
   have:=bT e he o ho;grind
  cases f<;>rcases OY.1 he with rfl|he<;>first|exact ih he|(cases ho;simp only[FS];lia)
theorem Jj:∀{ds:List (Nat×TF)}{n j t:Nat}{f:TF},ds[j]? =some (t,f)->∃e∈Vv ds n,e.1=t
 |[],_,_,_,_,h=>by simp at h
 |(t',f')::r,n,0,t,f,h=>by
  obtain⟨rfl,rfl⟩:=h;cases f'<;>exact⟨_,Nm,rfl⟩
 |(t',f')::r,n,j+1,t,f,h=>by
  obtain⟨e,he,h1⟩:=Jj (by simpa using h);cases f'<;>exact⟨e,H1 _ he,h1⟩
theorem Cg{a:Nat×TF}{ds:List (Nat×TF)}(h:sS (a::ds)=true){j t:Nat}{f:TF}(hj:ds[j]? =some (t,f)):t≠a.1:=by
 simp only[sS,oh,IR,Pe]at h;have:=h.1 (t,f)<|Pq hj;intro e;simp_all
end
end
section
def cY(P:Program)(cf:Cf)(n:Nat)(c:Code):Prop:=∀{R:Type}{r:R}{fr:Fr}{cx σ:Sg}{K:Tg->Sg->Option R}{Q:Qd}{N:Nd},N.n=n->(N.rd=none\/KZ c=true)->YM cf c cx σ K=some r->∀{Ds:List Nat}{env:yb}{w:World},
 (∀t σ',K t σ'=some r->∀Ds' env' w',Y9 cx env env'->vD P (fr.wd Ds') cx σ' env' w'->Q (AB t) Ds' env' w')->vD P (fr.wd Ds) cx σ env w->JO P N c Q Ds env w
def LQ:Value->List Value
 |.tuple us=>us.toList
 |_=>[]
def qL(u:Value)(k:Nat):Value:=(LQ u).getD k undef
def bP(vs:Nat->Value)(m:Nat):Value:=.tuple ((P4 m).map vs).toArray
theorem AD{vs:Nat->Value}{m k:Nat}(h:k<m):qL (bP vs m) k=vs k:=by
 simp[qL,bP,LQ,h]
def HR:Tg->Code
 |.n=> .skip
 |.x i=> .exit i
 |.r=> .ret
 |.p _=> .skip
section
variable{P:Program}{cf:Cf}{fr:Fr}{cx cx' kp σ:Sg}{vs vs':Nat->Value}{env env':yb}{w:World}{we:World}{Se:Nat->Prop}{F:List MF}{G:List FF}{n D l:Nat}{ds:List (Nat×TF)}{x:kq ds}{u:Value}{rc:Loop}
def mh(P:Program)(env:yb)(cx':Sg)(n:Nat)(ds:List (Nat×TF))(D l:Nat)(rc:Loop)(x:kq ds)(u:Value):MF:=
 Qu (nb (ue ds env fun j=>qL u<|n+j)::Ix (RS P (qL u) env cx'.rg)::ZV l rc::xM D::(jM (fun j=>qL u<|n+j) ds x 0++MS (qL u) cx'.ob))
theorem iM(h:St we Se (mh P env cx' n ds D l rc x u::F) G w):ue ds env (fun j=>qL u<|n+j)/\St we Se (ZV l rc::xM D::(jM (fun j=>qL u<|n+j) ds x 0++(MS (qL u) cx'.ob++F))) (RS P (qL u) env cx'.rg++G) w:=by
 obtain⟨h1,h2⟩:=St.unpr<|St.grp.1 h;have h3:=St.ffOut (show St we Se (Ix (RS P (qL u) env cx'.rg)::(ZV l rc::xM D::(jM (fun j=>qL u<|n+j) ds x 0++MS (qL u) cx'.ob)++F)) G w from h2);simp_all
theorem oC(ha:ue ds env fun j=>vs<|n+j)(ho:∀e∈cx'.ob,e.1<n)(hr:∀e∈cx'.rg,∀o,xz e.2.2=some o->o<n)(h:St we Se (ZV l rc::xM D::(jM (fun j=>vs<|n+j) ds x 0++(MS vs cx'.ob++F))) (RS P vs env cx'.rg++G) w):
 St we Se (mh P env cx' n ds D l rc x (bP vs<|n+ds.length)::F) G w:=by
 have e0:∀k,k<n+ds.length->qL (bP vs<|n+ds.length) k=vs k:=fun k hk=>AD hk;have e1:RS P (qL<|bP vs<|n+ds.length) env cx'.rg=RS P vs env cx'.rg:=xO (fun e he o ho=>e0 o (by have:=hr e he o ho;lia)) fun _ _=>rfl;have e2:MS (qL<|bP vs<|n+ds.length) cx'.ob=MS vs cx'.ob:=yY fun e he=>e0 e.1 (by have:=ho e he;lia);have e3:jM (fun j=>qL (bP vs<|n+ds.length)<|n+j) ds x 0=jM (fun j=>vs<|n+j) ds x 0:=YI fun j hj=>e0 _ (by lia);refine St.grp.2<|St.pr ?_ ?_
 ·intro j t f hj;have:=(O4.1 hj).1;show Vc f (env t) (qL (bP vs<|n+ds.length)<|n+j);rw[e0 _<|by lia];exact ha j t f hj
 ·have h2:St we Se (Ix (RS P vs env cx'.rg)::(ZV l rc::xM D::(jM (fun j=>vs<|n+j) ds x 0++MS vs cx'.ob)++F)) G w:=St.ffIn (by simpa only[PZ,O2]using h);simp_all
theorem Ug{m:MF}{p:Prop}(h:vD P fr cx σ env w)(hm:m∈fr.F)(hp:∀S,m.p S w->p):p:=by
 obtain⟨_,vs,_,_,_,S,_,_,_,h7,_⟩:=h;exact hp S<|qo.1 h7 m<|OX.2 (.inr<|OX.2 (.inr hm))
theorem AY{it:UQ}{pt:Nat}{τ:Tg}{a c:Code}{N:Nat}{fn:FuncId}{tmps:Array Value}(hA:cY P cf N a)(hC:cY P cf N c)(hV:KZ a=true)(hW:KZ c=true)(hpt:pt<N)(hX:tmps.size=N)(hN:zg ⟨tmps,[]⟩=env)(hm:ZU ds=true)
 (hY:sS (vv pt it.t it.E ds).ds=true) (hH:qk cx'.rg pt=true) (ho:∀e∈cx'.ob,e.1<n) (hr:∀e∈cx'.rg,∀o,xz e.2.2=some o->o<n):
 lk P l it.t.rep it.E (fun x u=>mh P env cx' n ds D l {state:=.ready,pending:=none,fn:=fn,tmps:=tmps,params:= #[pt],assign:=a,body:=c,defers:=D} x u)
  (fun x u=>mh P env cx' n ds D l {state:=.done,pending:=some<|HR τ,fn:=fn,tmps:=tmps,params:= #[pt],assign:=a,body:=c,defers:=D} x u)
  (LL cx' n ds it.t it.E pt τ (fun cx σ K=>YM cf a cx σ K) fun cx σ K=>YM cf c cx σ K):=by
 obtain⟨rR,hi⟩:∃rR:Loop,rR={state:=.ready,pending:=none,fn:=fn,tmps:=tmps,params:= #[pt],assign:=a,body:=c,defers:=D}:=⟨_,rfl⟩;obtain⟨rB,hF⟩:∃rB:Loop,rB={rR with state:=.busy}:=⟨_,rfl⟩;rw[<-hi];intro ys x ys' q hq v u we Se F G w hZ;obtain⟨h0,h1⟩:=iM hZ;have hl:w.heap[l]? =some (.loop rR):=xy h1 (i:=0) rfl fun S hp=>hp;have hy:=run_yield (P:=P) (args:= #[v]) hl (by rw[hi];rfl);refine⟨fn,tmps.setIfInBounds pt v,a,c,by rw[hi]at hy;simpa using hy,roundIn_of_wpIn trivial ?_⟩;obtain⟨sh,hw⟩:∃sh,sh=vv pt it.t it.E ds:=⟨_,rfl⟩;have hlen:sh.ds.length=ds.length+1:=by rw[hw];rfl
 have hG:ZU sh.ds=true:=by rw[hw];exact hm
 obtain⟨cp,hb⟩:∃cp,cp=L8 cx' n sh:=⟨_,rfl⟩;have hO:∀{j t:Nat}{f:TF},ds[j]? =some (t,f)->t≠pt:=fun hj=>Cg (a:=(pt,.own it.t it.E)) hY hj;obtain⟨env1,hn⟩:∃env1,env1=put env (some pt) v:=⟨_,rfl⟩;have e_pt:env1 pt=v:=by rw[hn];exact Vf
 have e_ne:∀t,t≠pt->env1 t=env t:=fun t ht=>by rw[hn];exact ZX<|fun e=>ht<|by cases e;rfl
 have e_cx:∀e∈cx'.rg,env1 e.1=env e.1:=fun e he=>e_ne e.1 fun h=>by
  simp only[qk,Pe]at hH;have:=hH e he;rw[h]at this;simp at this
 obtain⟨vs1,hx⟩:∃vs1:Nat->Value,vs1=fun k=>if k<n then qL u k else if k=n then v else qL u (k-1):=⟨_,rfl⟩;have v_lo:∀k,k<n->vs1 k=qL u k:=fun k hk=>by rw[hx];exact iq hk
 have v_n:vs1 n=v:=by rw[hx];simp
 have v_hi:∀j,vs1 (n+(j+1))=qL u (n+j):=fun j=>by
  rw[hx];simp only;rw[xb,xb,show n+(j+1)-1=n+j by lia]
 have hI:ue sh.ds env1 fun j=>vs1 (n+j):=by
  rw[hw];intro j t f hj
  cases j with
  |zero=>
   simp only[vv,PE,O6,Tj]at hj;obtain⟨rfl,rfl⟩:=hj;show env1 pt=vs1 (n+0);rw[e_pt,Sl,v_n]
  |succ j=>
   have hj:ds[j]? =some (t,f):=by simpa[vv]using hj
   show Vc f (env1 t) (vs1<|n+(j+1));rw[v_hi,e_ne t<|hO hj];exact h0 j t f hj
 have hB:Bd cp ⟨n+sh.ds.length,[],[]⟩:=by
  rw[hb];refine⟨fun _ he=>absurd he UV,fun e he=> ?_,fun _ he=>absurd he UV,fun e he o hd=> ?_⟩
  ·have:=ho e he;show e.1<n+_;lia
  ·show o<n+_;rcases OX.1 (show e∈Vv sh.ds n++cx'.rg from he)with he|he
   ·exact bT e he o hd
   ·have:=hr e he o hd;lia
 have h9:vD P (Fr.wd ⟨we,Se,ZV l rR::xM D::F,G⟩ []) cp (kP sh (hw▸J7 (a:=(pt,.own it.t it.E)) ys x) ⟨n,[],[]⟩) env1 w:=by
  subst hw;refine sV (vs:=vs1) (kp:=⟨n,[],[]⟩) hG hI (DT hG (fun _ he=>absurd he UV) (fun e he=>hB.o2 e he) (fun _ he=>absurd he UV) fun e he o hd=>hB.r2 e he o hd) ?_;have e1:jM (fun j=>vs1<|n+j) (vv pt it.t it.E ds).ds (J7 (a:=(pt,.own it.t it.E)) ys x) 0=mO it.t.rep it.E v ys::jM (fun j=>qL u<|n+j) ds x 0:=by
   refine(dI (U:=fun j=>vs1<|n+j) (a:=(pt,.own it.t it.E)) (l:=ds) (y:=ys) (x:=x) (i:=0)).trans ?_;show mO it.t.rep it.E (vs1<|n+0) ys::jM _ ds x (0+1)=_;rw[Sl,v_n,YI (U:=fun j=>vs1<|n+j) (V:=fun j=>qL u<|n+j) (i:=0+1) (k:=0) fun j _=>by
    show vs1 (n+(0+1+j))=qL u (n+(0+j));rw[show 0+1+j=j+1 by lia,v_hi,Pk]]
  have e2:MS vs1 cp.ob=MS (qL u) cx'.ob:=by rw[hb];exact yY fun e he=>v_lo _<|ho e he
  show St we Se (jM (fun j=>vs1<|n+j) (vv pt it.t it.E ds).ds (J7 (a:=(pt,.own it.t it.E)) ys x) 0++([]++(MS vs1 cp.ob++([]++(ZV l rR::xM D::F))))) ([]++(RS P vs1 env1 cp.rg++G)) w;rw[e1,e2];have h2:St we Se (mO it.t.rep it.E v ys::jM (fun j=>qL u<|n+j) ds x 0++([]++(MS (qL u) cx'.ob++([]++(ZV l rR::xM D::F))))) (RS P (qL u) env cx'.rg++G) w:=by
   refine h1.perm ?_;simp only[P1,PZ];have p1:(ZV l rR::xM D::(jM (fun j=>qL u<|n+j) ds x 0++(MS (qL u) cx'.ob++mO it.t.rep it.E v ys::F))).Perm (mO it.t.rep it.E v ys::(ZV l rR::xM D::(jM (fun j=>qL u<|n+j) ds x 0++(MS (qL u) cx'.ob++F)))):=by
    have:=P6 (a:=mO it.t.rep it.E v ys) (l₁:=ZV l rR::xM D::(jM (fun j=>qL u<|n+j) ds x 0++MS (qL u) cx'.ob)) (l₂:=F);simpa only[PZ,O2]using this
   refine p1.trans<|TA _ ?_;have p2:([ZV l rR,xM D]++((jM (fun j=>qL u<|n+j) ds x 0++MS (qL u) cx'.ob)++F)).Perm ((jM (fun j=>qL u<|n+j) ds x 0++MS (qL u) cx'.ob)++([ZV l rR,xM D]++F)):=Sj ..;simpa only[PZ,O2,P1]using p2
  refine h2.weak (Δ:=RS P vs1 env1 cp.rg++G) fun S w ha=>ze.append ?_<|ze.right ha;rw[hb];show ze S (RS P vs1 env1<|Vv (vv pt it.t it.E ds).ds n++cx'.rg) w;rw[Yl];refine ze.append (og (i:=0) hG fun j t f hj=>by rw[Pk];exact hI j t f hj) ?_;rw[xO (vs:=qL u) (env:=env) (fun e he o hd=>v_lo o<|hr e he o hd) e_cx];exact ze.left ha
 obtain⟨N1,hf⟩:∃N1:Nd,N1=⟨N,[],some l⟩:=⟨_,rfl⟩;have hP:(⟨tmps.setIfInBounds pt v,[]⟩:Act).tmps.size=N1.n:=by rw[hf];simpa using hX
 have hQ:zg ⟨tmps.setIfInBounds pt v,[]⟩=env1:=by
  have:=qE (a:=⟨tmps,[]⟩) (d:=some pt) (v:=v) (fun t ht=>by cases ht;show pt<tmps.size;lia);rw[hn,<-hN];exact this
 subst hw
 have h':=hA (N:=N1) (fr:=⟨we,Se,ZV l rR::xM D::F,G⟩) (Ds:=[]) (by rw[hf]) (.inr hV) (show YM cf a cp _ _=some (ys',q)from by rw[hb];exact hq)
  (Q:=fun e Ds' env' w'=>e=.normal/\∃σ',YM cf c cp σ' (Gi cp ds it.t it.E pt τ)=some (ys',q)/\Y9 cp env1 env'/\vD P (Fr.wd ⟨we,Se,ZV l rR::xM D::F,G⟩ Ds') cp σ' env' w')
  (fun t σ' hk Ds' env' w' hs hR=>by
   cases t with
   |n=>exact⟨rfl,σ',by rw[hb];exact hk,hs,hR⟩
   |x i=>cases hk
   |r=>cases hk
   |p q=>cases hk) h9
 have hS:=h' ⟨tmps.setIfInBounds pt v,[]⟩ hP (by rw[hf];rfl) hQ;rw[hf]at hS;refine wpIn_mono hS ?_;rintro e a1 w1 ⟨q1,Ds',q2,rfl,σ',hk,hs,hR⟩;have hl1:w1.heap[l]? =some (.loop rR):=Ug hR (m:=ZV l rR) (OX.2 (.inr<|Nm)) fun S hp=>hp;refine⟨w1.putObj l (.loop rB),by rw[hF];exact run_beginRound hl1 (by rw[hi]),?_⟩;have hR1:vD P (Fr.wd ⟨we,Se,ZV l rB::xM D::F,G⟩ Ds') cp σ' (zg a1) (w1.putObj l (.loop rB)):=UO (A:=Ds'.map xM) (m:=ZV l rR) (m':=ZV l rB) (B:=xM D::F) hR (fun k=>Iff.rfl) (fun k h=>h) fun S w' h=>h
 have hwC:=hC (N:=N1) (fr:=⟨we,Se,ZV l rB::xM D::F,G⟩) (Ds:=Ds') (by rw[hf]) (.inr hW) hk
  (Q:=fun e Ds'' env' w'=>∃t σ'',e=AB t/\Gi cp ds it.t it.E pt τ t σ''=some (ys',q)/\Y9 cp (zg a1) env'/\vD P (Fr.wd ⟨we,Se,ZV l rB::xM D::F,G⟩ Ds'') cp σ'' env' w')
  (fun t σ'' hk Ds'' env' w' hs hR=>⟨t,σ'',rfl,hk,hs,hR⟩) hR1
 have hT:=hwC a1 (by rw[hf];exact q1) (by rw[hf];exact q2) rfl;rw[hf]at hT;refine wpIn_mono hT ?_;rintro e a2 w2 ⟨p1,Ds'',p2,t,σ'',rfl,hc,hs2,hu⟩;have hL:w2.heap[l]? =some (.loop rB):=Ug hu (m:=ZV l rB) (OX.2 (.inr<|Nm)) fun S hp=>hp;have hM:=hs.trans hs2
 have close:∀(z:kq (vv pt it.t it.E ds).ds) (rc:Loop),vD P (Fr.wd ⟨we,Se,ZV l rB::xM D::F,G⟩ Ds'') cp (kP (vv pt it.t it.E ds) z ⟨n+(vv pt it.t it.E ds).ds.length,[],[]⟩) (zg a2) w2->
  ∃u',St we Se (mh P env cx' n ds D l rc (Y6 z).2 u'::mO it.t.rep it.E v (Y6 z).1::F) G (w2.putObj l (.loop rc)):=by
  intro z rc hv;have hRp:=UO (A:=Ds''.map xM) (m:=ZV l rB) (m':=ZV l rc) (B:=xM D::F) hv (fun k=>Iff.rfl) (fun k h=>h) (o:=.loop rc) fun S w' h=>h;obtain⟨vs2,hD,hB2,hJ⟩:=gh (ds:=(vv pt it.t it.E ds).ds) hG hRp;obtain⟨m,hm2⟩:∃m,m=n+(vv pt it.t it.E ds).ds.length:=⟨_,rfl⟩;rw[<-hm2]at hD hJ;have z0:vs2 m=v:=by
   have h2:zg a2 pt=vs2 (m+0):=hD 0 pt (.own it.t it.E) rfl;obtain⟨e,he,h3⟩:=Jj (ds:=(vv pt it.t it.E ds).ds) (n:=n) (j:=0) (t:=pt) (f:=.own it.t it.E) rfl;have h4:=hM e (by rw[hb];exact OX.2 (.inl he));rw[h3,e_pt]at h4;rw[Sl]at h2;exact h2.symm.trans h4
  obtain⟨vs3,hK⟩:∃vs3:Nat->Value,vs3=fun k=>if k<n then vs2 k else vs2 (m+1+(k-n)):=⟨_,rfl⟩;have w_lo:∀k,k<n->vs3 k=vs2 k:=fun k hk=>by rw[hK];exact iq hk
  have w_hi:∀j,vs3 (n+j)=vs2 (m+(j+1)):=fun j=>by
   rw[hK];simp only;rw[xb,show m+1+(n+j-n)=m+(j+1)by lia]
  have hU:ue ds env fun j=>vs3 (n+j):=by
   intro j t f hj;have h2:=hD (j+1) t f (by simpa[vv]using hj);obtain⟨e,he,h3⟩:=Jj (ds:=(vv pt it.t it.E ds).ds) (n:=n) (j:=j+1) (t:=t) (f:=f) (by simpa[vv]using hj);have h4:=hM e (by rw[hb];exact OX.2 (.inl he));rw[h3,e_ne t<|hO hj]at h4;show Vc f (env t) (vs3<|n+j);rw[w_hi,<-h4];exact h2
  refine⟨_,oC (F:=mO it.t.rep it.E v (Y6 z).1::F) hU ho hr ?_⟩;have e1:jM (fun j=>vs2<|m+j) (vv pt it.t it.E ds).ds z 0=mO it.t.rep it.E v (Y6 z).1::jM (fun j=>vs3<|n+j) ds (Y6 z).2 0:=by
   refine(congrArg (fun z=>jM (fun j=>vs2<|m+j) (vv pt it.t it.E ds).ds z 0)<|nu (a:=(pt,.own it.t it.E)) (l:=ds) z).trans ?_;refine(dI (U:=fun j=>vs2<|m+j) (a:=(pt,.own it.t it.E)) (l:=ds) (y:=(Y6 (a:=(pt,.own it.t it.E)) z).1) (x:=(Y6 (a:=(pt,.own it.t it.E)) z).2) (i:=0)).trans ?_;show mO it.t.rep it.E (vs2<|m+0) (Y6 z).1::jM _ ds (Y6 z).2 (0+1)=_;rw[Sl,z0,YI (U:=fun j=>vs2<|m+j) (V:=fun j=>vs3<|n+j) (i:=0+1) (k:=0) fun j _=>by
    show vs2 (m+(0+1+j))=vs3 (n+(0+j));rw[show 0+1+j=j+1 by lia,Pk,w_hi]]
  have e2:MS vs2 cp.ob=MS vs3 cx'.ob:=by rw[hb];exact yY fun e he=>(w_lo _<|ho e he).symm
  have h5:St we Se (jM (fun j=>vs2<|m+j) (vv pt it.t it.E ds).ds z 0++(MS vs2 cp.ob++(Ds''.map xM++ZV l rc::xM D::F))) (RS P vs2 (zg a2) cp.rg++G) (w2.putObj l (.loop rc)):=hJ;rw[e1,e2]at h5;have h6:St we Se ((mO it.t.rep it.E v (Y6 z).1::jM (fun j=>vs3<|n+j) ds (Y6 z).2 0++MS vs3 cx'.ob)++(ZV l rc::xM D::F)) (RS P vs2 (zg a2) cp.rg++G) (w2.putObj l (.loop rc)):=St.dropM (B:=Ds''.map xM) (by simpa only[O2]using h5);have h7:St we Se (ZV l rc::xM D::(jM (fun j=>vs3<|n+j) ds (Y6 z).2 0++(MS vs3 cx'.ob++(mO it.t.rep it.E v (Y6 z).1::F)))) (RS P vs2 (zg a2) cp.rg++G) (w2.putObj l (.loop rc)):=by
   refine h6.perm ?_;have p1:((jM (fun j=>vs3<|n+j) ds (Y6 z).2 0++MS vs3 cx'.ob)++([ZV l rc,xM D]++F)).Perm ([ZV l rc,xM D]++((jM (fun j=>vs3<|n+j) ds (Y6 z).2 0++MS vs3 cx'.ob)++F)):=Sj ..;have p2:=P6 (a:=mO it.t.rep it.E v (Y6 z).1) (l₁:=ZV l rc::xM D::(jM (fun j=>vs3<|n+j) ds (Y6 z).2 0++MS vs3 cx'.ob)) (l₂:=F);have p3:=(p1.cons<|mO it.t.rep it.E v (Y6 z).1).trans (by simpa only[PZ,O2,P1]using p2.symm);simpa only[PZ,O2,P1]using p3
  refine h7.weak fun S w ha=>ze.append ?_<|ze.right ha;have h8:ze S (RS P vs2 (zg a2)<|Vv (vv pt it.t it.E ds).ds n++cx'.rg) w:=by
   have:=ze.left ha;rw[hb]at this;exact this
  rw[Yl]at h8;rw[xO (vs:=vs2) (env:=zg a2) (fun e he o hd=>w_lo o<|hr e he o hd) fun e he=> ?_]
  ·exact ze.right h8
  ·have h4:=hM e (by rw[hb];exact OX.2 (.inr he));rw[e_cx e he]at h4;exact h4.symm
 cases t with
 |n=>
  obtain⟨z,hz,hg⟩:=Y2 (P:=P) (cx:=cp) (kp:=⟨n+(vv pt it.t it.E ds).ds.length,[],[]⟩) (show ZD (xW cp ⟨n+(vv pt it.t it.E ds).ds.length,[],[]⟩) (vv pt it.t it.E ds) σ'' (fun z=>some ((Y6 z).1,Sum.inl (Y6 z).2))=some (ys',q)from by rw[hb]at hc⊢;exact hc) hB;cases hz;have hv:=hg (Fr.wd ⟨we,Se,ZV l rB::xM D::F,G⟩ Ds'') (zg a2) w2 (by rw[hb]at hu⊢;exact hu);refine⟨_,_,run_endRound none hL,rfl,?_⟩;have hE:({rB with state:=if(none:Option Code).isNone then .ready else .done,pending:=none}:Loop)=rR:=by rw[hF,hi];rfl
  rw[hE];exact close z rR hv
 |x i=>
  obtain⟨ht,hc⟩:=zw hc;obtain⟨z,hz,hg⟩:=Y2 (P:=P) (cx:=cp) (kp:=⟨n+(vv pt it.t it.E ds).ds.length,[],[]⟩) (show ZD (xW cp ⟨n+(vv pt it.t it.E ds).ds.length,[],[]⟩) (vv pt it.t it.E ds) σ'' (fun z=>some ((Y6 z).1,Sum.inr (Y6 z).2))=some (ys',q)from by rw[hb]at hc⊢;exact hc) hB;cases hz;have hv:=hg (Fr.wd ⟨we,Se,ZV l rB::xM D::F,G⟩ Ds'') (zg a2) w2 (by rw[hb]at hu⊢;exact hu);refine⟨_,_,run_endRound (some (.exit i)) hL,rfl,?_⟩;have hE:({rB with state:=if(some<|Code.exit i).isNone then .ready else .done,pending:=some (.exit i)}:Loop)={state:=.done,pending:=some<|HR τ,fn:=fn,tmps:=tmps,params:= #[pt],assign:=a,body:=c,defers:=D}:=by rw[hF,hi,rZ (fun _ e=>by cases e) ht];rfl
  rw[hE];exact close z _ hv
 |r=>
  obtain⟨ht,hc⟩:=zw hc;obtain⟨z,hz,hg⟩:=Y2 (P:=P) (cx:=cp) (kp:=⟨n+(vv pt it.t it.E ds).ds.length,[],[]⟩) (show ZD (xW cp ⟨n+(vv pt it.t it.E ds).ds.length,[],[]⟩) (vv pt it.t it.E ds) σ'' (fun z=>some ((Y6 z).1,Sum.inr (Y6 z).2))=some (ys',q)from by rw[hb]at hc⊢;exact hc) hB;cases hz;have hv:=hg (Fr.wd ⟨we,Se,ZV l rB::xM D::F,G⟩ Ds'') (zg a2) w2 (by rw[hb]at hu⊢;exact hu);refine⟨_,_,run_endRound (some .ret) hL,rfl,?_⟩;have hE:({rB with state:=if(some Code.ret).isNone then .ready else .done,pending:=some .ret}:Loop)={state:=.done,pending:=some<|HR τ,fn:=fn,tmps:=tmps,params:= #[pt],assign:=a,body:=c,defers:=D}:=by rw[hF,hi,rZ (fun _ e=>by cases e) ht];rfl
  rw[hE];exact close z _ hv
 |p q=>cases hc
end
end
section
section
variable{P:Program}{cf:Cf}{fr:Fr}{cx σ:Sg}{env:yb}{w:World}{R:Type}{r:R}
theorem AZ(hX:Vd P cf){g:Operand}{a c:Code}{N:Nd}{K:Tg->Sg->Option R}{Q:Qd}{s:Lp}{it:UQ}{y:uC it.dom}{τ:Tg}{pt:Nat}{ags:List Nat}{cs:List PD}{Ds:List Nat}
 (hA:cY P cf N.n a) (hC:cY P cf N.n c) (hQ:KZ a=true) (hS:KZ c=true) (hT:N.rd=none) (hU:pt<N.n) (hg:yx cx σ g=some (.fn it.f cs)) (hV:it∈cf.is) (hy:ZI it.dom cs=some y) (hv:s.hd.ns=[])
 (h:fg cx σ K s it y τ pt ags (fun cx σ K=>YM cf a cx σ K) (fun cx σ K=>YM cf c cx σ K)=some r)
 (hK:∀t σ',K t σ'=some r->∀Ds' env' w',Y9 cx env env'->vD P (fr.wd Ds') cx σ' env' w'->Q (AB t) Ds' env' w') (hR:vD P (fr.wd Ds) cx σ env w):JO P N (.rangeFunc g #[pt] a c) Q Ds env w:=by
 obtain⟨⟨ds,ns⟩,sg⟩:=s;simp only at hv;subst hv;obtain⟨h9,hx⟩:=KR hy;obtain⟨hB,vs,hz⟩:=hR;obtain⟨S0,_,hΓ⟩:=hz.ex;obtain⟨cvs,hD,h8,h'⟩:=za hg<|zj hΓ g;have hY:vD P ⟨fr.we,fr.Se,Ds.map xM++fr.F,wO P it.dom y cvs++fr.G⟩ cx σ env w:=⟨hB,vs,hz.weak fun S w ha=>ze.append (ze.left ha) (ze.append (ze.left<|ze.right ha) (ze.append (by
  obtain⟨cvs',hE,hZ,hF⟩:=za hg<|zj ha g;rw[hD]at hE;have:cvs=cvs':=by simpa using hE
  subst this;exact hx hZ hF) (ze.right (ze.right ha))))⟩
 unfold fg at h;simp only at h;obtain⟨hi,h⟩:=zw h;simp only[IR]at hi;obtain⟨hm,⟨hG,h0⟩,hl⟩:=hi;obtain⟨hc,hH⟩:=Q4 (ag:=ags) (ro:=sg.ro) hY;obtain⟨kp,h5⟩:∃kp,kp=keep σ ags sg.ro:=⟨_,rfl⟩;rw[<-h5]at h hc hH hl;obtain⟨x0,h1,h2⟩:=Y2 (P:=P) (cx:=xW cx kp) (kp:=⟨kp.nx,[],[]⟩) h<|UE hc;obtain⟨r',h3,h4⟩:=ZP h1;obtain⟨vs0,hI,hB0,hJ⟩:=gh (ds:=ds) hm<|h2 _ env w hH;obtain⟨hb,hL⟩:=hX.is it hV;have ho:∀e∈(xW cx kp).ob,e.1<kp.nx:=fun e he=>by
  rcases OX.1 he with he|he
  ·exact hc.o1 e he
  ·exact hc.o2 e he
 have hr:∀e∈(xW cx kp).rg,∀o,xz e.2.2=some o->o<kp.nx:=fun e he o hf=>by
  rcases OX.1 he with he|he
  ·exact hc.r1 e he o hf
  ·exact hc.r2 e he o hf
 intro a0 g1 g2 g3;refine wpIn_rangeFunc ?_;intro fn hfn;rw[show N.F.round=none from hT];obtain⟨rR,hj⟩:∃rR:Loop,rR={state:=.ready,pending:=none,fn:=fn,tmps:=a0.tmps,params:= #[pt],assign:=a,body:=c,defers:=w.heap.size}:=⟨_,rfl⟩;obtain⟨rD,hn⟩:∃rD:Loop,rD={state:=.done,pending:=some<|HR τ,fn:=fn,tmps:=a0.tmps,params:= #[pt],assign:=a,body:=c,defers:=w.heap.size}:=⟨_,rfl⟩;have hM:=run_enterLoop_outer (P:=P) (w:=w) fn a0.tmps #[pt] a c;rw[<-hj]at hM;have hW:St fr.we fr.Se (ZV (w.heap.size+1) rR::xM w.heap.size::(jM (fun j=>vs0<|kp.nx+j) ds x0 0++(MS vs0 (xW cx kp).ob++(Ds.map xM++fr.F)))) (RS P vs0 env (xW cx kp).rg++(wO P it.dom y cvs++fr.G)) ((w.alloc (.deferred<|some [])).alloc (.loop rR)):=by
  have q1:=St.allocObj (o:=.deferred<|some []) (m:=xM w.heap.size) hJ (fun k hk=>hk)<|fun S w' hw=>hw;have hN:(w.alloc (.deferred<|some [])).heap.size=w.heap.size+1:=World.size_alloc ..;refine St.allocObj (o:=.loop rR) (m:=ZV (w.heap.size+1) rR) q1 (fun k hk=>by rw[hN];exact hk)<|fun S w' hw=> ?_;rw[hN]at hw;exact hw
 have h6:=oC (x:=x0) hI ho hr hW;have hO:=AY (P:=P) (cf:=cf) (cx':=xW cx kp) (env:=env) (n:=kp.nx) (D:=w.heap.size) (l:=w.heap.size+1) (ds:=ds) (it:=it) (pt:=pt) (τ:=τ) (a:=a) (c:=c) (N:=N.n) (fn:=fn) (tmps:=a0.tmps) hA hC hQ hS hU g1 g3 hm h0 hl ho hr;rw[<-hj,<-hn]at hO;have hq:=hL y _ _ _ _ _ x0 r' h3 (w.heap.size+1) cvs (by lia) hO _ fr.we fr.Se _ fr.G _ h6
 have close:∀(rc:Loop) (x:kq ds) (u':Value) (w3:World),St fr.we fr.Se (mh P env (xW cx kp) kp.nx ds w.heap.size (w.heap.size+1) rc x u'::(Ds.map xM++fr.F)) fr.G w3->
  w3.heap[w.heap.size+1]? =some (.loop rc)/\∀o,vD P (fr.wd (w.heap.size::Ds)) cx (kP ⟨ds,[]⟩ x kp) env (w3.putObj (w.heap.size+1) (.loop o)):=by
  intro rc x u' w3 hs;obtain⟨h7,q1⟩:=iM hs;refine⟨xy q1 (i:=0) rfl fun S hp=>hp,fun o=> ?_⟩;have q2:=St.putObj (m':=ZV (w.heap.size+1) o) (o:=.loop o) q1 (fun k=>Iff.rfl) (fun k hk=>hk)<|fun S w' hw=>hw;have q3:St fr.we fr.Se ([xM w.heap.size]++(jM (fun j=>qL u'<|kp.nx+j) ds x 0++(MS (qL u') (xW cx kp).ob++(Ds.map xM++fr.F)))) (RS P (qL u') env (xW cx kp).rg++fr.G) (w3.putObj (w.heap.size+1) (.loop o)):=St.drop (i:=0) q2;refine sV (vs:=qL u') hm h7 (DT hm (fun e he=>Pc (hc.o1 e he)<|PV _ _) (fun e he=>Pc (hc.o2 e he)<|PV _ _) (fun e he o hf=>Pc (hc.r1 e he o hf)<|PV _ _) fun e he o hf=>Pc (hc.r2 e he o hf)<|PV _ _) ?_;have e1:MS (qL u') (xW cx kp).ob=MS (qL u') kp.ob++MS (qL u') cx.ob:=PS;have e2:RS P (qL u') env (xW cx kp).rg=RS P (qL u') env kp.rg++RS P (qL u') env cx.rg:=PS;rw[e1,e2]at q3;have q4:St fr.we fr.Se ((jM (fun j=>qL u'<|kp.nx+j) ds x 0++(MS (qL u') kp.ob++MS (qL u') cx.ob))++([xM w.heap.size]++(Ds.map xM++fr.F))) ((RS P (qL u') env kp.rg++RS P (qL u') env cx.rg)++fr.G) (w3.putObj (w.heap.size+1) (.loop o)):=by
   refine q3.perm ?_;rw[<-O2<|jM _ _ _ _];exact Sj ..
  show St fr.we fr.Se (jM _ ds x 0++(MS (qL u') kp.ob++(MS (qL u') cx.ob++((xM w.heap.size::Ds.map xM)++fr.F)))) (RS P (qL u') env kp.rg++(RS P (qL u') env cx.rg++fr.G)) _;simpa only[O2,PZ,P1]using q4
 refine⟨w.heap.size+1,[aq w.heap.size],((w.alloc (.deferred<|some [])).alloc (.loop rR)),{target:=.fn (.func it.f) cvs.toArray,args:= #[.func (.yield<|w.heap.size+1) #[] #[]]},((w.alloc (.deferred<|some [])).alloc (.loop rR)),it.f,#[.func (.yield<|w.heap.size+1) #[] #[]]++cvs.toArray,((w.alloc (.deferred<|some [])).alloc (.loop rR)),hM,?_,fun _ _=>trivial,?_,fun e=>by simp[Nd.F,Rq]at e,?_⟩
 ·have:a0.eval g=.func (.func it.f) #[] cvs.toArray:=by rw[uj,g3];exact hD
  simp only[resolve,this];simp[go_sem]
 ·simp[invoke,go_sem,xg hb]
 ·have ht:(#[.func (.yield<|w.heap.size+1) #[] #[]]++cvs.toArray:Array Value)=(Value.func (.yield<|w.heap.size+1) #[] #[]::cvs).toArray:=by simp
  rw[ht];refine CallsIn.mono (callsIn_wide.2 hq) ?_;rintro e w3 ⟨⟨v,rfl⟩,u',hs⟩
  cases hP:r' with
  |inl x=>
   rw[hP]at hs h4;obtain⟨hu,hd⟩:=close rR x u' w3 hs;refine⟨none,_,by have:=run_endLoop (P:=P) hu (by rw[hj];simp);rw[hj]at this;exact this,?_⟩;exact⟨g1,w.heap.size::Ds,by show[aq w.heap.size]++a0.defers=_;rw[g2];rfl,hK .n _ h4 _ _ _ (by rw[<-g3];exact Y9.refl)<|by rw[<-g3]at hd;exact hd _⟩
  |inr x=>
   rw[hP]at hs h4;obtain⟨hu,hd⟩:=close rD x u' w3 hs;refine⟨some<|HR τ,_,by have:=run_endLoop (P:=P) hu (by rw[hn];simp);rw[hn]at this;exact this,?_⟩;have fin:∀o,Dj N Q (AB τ) {a0 with defers:=[aq w.heap.size]++a0.defers} (w3.putObj (w.heap.size+1) (.loop o)):=fun o=>⟨g1,w.heap.size::Ds,by show[aq w.heap.size]++a0.defers=_;rw[g2];rfl,hK τ _ h4 _ _ _ (by rw[<-g3];exact Y9.refl)<|by rw[<-g3]at hd;exact hd _⟩
   cases τ with
   |n=>exact wpIn_skip<|fin _
   |x i=>exact wpIn_exit<|fin _
   |r=>exact wpIn_ret<|fin _
   |p q=>cases hG
end
end
section
section
variable{P:Program}{cf:Cf}
theorem qC(hm:P.follows .mixedOrders=true)(hT:ya P cf.tt)(hL:vd P cf.tt)(hC:∀s∈cf.cs,zQ P s)(hX:Vd P cf){n:Nat}:∀(c:Code),aD n c=true->cY P cf n c
 |.skip,_,R,r,fr,cx,σ,K,Q,N,hN,ha,h,Ds,env,w,hK,hR=>fun _ h1 h2 h3=>wpIn_skip ⟨h1,Ds,h2,h3▸hK .n σ h Ds env w Y9.refl hR⟩
 |.label _,_,R,r,fr,cx,σ,K,Q,N,hN,ha,h,Ds,env,w,hK,hR=>fun _ h1 h2 h3=>wpIn_label ⟨h1,Ds,h2,h3▸hK .n σ h Ds env w Y9.refl hR⟩
 |.exit id,_,R,r,fr,cx,σ,K,Q,N,hN,ha,h,Ds,env,w,hK,hR=>fun _ h1 h2 h3=>wpIn_exit ⟨h1,Ds,h2,h3▸hK (.x id) σ h Ds env w Y9.refl hR⟩
 |.ret,_,R,r,fr,cx,σ,K,Q,N,hN,ha,h,Ds,env,w,hK,hR=>fun _ h1 h2 h3=>wpIn_ret ⟨h1,Ds,h2,h3▸hK .r σ h Ds env w Y9.refl hR⟩
 |.scope c,ho,R,r,fr,cx,σ,K,Q,N,hN,ha,h,Ds,env,w,hK,hR=>by
  refine ly<|qC hm hT hL hC hX c ho (K:=K) hN ha h (fun t σ' hk Ds' env' w' hs hR=> ?_) hR;have:=hK t σ' hk Ds' env' w' hs hR;cases t<;>exact this
 |.region id ops dr,ho,R,r,fr,cx,σ,K,Q,N,hN,ha,h,Ds,env,w,hK,hR=>by
  subst hN;refine EC ?_;have:=VZ (id:=id) (N:=N.wd Ds) (fr:=fr.wd Ds) hm hT hL hC hX (Q:=fun e env w=>Q e Ds env w) (kp:=fun q σ=>K (.p q) σ) (k:=fun σ=>K .n σ) (fun q σ' hk env' w' hs hR=>hK (.p q) σ' hk Ds env' w' hs hR) (fun σ' hk env' w' hs hR=>hK .n σ' hk Ds env' w' hs hR) ho h hR;rwa[RB]at this
 |.cond c a b,ho,R,r,fr,cx,σ,K,Q,N,hN,ha,h,Ds,env,w,hK,hR=>by
  have ho:=(IR _ _).mp ho;have hd:N.rd=none\/KZ a=true:=ha.imp id fun h=>((IR _ _).mp h).1;have hf:N.rd=none\/KZ b=true:=ha.imp id fun h=>((IR _ _).mp h).2;simp only[YM]at h;obtain⟨hB,vs,ht⟩:=hR;have hR:vD P (fr.wd Ds) cx σ env w:=⟨hB,vs,ht⟩;obtain⟨S,_,hΓ⟩:=ht.ex;split at h
  ·next hv=>exact V7 (za hv<|zj hΓ c)<|qC hm hT hL hC hX a ho.1 hN hd h hK hR
  ·next hv=>exact Qi (za hv<|zj hΓ c)<|qC hm hT hL hC hX b ho.2 hN hf h hK hR
  ·next x hv=>
   have hx:ev env c=.bool x:=Wi<|za hv<|zj hΓ c;rcases dw h with⟨rfl,h⟩|⟨rfl,h⟩
   ·exact V7 hx<|qC hm hT hL hC hX a ho.1 hN hd h hK hR
   ·exact Qi hx<|qC hm hT hL hC hX b ho.2 hN hf h hK hR
  ·cases h
 |.block id c,ho,R,r,fr,cx,σ,K,Q,N,hN,ha,h,Ds,env,w,hK,hR=>by
  refine mr (qC hm hT hL hC hX c ho (K:=fun t σ=>match t with
   |.x j=>Jw (OW j id) (K .n σ)<|K (.x j) σ
   |t=>K t σ) hN ha h (fun t σ' hk Ds' env' w' hs hR=> ?_) hR)
  cases t with
  |n=>exact hK .n σ' hk Ds' env' w' hs hR
  |r=>exact hK .r σ' hk Ds' env' w' hs hR
  |p q=>exact hK (.p q) σ' hk Ds' env' w' hs hR
  |x j=>
   simp only at hk;show U9 id Q (.exit j) Ds' env' w';simp only[U9];cases hb:OW j id<;>rw[hb]at hk
   ·exact hK (.x j) σ' hk Ds' env' w' hs hR
   ·exact hK .n σ' hk Ds' env' w' hs hR
 |.seq a b,ho,R,r,fr,cx,σ,K,Q,N,hN,ha,h,Ds,env,w,hK,hR=>by
  have ho:=(IR _ _).mp ho;have hd:N.rd=none\/KZ a=true:=ha.imp id fun h=>((IR _ _).mp h).1;have hf:N.rd=none\/KZ b=true:=ha.imp id fun h=>((IR _ _).mp h).2;simp only[YM]at h;split at h
  ·refine iG<|qC hm hT hL hC hX a ho.1 hN hd h (fun t σ' hk Ds' env' w' hs hR=> ?_) hR
   cases t with
   |n=>exact qC hm hT hL hC hX b ho.2 hN hf hk (fun t σ2 hj Ds2 env2 w2 hn hp=>hK t σ2 hj Ds2 env2 w2 (hs.trans hn) hp) hR
   |x j=>exact hK (.x j) σ' hk Ds' env' w' hs hR
   |r=>exact hK .r σ' hk Ds' env' w' hs hR
   |p q=>exact hK (.p q) σ' hk Ds' env' w' hs hR
  ·next s hs=>
   obtain⟨x,h1,h2⟩:=ZP h;obtain⟨hc,hq⟩:=Q4 (ag:=Ju a) (ro:=s.ro) hR
   refine iG (ot (qC hm hT hL hC hX a ho.1 (Q:=fun e Ds env' w=>∃t σt,e=AB t/\(match t with
    |.n=>YM cf b cx σt K
    |t=>K t σt)=some r/\Y9 cx env env'/\vD P (fr.wd Ds) cx σt env' w) hN hd h1 (fun t σ' hk Ds' env' w' hs hR=> ?_) hq) ?_)
   ·obtain⟨y,σt,e1,e2,e3⟩:=be (P:=P) hc hk;cases e1
    have e4:=(e2 fun t σ=>match t with
     |.n=>YM cf b cx σ K
     |t=>K t σ).symm.trans h2
    exact⟨t,σt,rfl,by cases t<;>exact e4,fun e he=>hs e<|OX.2 (.inr he),e3 _ env' w' hR⟩
   ·rintro e Ds' env' w' ⟨t,σt,rfl,hk,hi,hR⟩
    cases t with
    |n=>exact qC hm hT hL hC hX b ho.2 hN hf hk (fun t σ2 hj Ds2 env2 w2 hn hp=>hK t σ2 hj Ds2 env2 w2 (hi.trans hn) hp) hR
    |x j=>exact hK (.x j) σt hk Ds' env' w' hi hR
    |r=>exact hK .r σt hk Ds' env' w' hi hR
    |p q=>exact hK (.p q) σt hk Ds' env' w' hi hR
 |.loop c,ho,R,r,fr,cx,σ,K,Q,N,hN,ha,h,Ds,env,w,hK,hR=>by
  simp only[YM]at h;split at h
  ·cases h
  ·next s hs=>
   obtain⟨hc,hq⟩:=Q4 (ag:=Ju c) (ro:=s.sg.ro) hR;obtain⟨x,h1,h2⟩:=Y2 (P:=P) (cx:=xW cx<|keep σ (Ju c) s.sg.ro) (kp:=⟨(keep σ (Ju c) s.sg.ro).nx,[],[]⟩) h<|UE hc;obtain⟨s0,h3,h4⟩:=ZP h1;refine nq (G:=Nat×kq s.hd.ds) (fun g Ds env' w=>zn _ g.1 g.2=some s0/\Y9 cx env env'/\vD P (fr.wd Ds) (xW cx<|keep σ (Ju c) s.sg.ro) (kP s.hd g.2 ⟨(keep σ (Ju c) s.sg.ro).nx,[],[]⟩) env' w) (fun g=>g.1) (cf.fu,x) ⟨h3,Y9.refl,h2 _ env w hq⟩ ?_;rintro⟨n',x⟩ Ds env1 w ⟨hl,hA,hR⟩
   cases n' with
   |zero=>exact(BD hl).elim
   |succ n'=>
    refine qC hm hT hL hC hX c ho hN ha (AV hl) (fun t σ' hk Ds' env' w' hs hR=> ?_) hR;have hu:Y9 cx env env':=hA.trans fun e he=>hs e<|OX.2 (.inr he);have fin:(∀(y:Ee s.sg.tg) (σt:Sg),some y=some s0->(∀{R':Type} (K:Tg->Sg->Option R'),dm (keep σ (Ju c) s.sg.ro) K s.sg.tg y=K t σt)->vD P (fr.wd Ds') cx σt env' w'->Q (AB t) Ds' env' w'):=fun y σt e1 e2 e3=>by
     cases e1;exact hK t σt (by rw[<-h4];exact(e2 K).symm) Ds' env' w' hu e3
    cases t with
    |n=>
     obtain⟨x',h5,h6⟩:=Y2 (P:=P) (cx:=xW cx<|keep σ (Ju c) s.sg.ro) (kp:=⟨(keep σ (Ju c) s.sg.ro).nx,[],[]⟩) hk<|UE hc;exact⟨(n',x'),⟨h5,hu,h6 _ env' w' hR⟩,Ru n'⟩
    |x j=>
     obtain⟨y,σt,e1,e2,e3⟩:=be (P:=P) hc hk;exact fin y σt e1 e2<|e3 _ env' w' hR
    |r=>
     obtain⟨y,σt,e1,e2,e3⟩:=be (P:=P) hc hk;exact fin y σt e1 e2<|e3 _ env' w' hR
    |p q=>
     obtain⟨y,σt,e1,e2,e3⟩:=be (P:=P) hc hk;exact fin y σt e1 e2<|e3 _ env' w' hR
 |.rangeFunc g ps a c,ho,R,r,fr,cx,σ,K,Q,N,hN,ha,h,Ds,env,w,hK,hR=>by
  have ho:=(IR _ _).mp ho;have hw:=(IR _ _).mp ho.2;simp only[YM]at h;split at h
  ·next f cs s pt hg hs hI=>
   split at h
   ·next it τ sh hD hJ hE=>
    split at h
    ·next y hy=>
     obtain⟨hr,h⟩:=zw h;rw[IR]at hr;obtain⟨hF,hG⟩:=nG hD;subst hG;have hz:ps= #[pt]:=by cases ps;simp_all
     subst hz;have hH:pt<n:=by
      have:=ho.1;simpa using this
     subst hN;exact AZ hX (qC hm hT hL hC hX a hw.1) (qC hm hT hL hC hX c hw.2) hr.1 hr.2 (ha.resolve_right<|by simp[KZ]) hH hg hF hy hE h hK hR
    ·cases h
   ·cases h
  ·cases h
 |.refuse _,_,R,r,fr,cx,σ,K,Q,N,hN,ha,h,_,_,_,_,_=>by cases h
 |.goto _,_,R,r,fr,cx,σ,K,Q,N,hN,ha,h,_,_,_,_,_=>by cases h
end
end
section
def xN:List Nat->World->World
 |[],w=>w
 |D::Ds,w=>xN Ds<|w.putObj D (.deferred none)
def Xk:List Nat->World->Prop
 |[],_=>True
 |D::Ds,w=>w.heap[D]? =some (.deferred<|some [])/\Xk Ds (w.putObj D (.deferred none))
def NR(D:Nat):MF where
 blk k:=k=D
 p _ w:=w.heap[D]? =some (.deferred none)
 keep h _ hb:=(hb D rfl).trans h
 sub h _:=h
 lt h k hk:=by subst hk;exact(Ph.1 h).1
section
variable{P:Program}{cf:Cf}{fr:Fr}{cx σ:Sg}{env:yb}
theorem kM:∀{Ds:List Nat}{w:World},vD P (fr.wd Ds) cx σ env w->Xk Ds w/\vD P fr cx σ env (xN Ds w)
 |[],w,h=>⟨trivial,h⟩
 |D::Ds,w,h=>by
  have h1:=Ug h (Nm) fun S hp=>hp;have h2:=UO (A:=[]) (m':=NR D) h (fun k=>Iff.rfl) (fun k h=>h) fun S w' h=>h;have h3:vD P (fr.wd Ds) cx σ env (w.putObj D (.deferred none)):=by
   obtain⟨hB,vs,ha⟩:=h2;refine⟨hB,vs,?_⟩;have h4:St fr.we fr.Se ((MS vs σ.ob++MS vs cx.ob)++([NR D]++(Ds.map xM++fr.F))) (RS P vs env σ.rg++(RS P vs env cx.rg++fr.G)) (w.putObj D (.deferred none)):=by simp_all
   have h5:=St.dropM h4;show St fr.we fr.Se (MS vs σ.ob++(MS vs cx.ob++(Ds.map xM++fr.F))) (RS P vs env σ.rg++(RS P vs env cx.rg++fr.G)) _;simp_all
  obtain⟨h4,h5⟩:=kM h3;exact⟨⟨h1,h4⟩,h5⟩
theorem qD{F:Fence}{n:Nat}{fn:Func}{tmps:Array Value}{Q:Ending->World->Prop}:∀{Ds:List Nat}{w:World},Xk Ds w->(∃v,(results fn tmps).run P (xN Ds w)=.ok v (xN Ds w)/\Q (.returned v) (xN Ds w))->LeavesInM F n P fn tmps Q (Ds.map aq) .returning w
 |[],w,_,h=>h
 |D::Ds,w,hm,h=>⟨by simp,.inl ⟨D,_,rfl,run_takeDeferred hm.1,qD hm.2 h⟩⟩
theorem W9{f:FuncId}{fn:Func}{c:Code}{args:List Value}{w:World}{Q:Ending->World->Prop}(hf:P.funcs[f]? =some fn)(hb:fn.body=some c)(hn:Tv args.length fn.ntmps=true)
 (h:∀rest,JO P (Nd.of fn.ntmps) c (fun e Ds env w=>(e=.normal\/e=.ret)/\Xk Ds w/\∀a:Act,zg a=env->∃v,(results fn a.tmps).run P (xN Ds w)=.ok v (xN Ds w)/\Q (.returned v) (xN Ds w)) [] (L ((args.zipIdx 0).map fun x=>(x.2,x.1)) rest) w):
 Calls P f args.toArray w Q:=by
 have hn:=PC hn;refine callsIn_wide.1<|callsIn_of_wp_marks (n:=0) hf hb trivial ?_;have ha:qH (zg ⟨args.toArray++RE (fn.ntmps-args.toArray.size) undef,[]⟩) ((args.zipIdx 0).map fun x=>(x.2,x.1)):=by
  refine jb args 0 _ fun j=> ?_;rw[kL];simp_all
 refine wpIn_mono (h _ _ (by simp;lia) rfl (qP ha).symm) ?_;rintro e a' w' ⟨q1,Ds,q2,he,hm,hv⟩;obtain⟨v,h1,h2⟩:=hv a' rfl;rcases he with rfl|rfl
 ·show LeavesInM _ _ P fn a'.tmps Q a'.defers .returning w';rw[q2,Ps];exact qD hm ⟨v,h1,h2⟩
 ·show LeavesInM _ _ P fn a'.tmps Q a'.defers .returning w';rw[q2,Ps];exact qD hm ⟨v,h1,h2⟩
theorem XX{F:Fence}{n:Nat}{fn:Func}{tmps:Array Value}{ch:List PanicEntry}{Q:Ending->World->Prop}:∀{Ds:List Nat}{w:World},Xk Ds w->Q (.panicked ch) (xN Ds w)->LeavesInM F n P fn tmps Q (Ds.map aq) (.panicking ch) w
 |[],w,_,h=>h
 |D::Ds,w,hm,h=>⟨by simp,.inl ⟨D,_,rfl,run_takeDeferred hm.1,XX hm.2 h⟩⟩
theorem lX{f:FuncId}{fn:Func}{c:Code}{args:List Value}{w:World}{Q:Ending->World->Prop}(hf:P.funcs[f]? =some fn)(hb:fn.body=some c)(hn:Tv args.length fn.ntmps=true)
 (h:∀rest,JO P (Nd.of fn.ntmps) c (fun e Ds env w=>Xk Ds w/\(((e=.normal\/e=.ret)/\∀a:Act,zg a=env->∃v,(results fn a.tmps).run P (xN Ds w)=.ok v (xN Ds w)/\Q (.returned v) (xN Ds w))\/∃ch,e=.panic ch/\Q (.panicked ch) (xN Ds w))) [] (L ((args.zipIdx 0).map fun x=>(x.2,x.1)) rest) w):
 Calls P f args.toArray w Q:=by
 have hn:=PC hn;refine callsIn_wide.1<|callsIn_of_wp_marks (n:=0) hf hb trivial ?_;have ha:qH (zg ⟨args.toArray++RE (fn.ntmps-args.toArray.size) undef,[]⟩) ((args.zipIdx 0).map fun x=>(x.2,x.1)):=by
  refine jb args 0 _ fun j=> ?_;rw[kL];simp_all
 refine wpIn_mono (h _ _ (by simp[Nd.of];lia) rfl (qP ha).symm) ?_;rintro e a' w' ⟨q1,Ds,q2,hm,⟨he,hv⟩|⟨ch,rfl,hq⟩⟩
 ·obtain⟨v,h1,h2⟩:=hv a' rfl;rcases he with rfl|rfl
  ·show LeavesInM _ _ P fn a'.tmps Q a'.defers .returning w';rw[q2,Ps];exact qD hm ⟨v,h1,h2⟩
  ·show LeavesInM _ _ P fn a'.tmps Q a'.defers .returning w';rw[q2,Ps];exact qD hm ⟨v,h1,h2⟩
 ·show LeavesInM _ _ P fn a'.tmps Q a'.defers (.panicking ch) w';rw[q2,Ps];exact XX hm hq
end
end
section
section
variable{P:Program}{cf:Cf}{fr:Fr}{σ:Sg}{vs:Nat->Value}{env:yb}{w:World}{R:Type}{r:R}
theorem Vm{rest:yb}:∀{l:List Value}{i j:Nat}{v:Value},l[j]? =some v->L ((l.zipIdx i).map fun x=>(x.2,x.1)) rest (i+j)=v
 |a::l,i,0,v,h=>by
  simp only[PE,O6]at h;simp[L,h]
 |a::l,i,j+1,v,h=>by
  simp only[List.zipIdx_cons,PA,L];rw[oT (show i+(j+1)≠i by lia)];have:=Vm (rest:=rest) (i:=i+1) (by simpa using h);grind
theorem Q7:∀{dom:List AM}{x:uC dom}{i:Nat}{l:List Value},l.length=dom.length->(∀j v,l[j]? =some v->vs (i+j)=v)->MS vs (qg dom x i).2=wH dom x l
 |[],_,_,_,_,_=>rfl
 |a::dom,x,i,[],hl,_=>by cases hl
 |a::dom,x,i,v::l,hl,h=>by
  have ih:MS vs (qg dom x.2<|i+1).2=wH dom x.2 l:=Q7 (by simpa using hl) fun j v hj=>by
   have:=h (j+1) v (by simpa using hj);grind
  have h0:=h 0 v rfl
  cases a with
  |own t E=>
   show mO t.rep E (vs i) x.1::MS vs (qg dom x.2<|i+1).2=mO t.rep E v x.1::wH dom x.2 l;grind
  |var t E=>
   show mP t.rep.c E (vs i) x.1::MS vs (qg dom x.2<|i+1).2=mP t.rep.c E v x.1::wH dom x.2 l;grind
  |_=>exact ih
theorem Qf{S:Nat->Prop}:∀{dom:List AM}{x:uC dom}{i:Nat}{l:List Value},l.length=dom.length->(∀j v,l[j]? =some v->vs (i+j)=v/\env (i+j)=v)->ze S (wO P dom x l) w->ze S (RS P vs env (qg dom x i).1) w
 |[],_,_,_,_,_,_=>trivial
 |a::dom,x,i,[],hl,_,_=>by cases hl
 |a::dom,x,i,v::l,hl,h,hA=>by
  have ih:=Qf (by simpa using hl) (fun j v hj=>by
   have:=h (j+1) v (by simpa using hj);rw[show i+1+j=i+(j+1)by lia];exact this) hA.2
  have h0:vs i=v/\env i=v:=h 0 v rfl;have ha:=hA.1
  cases a with
  |d t=>exact⟨show(fV t.rep x.1<|env i).p S w by rw[h0.2];exact ha,ih⟩
  |q t=>exact⟨show(fP t.rep x.1<|env i).p S w by rw[h0.2];exact ha,ih⟩
  |own t E=>exact⟨show env i=vs i by rw[h0.1,h0.2],ih⟩
  |var t E=>
   obtain⟨b,hb⟩:=ha;exact⟨⟨show env i=vs i by rw[h0.1,h0.2],b,h0.1.trans hb⟩,ih⟩
  |fn dom' cod'=>exact⟨show(LZ P dom' cod' x.1<|env i).p S w by rw[h0.2];exact ha,ih⟩
theorem Qn:∀{dom:List AM}{x:uC dom}{i:Nat},∀e∈(qg dom x i).2,e.1<i+dom.length
 |[],_,_,e,he=>absurd he UV
 |a::dom,x,i,e,he=>by
  have ih:∀e∈(qg dom x.2<|i+1).2,e.1<i+(a::dom).length:=fun e he=>by
   have:=Qn e he;grind
  cases a with
  |own t E=>
   rcases OY.1 (show e∈(i,Od.own t E x.1)::(qg dom x.2<|i+1).2 from he)with rfl|he
   ·simp_all
   ·grind
  |var t E=>
   rcases OY.1 (show e∈(i,Od.var t E x.1)::(qg dom x.2<|i+1).2 from he)with rfl|he
   ·simp_all
   ·grind
  |_=>exact ih e he
theorem Wj:∀{dom:List AM}{x:uC dom}{i:Nat},∀e∈(qg dom x i).1,∀p,xz e.2.2=some p->p<i+dom.length
 |[],_,_,e,he=>absurd he UV
 |a::dom,x,i,e,he=>by
  intro p hp;have ih:∀e∈(qg dom x.2<|i+1).1,∀p,xz e.2.2=some p->p<i+(a::dom).length:=fun e he p hp=>by
   have:=Wj e he p hp;grind
  cases a with
  |own t E=>
   rcases OY.1 (show e∈(i,0,Dv.ow i)::(qg dom x.2<|i+1).1 from he)with rfl|he
   ·cases hp;simp only[FS];lia
   ·grind
  |var t E=>
   rcases OY.1 (show e∈(i,0,Dv.vs i t)::(qg dom x.2<|i+1).1 from he)with rfl|he
   ·cases hp;simp only[FS];lia
   ·grind
  |d t=>
   rcases OY.1 (show e∈(i,0,Dv.d t x.1)::(qg dom x.2<|i+1).1 from he)with rfl|he
   ·cases hp
   ·exact ih e he p hp
  |q t=>
   rcases OY.1 (show e∈(i,0,Dv.q t x.1)::(qg dom x.2<|i+1).1 from he)with rfl|he
   ·cases hp
   ·exact ih e he p hp
  |fn d c=>
   rcases OY.1 (show e∈(i,0,Dv.fp d c x.1)::(qg dom x.2<|i+1).1 from he)with rfl|he
   ·cases hp
   ·exact ih e he p hp
theorem jt:∀(l:List ResultVar) (ms:List RM) {σ:Sg},vD P fr ⟨0,[],[]⟩ σ env w->vD P fr ⟨0,[],[]⟩ (ki σ l ms) env w
 |[],_,_,h=>by unfold ki;exact h
 |.tmp t::l,[],_,h=>by unfold ki;exact h
 |.tmp t::l,.d _::ms,_,h=>by unfold ki;exact jt l ms<|U3 _ h
 |.tmp t::l,.own _ _::ms,_,h=>by unfold ki;exact jt l ms h
 |.tmp t::l,.var _ _::ms,_,h=>by unfold ki;exact jt l ms h
 |.cell t E::l,[],_,h=>by unfold ki;exact h
 |.cell t E::l,m::ms,_,h=>by unfold ki;exact jt l ms h
theorem tu(hT:ya P cf.tt){rv:ResultVar}{m:RM}{k:m.D->List Nat->Option R}(h:VP cf σ rv m k=some r):∃x os,k x os=some r/\
 ∀vs (fr:Fr) env (A:List MF) (Γ:List FF) w (os':List Nat),(∀S w,ze S Γ w->∀t,Lk P vs env S w ⟨0,[],[]⟩ σ t)->(∀o∈os,ZG os' o=false)->St fr.we fr.Se (A++OS vs fr ⟨0,[],[]⟩ (xu σ.ob os')) Γ w->
  ∃v,CD P w env rv v/\St fr.we fr.Se (Lr m x v++(A++OS vs fr ⟨0,[],[]⟩ (xu σ.ob<|os++os'))) (LN m x v++Γ) w:=by
 cases rv with
 |tmp t=>
  cases m with
  |d s=>
   simp only[VP]at h;have hc:=h;obtain⟨y,h,hy⟩:=rS h;refine⟨y,[],h,fun vs fr env A Γ w os' hl _ ha=>⟨env t,rfl,?_⟩⟩;refine ha.weak fun S w hΓ=>⟨?_,hΓ⟩
   cases hg:get ⟨0,[],[]⟩ σ t 0 with
   |none=>rw[hg]at hc;cases hc
   |some v=>exact hy P vs S w v _ hg<|hl S w hΓ t 0 v hg
  |own s E=>
   simp only[VP]at h;obtain⟨x,os,h1,_,h2,h3⟩:=U2 h;refine⟨x,os,h1,fun vs fr env A Γ w os' hl hn ha=>⟨env t,rfl,?_⟩⟩;exact h3 P vs fr env A Γ w os' (fun S w hΓ=>hl S w hΓ t) hn ha
  |var s E=>
   simp only[VP]at h;obtain⟨x,os,h1,_,h2,h3⟩:=U2 h;refine⟨x,os,h1,fun vs fr env A Γ w os' hl hn ha=>⟨env t,rfl,?_⟩⟩;have h4:=h3 P vs fr env A Γ w os' (fun S w hΓ=>hl S w hΓ t) hn ha;exact h4.weak fun S w hΓ=>⟨(h2 P vs env S w<|hl S w hΓ).2,hΓ⟩
 |cell t E=>
  cases m with
  |own s E'=>simp only[VP]at h;cases h
  |var s E'=>simp only[VP]at h;cases h
  |d s=>
   simp only[VP]at h;split at h
   ·next o s0 ti hg he=>
    split at h
    ·next s' E' z ho=>
     obtain⟨hE,h1⟩:=zw h;have hE:=zr hE;subst hE;obtain⟨e,h2⟩:=zx h1;cases e;obtain⟨e,h3⟩:=zx h2;cases e;refine⟨_,[o],h3,fun vs fr env A Γ w os' hl hn ha=> ?_⟩;have hp:=xo (vs:=vs) (fr:=fr) (cx:=⟨0,[],[]⟩)<|(wi<|hn o<|Nm).trans ho;have h3:=St.mid<|St.perm ha<|Pw _ hp;obtain⟨S,_,hΓ⟩:=ha.ex;obtain⟨hv,b,hb⟩:=hl S w hΓ t 0 _ hg;obtain⟨⟨zero,ht,_⟩,_⟩:=hT E ti he;have h4:St fr.we fr.Se (mP ti.ty.rep.c E (vs o) z::(A++OS vs fr ⟨0,[],[]⟩ (zD (xu σ.ob os') o))) Γ w:=h3;obtain⟨b',hd,h5⟩:=h4.openP 0 rfl;rw[hb]at hd;cases hd;refine oo 0 h5 rfl (hv.trans hb) ht fun v hs hr=>⟨v,hr,?_⟩;exact St.drop (i:=0) hs
    ·cases h
   ·cases h
theorem Qo(hT:ya P cf.tt):∀{rvs:List ResultVar}{cod:List RM}{k:uE cod->List Nat->Option R},Vq cf σ rvs cod k=some r->∃x os,k x os=some r/\
 ∀vs (fr:Fr) env (Γ:List FF) w,(∀S w,ze S Γ w->∀t,Lk P vs env S w ⟨0,[],[]⟩ σ t)->St fr.we fr.Se (OS vs fr ⟨0,[],[]⟩ σ.ob) Γ w->
  ∃us,us.length=cod.length/\Zl P w env rvs us/\St fr.we fr.Se (wI cod x us++OS vs fr ⟨0,[],[]⟩ (xu σ.ob os)) (wC cod x us++Γ) w
 |[],[],k,h=>⟨(),[],h,fun vs fr env Γ w _ ha=>⟨[],rfl,trivial,ha⟩⟩
 |[v],[m],k,h=>by
  obtain⟨x,os,h1,h2⟩:=tu hT (h:VP cf σ v m k=some r);refine⟨x,os,h1,fun vs fr env Γ w hl ha=> ?_⟩;obtain⟨u,h3,h4⟩:=h2 vs fr env [] Γ w [] hl (fun _ _=>rfl) ha;rw[Ps]at h4;exact⟨[u],rfl,⟨h3,trivial⟩,h4⟩
 |v::v'::rvs,m::m'::ms,k,h=>by
  obtain⟨x,o,h1,h2⟩:=tu hT (h:VP cf σ v m _=some r);obtain⟨y,os,h3,h4⟩:=Qo hT h1;obtain⟨hn,h3⟩:=zw h3;refine⟨(x,y),o++os,h3,fun vs fr env Γ w hl ha=> ?_⟩;obtain⟨us,h5,h6,h7⟩:=h4 vs fr env Γ w hl ha;obtain⟨u,h8,h9⟩:=h2 vs fr env (wI (m'::ms) y us) (wC (m'::ms) y us++Γ) w os (fun S w hΓ=>hl S w<|ze.right hΓ) (Uj hn) h7;refine⟨u::us,by simpa using h5,⟨h8,h6⟩,?_⟩;show St _ _ ((Lr m x u++wI (m'::ms) y us)++_) ((LN m x u++wC (m'::ms) y us)++Γ) w;rw[O2,O2];exact h9
 |[],_::_,_,h=>by cases h
 |[_],[],_,h=>by cases h
 |[_],_::_::_,_,h=>by cases h
 |_::_::_,[],_,h=>by cases h
 |_::_::_,[_],_,h=>by cases h
theorem tU(hm:P.follows .mixedOrders=true)(hT:ya P cf.tt)(hL:vd P cf.tt)(hC:∀s∈cf.cs,zQ P s)(hX:Vd P cf){s:jo}{fn:Func}
 (hf:P.funcs[s.f]? =some fn) (hb:Y1 P s.f=true) (hk:s.bk=0) (hM:∀x r,s.M x=some r->mU cf fn s.dom s.cod x=some r):zQ P s:=by
 refine⟨hb,fun x r h vs hd=> ?_⟩;rw[hk];show Ud P s.f vs.toArray (wH s.dom x vs) (wO P s.dom x vs) wQ (fun us=>wI s.cod r us) (fun us=>wC s.cod r us) (fun us=>us.length=s.cod.length);have h:=hM x r h;unfold mU at h;split at h
 ·next c hc=>
  obtain⟨ho,h⟩:=zw h;rw[IR]at ho;intro we Se F G w hg;refine W9 hf hc (by rw[hd];exact ho.2) fun rest=> ?_;refine qC (fr:=⟨we,Se,F,G⟩) (N:=Nd.of fn.ntmps) hm hT hL hC hX c ho.1 rfl (.inl rfl) h (fun t σ' hk Ds env w _ hR=> ?_) ?_
  ·obtain⟨hi,hR⟩:=kM hR
   have fin:Vq cf (ki σ' fn.results.toList s.cod) fn.results.toList s.cod (fun y _=>some y)=some r->∀a:Act,zg a=env->
    ∃v,(results fn a.tmps).run P (xN Ds w)=.ok v (xN Ds w)/\∃u:List Value,SU v=.returned (wQ u)/\u.length=s.cod.length/\St we Se (wI s.cod r u++F) (wC s.cod r u++G) (xN Ds w):=fun h a ha=>by
    have hl:=jt fn.results.toList s.cod hR;generalize ki σ' fn.results.toList s.cod=σ1 at h hl;obtain⟨hB,vs,hg⟩:=hl;obtain⟨y,os,e1,e2⟩:=Qo hT h;cases e1;obtain⟨us,h1,h2,h3⟩:=e2 vs ⟨we,Se,F,G⟩ env _ _ (fun S w hΓ t=>qZ hΓ t) hg;refine⟨_,qz (rs:=fn.results.toList) (by rw[RB])<|ha▸h2,us,rfl,h1,?_⟩;exact(St.dropM (B:=MS vs<|xu σ1.ob os) h3).weak fun S w hΓ=>ze.append (ze.left hΓ)<|ze.right<|ze.right hΓ
   cases t with
   |n=>exact⟨.inl rfl,hi,fin hk⟩
   |r=>exact⟨.inr rfl,hi,fin hk⟩
   |x j=>cases hk
   |p q=>cases hk
  ·have e0:∀j v,vs[j]? =some v->vs.getD (0+j) undef=v:=fun j v hj=>by rw[Pk,PY,hj];rfl
   refine⟨⟨fun e he=> ?_,fun _ he=>absurd he UV,fun e he p hp=> ?_,fun _ he=>absurd he UV⟩,fun o=>vs.getD o undef,?_⟩
   ·have:=Qn e he;simpa using this
   ·have:=Wj e he p hp;simpa using this
   ·have e1:MS (fun o=>vs.getD o undef) (qg s.dom x 0).2=wH s.dom x vs:=Q7 hd e0;show St we Se (MS _ (qg s.dom x 0).2++([]++F)) _ w;rw[e1];exact hg.weak fun S w hΓ=>ze.append (Qf hd (fun j v hj=>⟨e0 j v hj,Vm hj⟩)<|ze.left hΓ)<|ze.right hΓ
 ·cases h
theorem eB{S:Nat->Prop}{pn:Nat->Value}:∀{dom:List AM}{i:Nat},(∀j,j<dom.length->env (i+j)=pn (i+j))->ze S (RS P vs env<|WY pn dom i) w
 |[],_,_=>trivial
 |a::dom,i,h=>by
  have ih:ze S (RS P vs env<|WY pn dom<|i+1) w:=eB fun j hj=>by
   have:=h (j+1) (by simp only[FS];lia);grind
  cases a with
  |own t E=>exact⟨h 0 (by simp),ih⟩
  |var t E=>exact⟨h 0 (by simp),ih⟩
  |_=>exact ih
theorem Zv{S:Nat->Prop}{l:List Value}:∀{dom:List AM}{i:Nat}{us:List Value},ze S (RS P vs env<|WY (fun o=>l.getD o undef) dom i) w->Zl P w env (YX dom i) us->us=kN dom (l.drop i)
 |[],_,[],_,_=>rfl
 |[],_,_::_,_,h=>h.elim
 |a::dom,i,us,hA,h=>by
  have e0:(l.drop i).headD undef=l.getD i undef:=by simp_all
  have e1:(l.drop i).tail=l.drop (i+1):=by rw[List.tail_drop]
  cases a with
  |own t E=>
   cases us with
   |nil=>exact h.elim
   |cons u us=>
    have h1:env i=u:=h.1;have h2:env i=l.getD i undef:=hA.1;have ih:=Zv (dom:=dom) (i:=i+1) hA.2 h.2;show u::us=(l.drop i).headD undef::kN dom (l.drop i).tail;simp_all
  |var t E=>
   cases us with
   |nil=>exact h.elim
   |cons u us=>
    have h1:env i=u:=h.1;have h2:env i=l.getD i undef:=hA.1;have ih:=Zv (dom:=dom) (i:=i+1) hA.2 h.2;show u::us=(l.drop i).headD undef::kN dom (l.drop i).tail;simp_all
  |d t=>
   have ih:=Zv (dom:=dom) (i:=i+1) hA h;show us=kN dom (l.drop i).tail;simp_all
  |q t=>
   have ih:=Zv (dom:=dom) (i:=i+1) hA h;show us=kN dom (l.drop i).tail;rw[e1];exact ih
  |fn d c=>
   have ih:=Zv (dom:=dom) (i:=i+1) hA h;show us=kN dom (l.drop i).tail;rw[e1];exact ih
theorem Xh:∀{a b:List ResultVar}{us:List Value},Zl P w env (a++b) us->Zl P w env a (us.take a.length)/\Zl P w env b (us.drop a.length)
 |[],b,us,h=>⟨trivial,h⟩
 |r::a,b,[],h=>h.elim
 |r::a,b,u::us,h=>by
  obtain⟨h1,h2⟩:=Xh h.2;exact⟨⟨h.1,h1⟩,h2⟩
theorem Zw{pn:Nat->Value}:∀{dom:List AM}{i:Nat},∀e∈WY pn dom i,xz e.2.2=none
 |[],_,e,he=>absurd he UV
 |a::dom,i,e,he=>by
  cases a with
  |own t E=>
   rcases OY.1 (show e∈(i,0,Dv.pin<|pn i)::WY pn dom (i+1)from he)with rfl|he
   ·rfl
   ·exact Zw e he
  |var t E=>
   rcases OY.1 (show e∈(i,0,Dv.pin<|pn i)::WY pn dom (i+1)from he)with rfl|he
   ·rfl
   ·exact Zw e he
  |d t=>exact Zw (dom:=dom) e he
  |q t=>exact Zw (dom:=dom) e he
  |fn d c=>exact Zw (dom:=dom) e he
theorem Fx(hm:P.follows .mixedOrders=true)(hT:ya P cf.tt)(hL:vd P cf.tt)(hC:∀s∈cf.cs,zQ P s)(hX:Vd P cf){s:jo}{fn:Func}
 (hf:P.funcs[s.f]? =some fn) (hb:Y1 P s.f=true) (hM:∀pn x r,s.M x=some r->BE cf fn s.dom s.cod s.bk pn x=some r):zQ P s:=by
 refine⟨hb,fun x r h vs hd=> ?_⟩;have h:=hM (fun o=>vs.getD o undef) x r h;unfold BE at h;split at h
 ·next c hc=>
  obtain⟨ho,h⟩:=zw h;simp only[IR]at ho;obtain⟨⟨⟨⟨hx,hy⟩,hq⟩,hE⟩,hr⟩:=ho;have hq:=zr hq;have hr:0<s.bk:=Nat.blt_eq.mp hr;obtain⟨b,hz⟩:∃b,s.bk=b+1:=⟨s.bk-1,by lia⟩;rw[hz];intro we Se F G w hl;refine W9 hf hc (by rw[hd];exact hy) fun rest=> ?_;have e0:∀j v,vs[j]? =some v->vs.getD (0+j) undef=v:=fun j v hj=>by simp_all
  refine qC (fr:=⟨we,Se,F,G⟩) (N:=Nd.of fn.ntmps) hm hT hL hC hX c hx rfl (.inl rfl) h (fun t σ' hk Ds env w _ hR=> ?_) ?_
  ·obtain⟨hs,hR⟩:=kM hR
   have fin:Vq cf (ki σ' (fn.results.toList++YX s.dom 0) s.cod) (fn.results.toList++YX s.dom 0) s.cod (fun y _=>some y)=some r->∀a:Act,zg a=env->
    ∃v,(results fn a.tmps).run P (xN Ds w)=.ok v (xN Ds w)/\∃u:List Value,SU v=.returned (sn (b+1) s.cod.length u)/\aK s.dom vs (b+1) s.cod.length u/\St we Se (wI s.cod r u++F) (wC s.cod r u++G) (xN Ds w):=fun h a ha=>by
    obtain⟨ht,vs0,hi⟩:=hR;obtain⟨S0,_,hA⟩:=hi.ex;have hu:ze S0 (RS P vs0 env<|WY (fun o=>vs.getD o undef) s.dom 0) _:=ze.left<|ze.right hA;have hD:vD P ⟨we,Se,F,G⟩ ⟨0,[],[]⟩ σ' env (xN Ds w):=⟨⟨ht.o1,fun _ he=>absurd he UV,ht.r1,fun _ he=>absurd he UV⟩,vs0,hi.weak fun S w ha=>ze.append (ze.left ha)<|ze.right<|ze.right ha⟩;have hv:=jt (fn.results.toList++YX s.dom 0) s.cod hD;generalize ki σ' (fn.results.toList++YX s.dom 0) s.cod=σ1 at h hv;obtain⟨hB,vs1,hl⟩:=hv;obtain⟨y,os,e1,e2⟩:=Qo hT h;cases e1;obtain⟨us,h1,h2,h3⟩:=e2 vs1 ⟨we,Se,F,G⟩ env _ _ (fun S w hΓ t=>qZ hΓ t) hl;obtain⟨h4,h5⟩:=Xh h2;have hn:s.cod.length-(b+1)=fn.results.toList.length:=by lia
    have hg:=Zv hu h5;rw[Tz]at hg;refine⟨_,qz (rs:=fn.results.toList) (by rw[RB])<|ha▸h4,us,?_,⟨h1,by rw[hn];exact hg⟩,?_⟩
    ·show SU _=.returned (wQ<|us.take<|s.cod.length-(b+1));rw[hn]
    ·exact(St.dropM (B:=MS vs1<|xu σ1.ob os) h3).weak fun S w hΓ=>ze.append (ze.left hΓ)<|ze.right<|ze.right hΓ
   cases t with
   |n=>exact⟨.inl rfl,hs,fin hk⟩
   |r=>exact⟨.inr rfl,hs,fin hk⟩
   |x j=>cases hk
   |p q=>cases hk
  ·refine⟨⟨fun e he=> ?_,fun _ he=>absurd he UV,fun e he p hp=> ?_,fun e he p hp=> ?_⟩,fun o=>vs.getD o undef,?_⟩
   ·have:=Qn e he;simpa using this
   ·have:=Wj e he p hp;simpa using this
   ·rw[Zw e he]at hp;cases hp
   ·have e1:MS (fun o=>vs.getD o undef) (qg s.dom x 0).2=wH s.dom x vs:=Q7 hd e0;show St we Se (MS _ (qg s.dom x 0).2++([]++F)) _ w;rw[e1];refine hl.weak fun S w hΓ=>ze.append (Qf hd (fun j v hj=>⟨e0 j v hj,Vm hj⟩)<|ze.left hΓ)<|ze.append (eB fun j hj=> ?_)<|ze.right hΓ;have hw:vs[j]? =some (vs[j]'(by lia)):=Pb (by lia);show L _ _ (0+j)=vs.getD (0+j) undef;rw[e0 j _ hw];exact Vm hw
 ·cases h
end
end
section
section
variable{P:Program}
def zc:Ty->List Value
 |.i=>[.int .i64 0]
 |.u=>[.int .u64 0]
 |.b=>[.bool false]
 |.ch=>[.int .u8 0]
 |.tx=>[.string ByteArray.empty]
 |.l _=>[.slice none 0 0]
 |.p s t=>zc s++zc t
 |.a k t=>(Pv k<|zc t).flatten
 |.po _=>[.pointer none]
 |.tr=>[.pointer none]
 |.er=>[.nilIface]
 |.w1 t=>zc t
theorem lh{α:Type}{e:zv α}{S:Nat->Prop}{w:World}{x:α}{c:List Value}(h:e.p S x c w):∀k,zX e S (Pv k x) (Pv k c).flatten w
 |0=>rfl
 |k+1=>⟨c,_,rfl,h,lh h k⟩
theorem lA(S:Nat->Prop)(w:World):∀t:Ty,t.rep.p S t.z (zc t) w
 |.i=>⟨rfl,show(-9223372036854775808:Int)<=0 by decide,show 0<=9223372036854775807 by decide⟩
 |.u=>⟨rfl,show 0<18446744073709551616 by decide⟩
 |.b=>rfl
 |.ch=>⟨rfl,show 0<256 by decide⟩
 |.tx=>⟨ByteArray.empty,rfl,rfl,by decide⟩
 |.l _=>⟨_,rfl,gq.nil⟩
 |.p s t=>⟨_,_,rfl,lA S w s,lA S w t⟩
 |.a k t=>⟨Sp,lh (lA S w t) k⟩
 |.po _=>rfl
 |.tr=>rfl
 |.er=> .inl ⟨rfl,rfl⟩
 |.w1 t=>lA S w t
theorem Fy(t:Ty):(zc t).length=t.n:=by
 have:=t.rep.len<|lA (fun _=>True) default t;rw[this,t.n_rep]
theorem rV:∀{k:Nat}{t:Ty}{i:Nat}{f:Fl t.D},yq k t i=some f->∃pre post,zc t=pre++zc f.f++post/\pre.length=f.off
 |0,.w1 t,0,f,h=>by
  simp only[yq,O6]at h;subst h;exact⟨[],[],by simp[zc],rfl⟩
 |0,.w1 t,_+1,_,h=>by cases h
 |0,.i,_,_,h=>by cases h
 |0,.u,_,_,h=>by cases h
 |0,.b,_,_,h=>by cases h
 |0,.l _,_,_,h=>by cases h
 |0,.p _ _,_,_,h=>by cases h
 |0,.a _ _,_,_,h=>by cases h
 |0,.ch,_,_,h=>by cases h
 |0,.tx,_,_,h=>by cases h
 |0,.po _,_,_,h=>by cases h
 |0,.tr,_,_,h=>by cases h
 |0,.er,_,_,h=>by cases h
 |1,t,i,f,h=>by
  unfold yq at h;cases hb:OW i 0<;>rw[hb]at h
  ·cases h
  ·simp only[cond_true,O6]at h;subst h;exact⟨[],[],by simp[Fl.self],rfl⟩
 |k+2,.p s t,0,f,h=>by
  simp only[yq,O6]at h;subst h;exact⟨[],zc t,by simp[zc],rfl⟩
 |k+2,.p s t,i+1,f,h=>by
  simp only[yq]at h;split at h
  ·next f' hf=>
   simp only[O6]at h;subst h;obtain⟨pre,post,h1,h2⟩:=rV hf;refine⟨zc s++pre,post,?_,by rw[O1,Fy,h2]⟩;simp only[zc];rw[h1];simp only[O2]
  ·cases h
 |k+2,.i,i,f,h=>by simp[yq]at h
 |k+2,.u,i,f,h=>by simp[yq]at h
 |k+2,.b,i,f,h=>by simp[yq]at h
 |k+2,.l _,i,f,h=>by simp[yq]at h
 |k+2,.a _ _,i,f,h=>by simp[yq]at h
def C1(P:Program)(t n:Nat):(List (Option Nat)×List (Option<|Nat×Bool×Nat))×Option (List<|Option<|Nat×Nat):=(((P4<|n+(1-n)).map fun i=>Ja P t i,(P4<|n+(1-n)).map fun i=>tf P t i),match L5 P t with
 |some a=>some<|a.toList.map some
 |none=>none)
def sx(ty:Ty)(n:Nat):(List (Option Nat)×List (Option<|Nat×Bool×Nat))×Option (List<|Option<|Nat×Nat):=(((P4<|n+(1-n)).map fun i=>(yq n ty i).map (·.off),(P4<|n+(1-n)).map fun i=>(yq n ty i).map fun f=>(f.off,f.f.rep.agg,f.f.n)),some<|(P4<|n+(1-n)).map fun i=>(yq n ty i).map fun f=>(f.off,f.f.n))
def aG(P:Program)(t:TypeId)(ti:TI):Prop:=match ti.k with
 |.int k=>P.underlying t=some (.int k)
 |.bool=>P.underlying t=some .bool
 |.str=>P.underlying t=some .string
 |.sl E=>P.underlying t=some (.slice E)/\∃e,ti.ty=.l e
 |.st n=>ti.ty.rep.agg=true/\C1 P t n=sx ti.ty n
 |.ar k E=>ti.ty.rep.agg=true/\P.underlying t=some (.array k E)
 |.pt E=>P.underlying t=some (.pointer E)
 |.ie=>P.underlying t=some (.interface<|P.methodsAt t)
theorem gu:∀{n:Nat}{t:Ty}{i:Nat}{f:Fl t.D},0<n->yq n t i=some f->i<n
 |0,_,_,_,h0,h=>absurd h0<|Nat.lt_irrefl 0
 |1,t,i,f,_,h=>by
  simp only[yq]at h;cases hb:OW i 0<;>rw[hb]at h
  ·cases h
  ·simp_all
 |n+2,.p s t,0,f,_,h=>Nat.succ_pos _
 |n+2,.p s t,i+1,f,_,h=>by
  simp only[yq]at h;split at h
  ·next f' hf=>exact Nat.succ_lt_succ<|gu (Nat.succ_pos _) hf
  ·cases h
 |n+2,.i,_,_,_,h=>by simp[yq]at h
 |n+2,.u,_,_,_,h=>by simp[yq]at h
 |n+2,.b,_,_,_,h=>by simp[yq]at h
 |n+2,.l _,_,_,_,h=>by simp[yq]at h
 |n+2,.a _ _,_,_,_,h=>by simp[yq]at h
 |n+2,.ch,_,_,_,h=>by simp[yq]at h
 |n+2,.tx,_,_,_,h=>by simp[yq]at h
 |n+2,.po _,_,_,_,h=>by simp[yq]at h
 |n+2,.tr,_,_,_,h=>by simp[yq]at h
 |n+2,.er,_,_,_,h=>by simp[yq]at h
 |n+2,.w1 _,_,_,_,h=>by simp[yq]at h
theorem fq{n:Nat}{t:Ty}{i:Nat}{f:Fl t.D}(h:yq n t i=some f):i<n+(1-n):=by
 cases n with
 |zero=>
  cases t<;>cases i<;>first
   |exact Tq
   |cases h
 |succ n=>have:=gu (Nat.succ_pos n) h;lia
theorem nA.of{t:TypeId}{ti:TI}(h:aG P t ti):nA P t ti:=by
 unfold aG at h;unfold nA;split at h
 ·simp_all
 ·simp_all
 ·simp_all
 ·simp_all
 ·next n h0=>
  simp only[h0];obtain⟨h1,h⟩:=h;have h2:=congrArg (fun q=>q.1.1) h;have ha:=congrArg (fun q=>q.1.2) h;have h3:=congrArg Prod.snd h;simp only[C1,sx]at h2 ha h3;refine⟨h1,fun i f hf=> ?_,?_,fun i f hf=> ?_⟩;rotate_left 2
  ·have:=congrArg (fun l:List (Option<|Nat×Bool×Nat)=>l[i]?) ha;simp only[Rz,List.getElem?_range<|fq hf,xaa,hf]at this;simpa using this
  ·have:=congrArg (fun l:List (Option Nat)=>l[i]?) h2;simp only[Rz,List.getElem?_range<|fq hf,xaa,hf]at this;simpa using this
  ·cases hp:L5 P t with
   |none=>
    rw[hp]at h3;cases h3
   |some a=>
    rw[hp]at h3;simp only[O6]at h3;obtain⟨fs,h4,h5⟩:=AX hp;refine⟨fs,h4,a,h5,fun i f hf=> ?_⟩;have:=congrArg (fun l:List (Option<|Nat×Nat)=>l[i]?) h3;simp only[Rz,List.getElem?_range<|fq hf,xaa,hf]at this;rw[<-Array.getElem?_toList]
    cases hx:a.toList[i]? with
    |none=>rw[hx]at this;cases this
    |some q=>rw[hx]at this;simpa using this
 ·next h0=>simp only[h0];exact h
 ·next h0=>simp only[h0];exact h
 ·next h0=>simp only[h0];exact h
theorem pH.of{t:TypeId}{ti:TI}(h1:Hl P t=some (ti.ty.rep.agg,ti.ty.n,ti.B,some<|ti.ty.rep.val<|zc ti.ty))(h2:(RA 0 ti.B && RA 0 ti.ty.n)=true)(h3:aG P t ti):pH P t ti:=by
 rw[IR]at h2;have hz:=fun S w=>lA S w ti.ty;refine⟨⟨_,(by rw[Ty.n_rep];exact jJ.of h1),?_,fun S w=> ?_,(fun s hs=>by rw[hs];rfl),fun n i off s g st hf=> ?_⟩,PC h2.1,(by rw[Ty.n_rep];exact PC h2.2),nA.of h3⟩
 ·rw[<-SA,zv.val_cells _<|hz (fun _=>True) default,ti.ty.rep.len<|hz (fun _=>True) default]
 ·rw[zv.val_cells _<|hz S w];exact hz S w
 ·rw[zv.val_cells _<|hz (fun _=>True) default];obtain⟨pre,post,h4,h5⟩:=rV hf;rw[h4,O2,PW (by simp only at h5;lia),h5,Nat.sub_self];rfl
theorem ya.nil:ya P []:=fun _ _ h=>by cases h
theorem ya.cons{t:TypeId}{ti:TI}{tt:List (Nat×TI)}(h:pH P t ti)(k:ya P tt):ya P ((t,ti)::tt):=by
 intro t' ti' hf;unfold uu at hf;cases hb:OW t t'<;>rw[hb]at hf
 ·exact k t' ti' hf
 ·simp_all
theorem ya.add{t:TypeId}{ti:TI}{tt:List (Nat×TI)}(h1:Hl P t=some (ti.ty.rep.agg,ti.ty.n,ti.B,some<|ti.ty.rep.val<|zc ti.ty))(h2:(RA 0 ti.B && RA 0 ti.ty.n)=true)(h3:aG P t ti)(k:ya P tt):ya P ((t,ti)::tt):=ya.cons (pH.of h1 h2 h3) k
def Fp(tt:List (Nat×TI)):List (Nat×TI)->Bool
 |[]=>true
 |(_,⟨.l s,.sl E,_⟩)::r=>(match uu tt E with
  |some ti=>(Ty.same ti.ty s).isSome
  |none=>false) && Fp tt r
 |_::r=>Fp tt r
theorem vd.of'{tt:List (Nat×TI)}:∀{l:List (Nat×TI)},Fp tt l=true->∀t s E B,uu l t=some ⟨.l s,.sl E,B⟩->∃ti,uu tt E=some ti/\ti.ty=s
 |[],_,_,_,_,_,h=>by cases h
 |(t',ti')::r,h,t,s,E,B,hf=>by
  have hr:Fp tt r=true:=by
   unfold Fp at h;split at h
   ·simp_all
   ·simp_all
   ·simp_all
  unfold uu at hf;cases hb:OW t' t<;>rw[hb]at hf
  ·exact vd.of' hr t s E B hf
  ·cases hf;unfold Fp at h;simp only[IR]at h;have h:=h.1;split at h
   ·next ti he=>
    refine⟨ti,he,?_⟩
    cases hs:Ty.same ti.ty s with
    |none=>rw[hs]at h;cases h
    |some p=>exact p.down
   ·cases h
theorem vd.of{tt:List (Nat×TI)}(h:Fp tt tt=true):vd P tt:=fun t s E B=>vd.of' h t s E B
theorem X0.nil:X0 P []:=fun _ _ h=>by cases h
theorem X0.add{f:Nat}{b:Bool}{ex:List (Nat×Bool)}{fn:Func}(h0:P.funcs[f]? =some fn)(h1:(fn.name== "runtime.NumGoroutine")=false)(h2:fn.body=none)(h3:(SP fn).isNone=true)
 (h4:b=true->Tb fn=some (fun args=>do
  let(x,y,c)<-PN "Add64" args
  pure (Ra ((x+y+c)%Pj)<|(x+y+c)/Pj)))
 (h5:b=false->Tb fn=some (fun args=>do
  let(x,y,b)<-PN "Sub64" args
  pure (Ra ((x+Pj-y-b)%Pj) (if x<y+b then 1 else 0)))) (k:X0 P ex):X0 P ((f,b)::ex):=by
 intro f' b' hf;unfold uu at hf;cases hb:OW f f'<;>rw[hb]at hf
 ·exact k f' b' hf
 ·simp_all
theorem cN:∀s∈([]:List jo),zQ P s:=fun _ h=>absurd h UV
theorem cC{s:jo}{l:List jo}(h:zQ P s)(k:∀s∈l,zQ P s):∀q∈s::l,zQ P q:=by grind
theorem ML{s:jo}(hb:Y1 P s.f=true)(hM:∀x,s.M x=none):zQ P s:=⟨hb,fun x r h=>by rw[hM x]at h;cases h⟩
theorem Vd.of{tt:List (Nat×TI)}{ex:List (Nat×Bool)}{cs:List jo}{an:An}{fu:Nat}(hX:X0 P ex)(hp:P=Tryz.prog):Vd P ⟨tt,cs,an,fu,ex,[],[],[],[],[]⟩:=⟨hX,fun _ h=>absurd h UV,fun _ h=>absurd h UV,fun _ h=>absurd h UV,hp,fun _ h=>absurd h UV,fun _ h=>absurd h UV⟩
theorem Oq(hm:P.follows .mixedOrders=true){tt:List (Nat×TI)}{ex:List (Nat×Bool)}(hT:ya P tt)(hL:vd P tt)(hX:X0 P ex)(hp:P=Tryz.prog){cs:List jo}(an:An){fu:Nat}{s:jo}{fn:Func}(hf:P.funcs[s.f]? =some fn)(hC:∀s∈cs,zQ P s)(hb:Y1 P s.f=true)(hk:s.bk=0)(hM:∀x,mU ⟨tt,cs,an,fu,ex,[],[],[],[],[]⟩ fn s.dom s.cod x=s.M x):zQ P s:=
 tU (cf:=⟨tt,cs,an,fu,ex,[],[],[],[],[]⟩) hm hT hL hC (.of hX hp) hf hb hk fun x r h=>(hM x).trans h
theorem N4(hm:P.follows .mixedOrders=true){tt:List (Nat×TI)}{ex:List (Nat×Bool)}(hT:ya P tt)(hL:vd P tt)(hX:X0 P ex)(hp:P=Tryz.prog){cs:List jo}(an:An){fu:Nat}{s:jo}{fn:Func}(hf:P.funcs[s.f]? =some fn)(hC:∀s∈cs,zQ P s)(hb:Y1 P s.f=true)(hM:∀pn x,BE ⟨tt,cs,an,fu,ex,[],[],[],[],[]⟩ fn s.dom s.cod s.bk pn x=s.M x):zQ P s:=
 Fx (cf:=⟨tt,cs,an,fu,ex,[],[],[],[],[]⟩) hm hT hL hC (.of hX hp) hf hb fun pn x r h=>(hM pn x).trans h
end
end
section
def rh:(dom:List Ty)->Xi dom->Nat->List (Nat×Nat×Dv)
 |[],_,_=>[]
 |t::r,x,i=>(i,0,.d t x.1)::rh r x.2 (i+1)
section
variable{P:Program}{cf:Cf}{env:yb}{w:World}
theorem lg{S:Nat->Prop}{vs:Nat->Value}:∀{dom:List Ty}{x:Xi dom}{i:Nat}{l:List Value},l.length=dom.length->(∀j v,l[j]? =some v->env (i+j)=v)->ze S (Ai dom x l) w->ze S (RS P vs env<|rh dom x i) w
 |[],_,_,_,_,_,_=>trivial
 |a::dom,x,i,[],hl,_,_=>by cases hl
 |a::dom,x,i,v::l,hl,h,hA=>by
  have ih:ze S (RS P vs env<|rh dom x.2<|i+1) w:=lg (by simpa using hl) (fun j v hj=>by
   have:=h (j+1) v (by simpa using hj);rw[show i+1+j=i+(j+1)by lia];exact this) hA.2
  have h0:env i=v:=h 0 v rfl;have ha:=hA.1;exact⟨show(fV a.rep x.1<|env i).p S w by rw[h0];exact ha,ih⟩
theorem ax:∀{dom:List Ty}{x:Xi dom}{i:Nat},∀e∈rh dom x i,xz e.2.2=none
 |[],_,_,e,he=>absurd he UV
 |a::dom,x,i,e,he=>by
  rcases OY.1 he with rfl|he
  ·rfl
  ·exact ax e he
theorem BH{cx σ:Sg}{t i:Nat}{d:Dv}(h:get ⟨0,[],[]⟩ σ t i=some d):get cx σ t i=some d:=by
 unfold get at h⊢;split at h
 ·exact h
 ·cases h
end
end
section
section
variable{P:Program}
theorem Qa{U:Type}{f:FuncId}{args:Array Value}{Γ:List FF}{val:U->Value}{facts:U->List FF}{ok:U->Prop}(h:Fn P f args Γ val facts ok):Ud P f args [] Γ val (fun _=>[]) facts ok:=by
 rintro we Se F G w ⟨h1,h2,h3,S,h4,h5,h6,h7,h8⟩;refine(h w S (h2.at h1 h5)<|ze.left h8).mono ?_;rintro e w' ⟨u,e1,e2,e3,e4⟩;exact⟨u,e1,e2,h1.trans e3,h2,h3,S,h4,fun k hk=>h5 k<|Pz e3.size hk,h6,z7.keep e3.to (fun m hm i hi=>e3.block i (z7.lt h7 m hm i hi) trivial) h7,ze.append e4<|ze.keep e3.to<|ze.right h8⟩
theorem Ud.to{U V:Type}{f:FuncId}{args:Array Value}{ms:List MF}{Γ:List FF}{val:U->Value}{own:U->List MF}{facts:U->List FF}{ok:U->Prop}{val':V->Value}{own':V->List MF}{facts':V->List FF}{ok':V->Prop}
 (h:Ud P f args ms Γ val own facts ok) (g:U->V) (h1:∀u,val u=val' (g u)) (h2:∀u,own u=own' (g u)) (h3:∀u,ok u->ok' (g u)) (h4:∀u,ok u->∀S w,ze S (facts u) w->ze S (facts'<|g u) w):Ud P f args ms Γ val' own' facts' ok':=by
 intro we Se F G w hb;refine(h we Se F G w hb).mono ?_;rintro e w' ⟨u,e1,e2,e3⟩;exact⟨g u,by rw[e1,h1],h3 u e2,by rw[<-h2];exact e3.weak fun S w ha=>ze.append (h4 u e2 S w<|ze.left ha)<|ze.right ha⟩
theorem Gl{f:FuncId}{M:Nat->Option Int}(hb:Y1 P f=true)(h:∀x r,x<18446744073709551616->M x=some r->Fn P f [.int .u64 (x:Int)].toArray [] (fun _:Unit=> .int .i64 r) (fun _=>[]) (fun _=>kV r)):zQ P ⟨f,[.d .u],[.d .i],fun x=>M x.1,0⟩:=by
 refine⟨hb,fun x r hM vs hl=> ?_⟩
 match vs,hl with
 |[v],_=>
  intro we Se F G w hc;obtain⟨S0,_,hΓ⟩:=hc.ex;obtain⟨hv,hx⟩:=sQ (show(fV eU x.1 v).p S0 w from hΓ.1);have:=Qa<|h x.1 r hx hM;rw[<-hv]at this;have h2:Ud P f [v].toArray [] [] wQ (fun us=>wI [RM.d .i] r us) (fun us=>wC [RM.d .i] r us) (fun us=>us.length=1):=this.to (fun _=>[.int .i64 r]) (fun _=>rfl) (fun _=>rfl) (fun _ _=>rfl) fun u hu S w ha=>⟨yV hu,trivial⟩;exact h2 we Se F G w<|hc.weak fun S w ha=>ha.2
end
end
section
section
variable{P:Program}
theorem jA.of_below{w w':World}(h:RowKit.Below w.heap.size w w'):jA w w':=⟨h.os,h.os,h.output,h.size,fun k hk _=>h.block k hk⟩
def oG(xs:List (List Nat))(sep:List Nat):Option (List Nat):=ck (xs.length<=140737488355328)<|ck ((sep.intercalate xs).length<=140737488355328)<|some (sep.intercalate xs)
theorem bS{S:Nat->Prop}{w:World}:∀{xs:List (List Nat)}{cs:List Value},zX mF S xs cs w->∃bs:List ByteArray,cs=bs.map Value.string/\bs.map zL=xs
 |[],cs,h=>⟨[],h,rfl⟩
 |x::xs,cs,⟨c,r,h1,h2,h3⟩=>by
  obtain⟨bs,e1,e2⟩:=bS h3;obtain⟨b,e3,e4,_⟩:=h2;exact⟨b::bs,by rw[h1,e3,e1];rfl,by rw[PA,e4,e2]⟩
theorem J6{α β:Type}(f:α->β)(s:List α):∀X:List (List α),(s.intercalate X).map f=(s.map f).intercalate (X.map<|List.map f)
 |[]=>by simp
 |[x]=>by simp
 |x::y::r=>by
  have ih:=J6 f s (y::r);simp_all
theorem fF(bs:List ByteArray)(s:ByteArray):zL ⟨(Lib.join (bs.map (·.data.toList)) s.data.toList).toArray⟩=(zL s).intercalate (bs.map zL):=by
 show((Lib.join (bs.map (·.data.toList)) s.data.toList).toArray.toList).map R7=_;unfold Lib.join;rw[J6,Sz];rfl
theorem tT{f:FuncId}(hb:Y1 P f=true)
 (h0:∀(a:Option Addr) (c:Nat) (sep:ByteArray) (w:World),Calls P f #[.slice a 0 c,.string sep] w fun e w'=>e=.returned (.string ⟨#[]⟩)/\w'=w)
 (h1:∀(bk o c:Nat) (xs:List ByteArray) (sep:ByteArray) (w:World),(∀(j:Nat) x,xs[j]? =some x->w.cell? ⟨bk,o+j,none⟩=some (.string x))->bk<w.heap.size->xs.length<=140737488355328->xs.length<=c->(Lib.join (xs.map (·.data.toList)) sep.data.toList).length<=140737488355328->
  Calls P f #[.slice (some ⟨bk,o,none⟩) xs.length c,.string sep] w fun e w'=>e=.returned (.string ⟨(Lib.join (xs.map (·.data.toList)) sep.data.toList).toArray⟩)/\RowKit.Below w.heap.size w w'):
 zQ P ⟨f,[.d (.l .tx),.d .tx],[.d .tx],fun x=>oG x.1 x.2.1,0⟩:=by
 refine⟨hb,fun x r hM vs hl=> ?_⟩
 match vs,hl with
 |[v,u],_=>
  have hM:oG x.1 x.2.1=some r:=hM;unfold oG at hM;obtain⟨k1,hM⟩:=wK hM;obtain⟨k2,hM⟩:=wK hM;have hr:r=S8 (α:=Nat) x.2.1 x.1:=(P9 hM).symm;have key:Fn P f #[v,u] [fV (eS mF) x.1 v,fV mF x.2.1 u] (fun _:Unit=> .string ⟨(r.map P5).toArray⟩) (fun _=>[fV mF r (.string ⟨(r.map P5).toArray⟩)]) (fun _=>True):=by
   intro w Se hm hΓ;obtain⟨hv,hu,_⟩:=hΓ;obtain⟨sb,rfl,e2,e3⟩:=YA hu;obtain⟨ao,cap,rfl,hf,hn,h⟩:=yX.1 hv;have fin:∀(t:List UInt8) (w':World),jA w w'->t.map R7=r->NK Se w (fun _:Unit=> .string ⟨(r.map P5).toArray⟩) (fun _=>[fV mF r (.string ⟨(r.map P5).toArray⟩)]) (fun _=>True) (.returned (.string ⟨t.toArray⟩)) w':=by
    intro t w' hx ht;have e5:t=r.map P5:=by
     rw[<-ht,Sz];conv=>lhs;rw[<-List.map_id t]
     exact RZ fun b _=>by simp
    rw[<-e5];refine⟨(),rfl,trivial,hx,J3 ?_ ?_,trivial⟩
    ·unfold zL;simpa using ht
    ·have h6:=yN ⟨t.toArray⟩;have h7:(zL ⟨t.toArray⟩).length=r.length:=by unfold zL;rw[<-ht]
     have h8:r.length<=140737488355328:=by rw[hr];exact k2
     lia
   rcases h with h|⟨b,o,cs,rfl,hs,hd,hg⟩
   ·have h:x.1=([]:List (List Nat)):=h;have hi:r=[]:=by rw[hr,h];rfl
    rw[h];refine(h0 ao cap sb w).mono ?_;rintro e w' ⟨rfl,rfl⟩;exact fin [] w' (zH.refl _ _) hi.symm
   ·obtain⟨bs,e4,e5⟩:=bS hg;have hc:bs.length=O9 (α:=List Nat) x.1:=by rw[<-e5,Rp]
    have hj:=fF bs sb;rw[e2,e5]at hj;have he:(Lib.join (bs.map (·.data.toList)) sb.data.toList).map R7=r:=by
     rw[hr,<-hj];unfold zL;simp
    have:=h1 b o cap bs sb w (fun j y hy=>hd.2 j (.string y)<|by rw[e4,Rz,hy];rfl) hd.1 (by rw[hc];exact k1) (by rw[hc];exact hf) (by
     have h9:=congrArg O9 he;rw[Rp]at h9;rw[h9,hr];exact k2)
    rw[hc]at this;refine this.mono ?_;rintro e w' ⟨rfl,hk⟩;exact fin _ w' (jA.of_below hk) he
  exact(Qa key).to (fun _=>[.string ⟨(r.map P5).toArray⟩]) (fun _=>rfl) (fun _=>rfl) (fun _ _=>rfl) fun _ _ S w ha=>ha
end
end
section
def JE(cf:Cf)(fn:Func)(cod:List RM)(σ:Sg):Option (uE cod):=Vq cf (ki σ fn.results.toList cod) fn.results.toList cod fun y _=>some y
section
variable{P:Program}{cf:Cf}{fr:Fr}{cx σ:Sg}{env:yb}{w:World}
theorem GU(hT:ya P cf.tt){fn:Func}{cod:List RM}{r:uE cod}{we:World}{Se:Nat->Prop}{F:List MF}{G:List FF}(h:JE cf fn cod σ=some r)(hR:vD P ⟨we,Se,F,G⟩ ⟨0,[],[]⟩ σ env w)(a:Act)(ha:zg a=env):
 ∃v,(results fn a.tmps).run P w=.ok v w/\∃u:List Value,SU v=.returned (wQ u)/\u.length=cod.length/\St we Se (wI cod r u++F) (wC cod r u++G) w:=by
 unfold JE at h;have hb:=jt fn.results.toList cod hR;generalize ki σ fn.results.toList cod=σ1 at h hb;obtain⟨hB,vs,hc⟩:=hb;obtain⟨y,os,e1,e2⟩:=Qo hT h;cases e1;obtain⟨us,h1,h2,h3⟩:=e2 vs ⟨we,Se,F,G⟩ env _ _ (fun S w hΓ t=>qZ hΓ t) hc;refine⟨_,qz (rs:=fn.results.toList) (by rw[RB])<|ha▸h2,us,rfl,h1,?_⟩;exact(St.dropM (B:=MS vs<|xu σ1.ob os) h3).weak fun S w hΓ=>ze.append (ze.left hΓ)<|ze.right<|ze.right hΓ
theorem cb{rg:List (Nat×Nat×Dv)}(h:vD P fr ⟨0,rg,[]⟩ σ env w):vD P fr ⟨0,[],[]⟩ σ env w:=by
 obtain⟨hB,vs,hb⟩:=h;exact⟨⟨hB.o1,fun _ h=>absurd h UV,hB.r1,fun _ h=>absurd h UV⟩,vs,hb.weak fun S w ha=>ze.append (ze.left ha)<|ze.append trivial<|ze.right<|ze.right ha⟩
theorem Zo{F:Fence}{n:Nat}{fn:Func}{tmps:Array Value}{u:FrameMode}{ds:List Deferred}{Q:Ending->World->Prop}(hu:u≠ .run):∀{Ds:List Nat}{w:World},Xk Ds w->LeavesInM F n P fn tmps Q ds u (xN Ds w)->LeavesInM F n P fn tmps Q (Ds.map aq++ds) u w
 |[],w,_,h=>h
 |D::Ds,w,hm,h=>⟨hu,.inl ⟨D,_,rfl,run_takeDeferred hm.1,Zo hu hm.2 h⟩⟩
end
end
section
def MW(P:Program)(f:FuncId)(T:TypeId)(k:Int):Prop:=Y1 P f=true/\
 (∀(a b c:Value) we Se F G w,St we Se F G w->CallsDIn Rq 0 P f #[a,b,c] .returning w fun e u w'=>(∃r,e=.returned r)/\u=.returning/\St we Se F G w')/\
 ∀(a b c:Value) (E0 E1 E2:TypeId) (z0:Tr) (z1 z2 x:Int) we Se F G w,kV x->St we Se (mP (Ty.tr).rep.c E0 a z0::mP (Ty.i).rep.c E1 b z1::mP (Ty.i).rep.c E2 c z2::F) G w->
  CallsDIn Rq 0 P f #[a,b,c] (.panicking<|XU (T,x)) w fun e u w'=>(∃r,e=.returned r)/\settle u=.returning/\St we Se (mP (Ty.tr).rep.c E0 a Tr.nil::mP (Ty.i).rep.c E1 b x::mP (Ty.i).rep.c E2 c k::F) G w'
def dH(cf:Cf)(fn:Func)(cod:List RM)(t0 t1 t2:Tmp)(k e:Int)(σ:Sg):Option (uE cod):=match get ⟨0,[],[]⟩ σ t0 0,get ⟨0,[],[]⟩ σ t1 0,get ⟨0,[],[]⟩ σ t2 0 with
 |some (.vs o0 _),some (.vs o1 _),some (.vs o2 _)=>(match yE σ.ob o0 with
  |some (.var .tr E0 _)=>(match yE (zD σ.ob o0) o1 with
   |some (.var .i E1 _)=>(match yE (zD (zD σ.ob o0) o1) o2 with
    |some (.var .i E2 _)=>JE cf fn cod ⟨σ.nx,σ.rg,(o0,.var .tr E0 .nil)::(o1,.var .i E1 e)::(o2,.var .i E2 k)::zD (zD (zD σ.ob o0) o1) o2⟩
    |_=>none)
   |_=>none)
  |_=>none)
 |_,_,_=>none
def BJ(cf:Cf)(fn:Func)(cod:List RM)(c:Code)(t0 t1 t2 t:Tmp)(T:TypeId)(k:Int)(σ:Sg):Option (uE cod):=match get ⟨0,[],[]⟩ σ t0 0,get ⟨0,[],[]⟩ σ t1 0,get ⟨0,[],[]⟩ σ t2 0 with
 |some (.vs o0 s0),some (.vs o1 s1),some (.vs o2 s2)=>xV (!OW t0 t && (!OW t1 t && !OW t2 t))<|YM cf c ⟨0,[(t0,0,.vs o0 s0),(t1,0,.vs o1 s1),(t2,0,.vs o2 s2)],[]⟩ (σ.put (some t) []) fun tg σ=>(match tg with
  |.r=>JE cf fn cod σ
  |.n=>JE cf fn cod σ
  |.p q=>ck (q.1=T)<|ck (kV q.2)<|dH cf fn cod t0 t1 t2 k q.2 σ
  |_=>none)
 |_,_,_=>none
def tM(cf:Cf)(fn:Func)(dom:List AM)(cod:List RM)(hd:FuncId)(T:TypeId)(k:Int)(x:uC dom):Option (uE cod):=match fn.body with
 |some (.seq c0 (.seq c1 (.seq (.region _ ops false) c2)))=>(match ops.toList with
  |[⟨some t,.makeFunc (.func f) fs cs,_,_,_,none⟩,⟨none,.defer ⟨.value (.tmp t'),ags,_⟩,_,_,_,none⟩]=>(match cs.toList,fs.toList,ags.toList with
   |[.tmp t0,.tmp t1,.tmp t2],[],[]=>xV (OW f hd && (OW t t' && (RA t fn.ntmps && (aD fn.ntmps c0 && (aD fn.ntmps c1 && (aD fn.ntmps c2 && Tv dom.length fn.ntmps))))))<|
    let y:=qg dom x 0
    YM cf c0 ⟨0,[],[]⟩ ⟨dom.length,y.1,y.2⟩ fun tg σ=>(match tg with
     |.n=>YM cf c1 ⟨0,[],[]⟩ σ fun tg σ=>(match tg with
      |.n=>BJ cf fn cod c2 t0 t1 t2 t T k σ
      |.r=>JE cf fn cod σ
      |_=>none)
     |_=>none)
   |_,_,_=>none)
  |_=>none)
 |_=>none
section
variable{P:Program}{cf:Cf}{fr:Fr}{cx σ:Sg}{env:yb}{w:World}
theorem mA{l:List (Nat×Nat×Dv)}(hg:∀e∈l,get ⟨0,[],[]⟩ σ e.1 e.2.1=some e.2.2)(h:vD P fr ⟨0,[],[]⟩ σ env w):vD P fr ⟨0,l,[]⟩ σ env w:=by
 obtain⟨hB,vs,hb⟩:=h;have hm:∀e∈l,e∈σ.rg:=fun e he=>by
  rcases VI (hg e he)with h|h
  ·exact h
  ·exact absurd h UV
 exact⟨⟨hB.o1,fun _ h=>absurd h UV,hB.r1,fun e he=>hB.r1 _<|hm e he⟩,vs,hb.weak fun S w ha=>ze.append (ze.left ha) (ze.append (wg.2 fun f hf=>by
  obtain⟨e,he,rfl⟩:=O8.1 hf;exact kD (ze.left ha)<|hm e he) (ze.right (ze.right ha)))⟩
theorem AG{d:Option Tmp}{v:Value}(hd:yJ cx d=true)(h:vD P fr cx σ env w):vD P fr cx (σ.put d []) (put env d v) w:=by
 obtain⟨hB,vs,ha⟩:=h;exact(jR (σ':=σ.put d []) (l:=[]) (v:=v) (vs:=vs) (vs':=vs) (Γl:=[]) hB hd rfl (O3 _) (fun _ _=>rfl) (fun e he=>absurd he UV) hB.o1 (fun S w _ e he=>absurd he UV) ha).rel
theorem VS{fn:Func}{tmps:Array Value}{u:FrameMode}{ds:List Deferred}{f:FuncId}{vs:Array Value}{Q:Ending->World->Prop}(hb:Y1 P f=true)(hu:u≠ .run)
 (h:CallsDIn Rq 0 P f vs u w fun e u' w'=>(∃r,e=.returned r)/\LeavesInM Rq 0 P fn tmps Q ds (settle u') w'):LeavesInM Rq 0 P fn tmps Q ({target:=.fn (.func f) vs,args:= #[]}::ds) u w:=by
 refine⟨hu,.inr ⟨fun e=>by simp[Rq]at e,_,_,f,vs,rfl,by simp[invoke,xg hb],fun _ _=>trivial,CallsDIn.mono h ?_⟩⟩;rintro e u' w' ⟨⟨r,rfl⟩,h⟩;exact h
theorem Bu(hm:P.follows .mixedOrders=true)(hT:ya P cf.tt)(hL:vd P cf.tt)(hC:∀s∈cf.cs,zQ P s)(hX:Vd P cf){s:jo}{fn:Func}
 (hf:P.funcs[s.f]? =some fn) (hb:Y1 P s.f=true) (hk:s.bk=0) {hd:FuncId}{T:TypeId}{kc:Int} (hH:MW P hd T kc) (hM:∀x r,s.M x=some r->tM cf fn s.dom s.cod hd T kc x=some r):zQ P s:=by
 refine⟨hb,fun x r h vs hy=> ?_⟩;rw[hk];show Ud P s.f vs.toArray (wH s.dom x vs) (wO P s.dom x vs) wQ (fun us=>wI s.cod r us) (fun us=>wC s.cod r us) (fun us=>us.length=s.cod.length);have h:=hM x r h;unfold tM at h;split at h
 ·next c0 c1 id ops c2 hc=>
  split at h
  ·next t f fs cs ty1 pos1 aft1 t' ags ts ty pos aft hops=>
   split at h
   ·next t0 t1 t2 hcs hfs hags=>
    obtain⟨ho,hz⟩:=zw h;clear h;simp only[IR]at ho;obtain⟨hY,hZ,hE,h0,h2,h3,hn⟩:=ho;obtain rfl:=zr hY;obtain rfl:=zr hZ;have hE:=Nat.blt_eq.mp hE;intro we Se F G w h4;refine callsIn_wide.1<|callsIn_of_wp_marks (n:=0) hf hc trivial ?_;have hn:=PC hn;have h5:qH (zg ⟨vs.toArray++RE (fn.ntmps-vs.toArray.size) undef,[]⟩) ((vs.zipIdx 0).map fun x=>(x.2,x.1)):=by
     refine jb vs 0 _ fun j=> ?_;rw[kL];simp[Px,PY]
    have e0:∀j v,vs[j]? =some v->vs.getD (0+j) undef=v:=fun j v hj=>by rw[Pk,PY,hj];rfl
    have fin:∀{Ds1:List Nat}{env2:yb}{σ:Sg}{w':World}{a:Act},JE cf fn s.cod σ=some r->vD P (Fr.wd ⟨we,Se,F,G⟩ Ds1) ⟨0,[],[]⟩ σ env2 w'->zg a=env2->LeavesInM Rq 0 P fn a.tmps (fun e w'=>∃u:List Value,e=.returned (wQ u)/\u.length=s.cod.length/\St we Se (wI s.cod r u++F) (wC s.cod r u++G) w') (Ds1.map aq) .returning w':=fun{Ds1 env2 σ w' a} he hR ha=>by
     obtain⟨hK,hR⟩:=kM hR;exact qD hK<|GU hT he hR a ha
    have h6:=qC (fr:=⟨we,Se,F,G⟩) (N:=Nd.of fn.ntmps) (Ds:=[]) (env:=L ((vs.zipIdx 0).map fun x=>(x.2,x.1))<|zg ⟨vs.toArray++RE (fn.ntmps-vs.toArray.size) undef,[]⟩) (w:=w) hm hT hL hC hX c0 h0 rfl (.inl rfl) hz
     (Q:=fun e Ds env w=>e=.normal/\∃σ,(YM cf c1 ⟨0,[],[]⟩ σ fun tg σ=>(match tg with
      |.n=>BJ cf fn s.cod c2 t0 t1 t2 t T kc σ
      |.r=>JE cf fn s.cod σ
      |_=>none))=some r/\vD P (Fr.wd ⟨we,Se,F,G⟩ Ds) ⟨0,[],[]⟩ σ env w)
     (fun t σ' hk Ds env w _ hR=>by
      cases t with
      |n=>exact⟨rfl,σ',hk,hR⟩
      |x j=>cases hk
      |r=>cases hk
      |p q=>cases hk) (by
      refine⟨⟨fun e he=> ?_,fun _ he=>absurd he UV,fun e he p hp=> ?_,fun _ he=>absurd he UV⟩,fun o=>vs.getD o undef,?_⟩
      ·have:=Qn e he;simpa using this
      ·have:=Wj e he p hp;simpa using this
      ·have e1:MS (fun o=>vs.getD o undef) (qg s.dom x 0).2=wH s.dom x vs:=Q7 hy e0;show St we Se (MS _ (qg s.dom x 0).2++([]++F)) _ w;rw[e1];exact h4.weak fun S w hΓ=>ze.append (Qf hy (fun j v hj=>⟨e0 j v hj,Vm hj⟩)<|ze.left hΓ)<|ze.right hΓ)
    refine wpIn_seq<|wpIn_mono (h6 _ (by simp[Nd.of];lia) rfl (qP h5).symm) ?_;rintro e a0 w0 ⟨p1,Ds0,p2,rfl,σ0,hz,h7⟩;show(Code.seq c1 (.seq (.region id ops false) c2)).wpIn Rq 0 P _ a0 w0
    have hA:=qC (fr:=⟨we,Se,F,G⟩) (N:=Nd.of fn.ntmps) (Ds:=Ds0) (env:=zg a0) (w:=w0) hm hT hL hC hX c1 h2 rfl (.inl rfl) hz
     (Q:=fun e Ds env w=>(e=.normal/\∃σ,BJ cf fn s.cod c2 t0 t1 t2 t T kc σ=some r/\vD P (Fr.wd ⟨we,Se,F,G⟩ Ds) ⟨0,[],[]⟩ σ env w)\/(e=AB .r/\∃σ,JE cf fn s.cod σ=some r/\vD P (Fr.wd ⟨we,Se,F,G⟩ Ds) ⟨0,[],[]⟩ σ env w))
     (fun t σ' hk Ds env w _ hR=>by
      cases t with
      |n=>exact .inl ⟨rfl,σ',hk,hR⟩
      |x j=>cases hk
      |r=>exact .inr ⟨rfl,σ',hk,hR⟩
      |p q=>cases hk) h7
    refine wpIn_seq<|wpIn_mono (hA _ p1 p2 rfl) ?_;rintro e a1 w1 ⟨q1,Ds1,q2,h1|h1⟩;rotate_left
    ·obtain⟨rfl,σ1,hi,hF⟩:=h1;show LeavesInM Rq 0 P fn a1.tmps _ a1.defers .returning w1;have q2:a1.defers=Ds1.map aq++[]:=q2;rw[q2,Ps];exact fin hi hF rfl
    obtain⟨rfl,σ1,hi,hF⟩:=h1;show(Code.seq (.region id ops false) c2).wpIn Rq 0 P _ a1 w1;unfold BJ at hi;split at hi
    ·next o0 s0 o1 s1 o2 s2 h8 h9 h'=>
     obtain⟨hN,hi⟩:=zw hi;simp only[IR,Rj]at hN;obtain⟨b0,b1,b2⟩:=hN;have n0:t≠t0:=fun e=>by subst e;simp at b0
     have n1:t≠t1:=fun e=>by subst e;simp at b1
     have n2:t≠t2:=fun e=>by subst e;simp at b2
     obtain rfl:cs= #[.tmp t0,.tmp t1,.tmp t2]:=by cases cs;simp_all
     obtain rfl:fs= #[]:=by cases fs;simp_all
     obtain rfl:ags= #[]:=by cases ags;simp_all
     have hO:(execOp (ev<|zg a1) ⟨some t,.makeFunc (.func f) #[] #[.tmp t0,.tmp t1,.tmp t2],ty1,pos1,aft1,none⟩).run P w1=.ok (.value (.func (.func f) #[] #[zg a1 t0,zg a1 t1,zg a1 t2])) w1:=by simp[execOp,Instr.makeFunc,ev]
     generalize hv:Value.func (.func f) #[] #[zg a1 t0,zg a1 t1,zg a1 t2]=vc at hO;have hP:a1.tmps.size=fn.ntmps:=q1;have hQ:zg (a1.put (some t) vc)=put (zg a1) (some t) vc:=qE fun t' ht'=>by cases ht';rw[hP];exact hE
     have hev:zg (a1.put (some t) vc) t=.func (.func f) #[] #[zg a1 t0,zg a1 t1,zg a1 t2]:=by rw[hQ,hv,Vf]
     have hd0:(execOp (ev<|zg<|a1.put (some t) vc) ⟨none,.defer ⟨.value (.tmp t),#[],ts⟩,ty,pos,aft,none⟩).run P w1=.ok (.defer {target:=.fn (.func f) #[zg a1 t0,zg a1 t1,zg a1 t2],args:= #[]}) w1:=by simp[execOp,resolve,Rn,ev,hev]
     have hG:ops=[⟨some t,.makeFunc (.func f) #[] #[.tmp t0,.tmp t1,.tmp t2],ty1,pos1,aft1,none⟩,⟨none,.defer ⟨.value (.tmp t),#[],ts⟩,ty,pos,aft,none⟩].toArray:=by cases ops;simp_all
     refine wpIn_seq ?_;rw[hG];refine wpIn_region_lit ?_;unfold wpListIn;rw[iq<|by rfl];refine xX.wp (N:=Nd.of fn.ntmps) (xX.of_value (o:=⟨some t,.makeFunc (.func f) #[] #[.tmp t0,.tmp t1,.tmp t2],ty1,pos1,aft1,none⟩) (env:=zg a1) (P:=P) (w:=w1) (w':=w1) (v:=vc) hO (K:=fun v w'=>v=vc/\w'=w1) ⟨rfl,rfl⟩) ?_;rintro _ _ ⟨hh1,hh2⟩;rw[hh1,hh2];unfold wpListIn;rw[iq<|by rfl];unfold Oper.wpIn;refine⟨fun _ _=>trivial,?_⟩;rw[uj];rw[show Rq.round=none from rfl,Oper.semAt_none,hd0];rw[Oper.uponIn_defer];refine wpListIn_nil ?_;have hw:=mA (l:=[(t0,0,.vs o0 s0),(t1,0,.vs o1 s1),(t2,0,.vs o2 s2)]) (fun e he=>by
      simp only[OY,UV,or_false]at he;rcases he with rfl|rfl|rfl
      ·exact h8
      ·exact h9
      ·exact h') hF
     have hw:=AG (d:=some t) (v:=vc) (by simp only[yJ,qk,List.all_cons,List.all_nil,Bool.and_true,IR,Rj];exact⟨b0,b1,b2⟩) hw
     have hB:=qC (fr:=Fr.wd ⟨we,Se,F,G⟩ Ds1) (N:=⟨fn.ntmps,{target:=.fn (.func f) #[zg a1 t0,zg a1 t1,zg a1 t2],args:= #[]}::Ds1.map aq,none⟩) (Ds:=[]) (env:=put (zg a1) (some t) vc) (w:=w1) hm hT hL hC hX c2 h3 rfl (.inl rfl) hi
      (Q:=fun e Ds env w=>∀a:Act,zg a=env->a.defers=Ds.map aq++{target:=.fn (.func f) #[zg a1 t0,zg a1 t1,zg a1 t2],args:= #[]}::Ds1.map aq->bodyPostM Rq 0 P fn (fun e w'=>∃u:List Value,e=.returned (wQ u)/\u.length=s.cod.length/\St we Se (wI s.cod r u++F) (wC s.cod r u++G) w') e a w)
      (fun tg σ2 hg Ds2 env2 w2 hI hx=> ?_) hw
     ·refine wpIn_mono (hB _ ?_ ?_ hQ) ?_
      ·show(a1.put (some t) vc).tmps.size=_;rw[kJ];exact q1
      ·show _::(a1.put (some t) vc).defers=_;rw[qy,q2];simp[Nd.of]
      ·rintro e a' w' ⟨p1,Ds2,p2,p3⟩;exact p3 a' rfl p2
     ·obtain⟨hD,hx⟩:=kM hx;have hJ:∀{j:Nat},j≠t->put (zg a1) (some t) vc j=zg a1 j:=fun hj=>ZX fun e=>hj (by cases e;rfl);have ht0:env2 t0=zg a1 t0:=(hI _<|Nm).trans<|hJ n0.symm;have ht1:env2 t1=zg a1 t1:=(hI _<|H1 _<|Nm).trans<|hJ n1.symm;have ht2:env2 t2=zg a1 t2:=(hI _<|H1 _<|H1 _<|Nm).trans<|hJ n2.symm;have nrm:JE cf fn s.cod σ2=some r->∀a:Act,zg a=env2->a.defers=Ds2.map aq++{target:=.fn (.func f) #[zg a1 t0,zg a1 t1,zg a1 t2],args:= #[]}::Ds1.map aq->LeavesInM Rq 0 P fn a.tmps (fun e w'=>∃u:List Value,e=.returned (wQ u)/\u.length=s.cod.length/\St we Se (wI s.cod r u++F) (wC s.cod r u++G) w') a.defers .returning w2:=fun he a ha hl=>by
       rw[hl];refine Zo (by simp) hD<|VS hH.1 (by simp) ?_;obtain⟨hB,vs2,ht⟩:=cb hx;refine CallsDIn.mono (hH.2.1 _ _ _ _ _ _ _ _ ht) ?_;rintro e u w' ⟨hr,rfl,hs⟩;exact⟨hr,fin he ⟨hB,vs2,hs⟩ ha⟩
      cases tg with
      |n=>exact fun a ha hl=>nrm hg a ha hl
      |r=>exact fun a ha hl=>nrm hg a ha hl
      |x j=>cases hg
      |p q=>
       obtain⟨hqT,hg⟩:=wK hg;obtain⟨hin,hg⟩:=wK hg;unfold dH at hg;split at hg
       ·next p0 u0 p1 u1 p2 u2 hS hU hV=>
        split at hg
        ·next E0 z0 f0=>
         split at hg
         ·next E1 z1 f1=>
          split at hg
          ·next E2 z2 f2=>
           intro a ha hl;show LeavesInM Rq 0 P fn a.tmps _ a.defers (.panicking<|XU q) w2;rw[hl];refine Zo (by simp) hD<|VS hH.1 (by simp) ?_;obtain⟨hB,vs2,ht⟩:=cb hx;obtain⟨S0,_,hΓ⟩:=ht.ex;have v0:env2 t0=vs2 p0:=(qZ hΓ t0 0 _ hS).1;have v1:env2 t1=vs2 p1:=(qZ hΓ t1 0 _ hU).1;have v2:env2 t2=vs2 p2:=(qZ hΓ t2 0 _ hV).1;have hq:XU q=XU (T,q.2):=by rw[<-hqT]
           rw[hq,<-ht0,v0,<-ht1,v1,<-ht2,v2];have hW:St _ _ (uk vs2 (p0,.var .tr E0 z0)::uk vs2 (p1,.var .i E1 z1)::uk vs2 (p2,.var .i E2 z2)::(OS vs2 (Fr.wd ⟨we,Se,F,G⟩ Ds1) ⟨0,[],[]⟩<|zD (zD (zD σ2.ob p0) p1) p2)) _ _:=ht.perm<|(xo f0).trans<|((xo f1).trans<|(xo f2).cons _).cons _;refine CallsDIn.mono (hH.2.2 _ _ _ E0 E1 E2 z0 z1 z2 q.2 _ _ _ _ _ hin hW) ?_;rintro e u w' ⟨hr,hu,hs⟩;refine⟨hr,?_⟩;rw[hu];refine fin hg ⟨⟨fun e he=> ?_,hB.o2,hB.r1,hB.r2⟩,vs2,hs⟩ ha;have fm:∀{ob:List (Nat×Od)}{o:Nat}{X:Od},yE ob o=some X->(o,X)∈ob:=fun h=>let⟨i,h1,_⟩:=xm h;Pq h1;have m0:=fm f0;have m1:=xv _<|fm f1;have m2:=xv _<|xv _<|fm f2;simp only[OY]at he;rcases he with rfl|rfl|rfl|he
           ·have:=hB.o1 _ m0;exact this
           ·have:=hB.o1 _ m1;exact this
           ·have:=hB.o1 _ m2;exact this
           ·exact hB.o1 _<|xv _<|xv _<|xv _ he
          ·cases hg
         ·cases hg
        ·cases hg
       ·cases hg
    ·cases hi
   ·cases h
  ·cases h
 ·cases h
end
end
def xT:Tr->List Nat
 |.nil=>[]
 |.mk op _ c _ l r=>(if op=118 then[c]else[])++(xT l++xT r)
def J9(t:Tr):List Nat:=(P4 256).filter fun c=>(xT t).contains c
def fO(fu:Nat)(a0:Tr):Option (List Nat):=ck (300<=fu)<|ck ((xT a0).all fun c=>decide (97<=c) && decide (c<=122))<|some (J9 a0)
def uQ(a0 a1:List Nat):Option Bool:=ck (a1.length=1)<|some (a0.any fun b=>OW b<|a1.headD 0)
def Kb(a0:List Nat):Int×Bool:=match Lib.atoiAll (a0.map P5)with
 |.ok v=>(v,false)
 |.range=>(Lib.atoiSat<|a0.map P5,true)
 |_=>(0,true)
def aQ(a0:List Nat):Option (Int×Bool):=ck (a0.length<=281474976710656)<|some (Kb a0)
def jO:Nat->Nat->List Nat
 |0,_=>[]
 |f+1,u=>if u<10 then[48+u]else jO f (u/10)++[48+u%10]
def ZM(a0:Int):List Nat:=if a0<0 then 45::jO 20 a0.natAbs else jO 20 a0.toNat
def Kh(a0:Int):Option (List Nat):=ck (kV a0)<|some (ZM a0)
theorem KY:∀(f u:Nat),u<10^(f+1)->(Lib.decDigits u).map R7=jO (f+1) u
 |f,u,h=>by
  unfold jO;rw[Lib.decDigits];by_cases h1:u<10
  ·rw[dif_pos h1,iq h1,PA,RR,SN];rw[PT<|by lia]
  ·rw[dif_neg h1,ir h1,PS,PA,RR,SN,PT<|by lia]
   match f,h with
   |0,h=>exact absurd (by simpa using h) h1
   |f+1,h=>rw[KY f (u/10)<|by rw[Rh]at h;lia]
theorem px{a:Int}(h:kV a):(Lib.itoa a).map R7=ZM a:=by
 unfold Lib.itoa ZM;split
 ·rw[PA,KY 19 _<|by lia];rfl
 ·exact KY 19 _<|by lia
theorem VY:∀f u,(jO f u).length<=f
 |0,_=>O3 _
 |f+1,u=>by
  unfold jO;split
  ·simp
  ·have:=VY f<|u/10;rw[O1];simp only[FS,R1];lia
theorem Ku:∀(l:List UInt8) (c:UInt8),-1<=SY l c/\decide (0<=SY l c)=(l.map R7).any fun b=>OW b c.toNat
 |[],c=>⟨Int.le_refl _,rfl⟩
 |b::l,c=>by
  obtain⟨h1,h2⟩:=Ku l c;unfold SY;rw[PA,List.any_cons];by_cases hb:b=c
  ·subst hb;simp
  ·have h3:(b==c)=false:=by simp[hb]
   have h4:OW b.toNat c.toNat=false:=by
    cases h:OW b.toNat c.toNat
    ·rfl
    ·exact absurd (UInt8.toNat_inj.1<|P7 h) hb
   rw[h3,h4,Sa,<-h2];simp only[Pd,reduceIte];by_cases h5:SY l c= -1
   ·rw[h5];decide
   ·have h6:(SY l c== -1)=false:=by simp[h5]
    rw[h6];simp only[Pd,reduceIte];refine⟨by lia,?_⟩;rw[decide_eq_decide];lia
theorem dp(l:List UInt8):(l.map R7).map P5=l:=by
 rw[Sz];conv=>rhs;rw[<-List.map_id l]
 exact RZ fun b _=>by simp
theorem jA.of_belowN{w w':World}(h:RowKit.Below w.heap.size w w'):jA w w':=⟨h.os,h.os,h.output,h.size,fun k hk _=>h.block k hk⟩
theorem DR{s:ByteArray}{x:List Nat}(h:zL s=x):s.data.toList=x.map P5:=by
 rw[<-h];unfold zL;rw[dp]
theorem mL(w:World)(e:TypeId)(s:ByteArray):jA w (Lib.bytesWorld w e s):=⟨rfl,rfl,rfl,by rw[Lib.bytesWorld_size];lia,fun k hk _=>Lib.bytesWorld_at_old w e s k hk⟩
theorem cV{f:FuncId}(hf:∀(s:ByteArray) (c:UInt8) (w:World),Calls Tryz.prog f #[.string s,.string ⟨#[c]⟩] w fun e w'=>e=.returned (.bool<|decide<|0<=SY s.data.toList c)/\w'=w){a b:List Nat}{v u:Value}{r:Bool}(hM:uQ a b=some r):
 Fn Tryz.prog f #[v,u] [fV mF a v,fV mF b u] (fun _:Unit=> .bool r) (fun _=>[fV bQ r (.bool r)]) (fun _=>True):=by
 unfold uQ at hM;obtain⟨k1,hM⟩:=wK hM;have hr:=(P9 hM).symm;intro w Se hb hΓ;obtain⟨hv,hu,_⟩:=hΓ;obtain⟨s,rfl,e1,e2⟩:=YA hv;obtain⟨t,rfl,e3,e4⟩:=YA hu;have e5:=DR e3;obtain⟨c,hc⟩:∃c,t.data.toList=[c]:=by
  have:t.data.toList.length=1:=by rw[e5,Rp];exact k1
  exact P2.1 this
 have ht:t=⟨#[c]⟩:=by
  cases t with
  |mk d=>
   simp only at hc;congr;exact Array.toList_inj.1<|by rw[hc]
 have ha:b=[c.toNat]:=by rw[<-e3];unfold zL;rw[hc];rfl
 rw[ht];refine(hf s c w).mono ?_;rintro e w' ⟨rfl,rfl⟩;have h6:=(Ku s.data.toList c).2;have h7:r=decide (0<=SY s.data.toList c):=by rw[hr,h6,ha,<-e1];rfl
 rw[<-h7];exact⟨(),rfl,trivial,zH.refl _ _,Wu,trivial⟩
theorem Yi:zQ Tryz.prog ⟨Tryz.lays144_ren.f 144,[.d .tx,.d .tx],[.d .b],fun x=>uQ x.1 x.2.1,0⟩:=by
 refine⟨by kernel_rfl,fun x r hM vs hl=> ?_⟩
 match vs,hl with
 |[v,u],_=>exact(Qa<|cV Tryz.contains_one hM).to (fun _=>[.bool r]) (fun _=>rfl) (fun _=>rfl) (fun _ _=>rfl) fun _ _ S w ha=>ha
theorem Ca{a:Int}{v:Value}{r:List Nat}(hM:Kh a=some r):Fn Tryz.prog (Tryz.laysM171_ren.f 171) #[v] [fV eI a v] (fun _:Unit=> .string ⟨(Lib.itoa a).toArray⟩) (fun _=>[fV mF r (.string ⟨(Lib.itoa a).toArray⟩)]) (fun _=>True):=by
 unfold Kh at hM;obtain⟨k1,hM⟩:=wK hM;have hr:=(P9 hM).symm;intro w Se ha hΓ;obtain⟨hv,_⟩:=hΓ;obtain rfl:=(pf hv).1;refine(Any.strconv_Itoa Tryz.laysM171 a k1.1 k1.2 w ha.gv.1).mono ?_;rintro e w' ⟨rfl,k,os,rfl⟩;have h1:=px k1;refine⟨(),rfl,trivial,⟨rfl,rfl,rfl,?_,fun j hj _=> ?_⟩,J3 ?_ ?_,trivial⟩
 ·show w.heap.size<=(w.heap++os).size;rw[Array.size_append];lia
 ·show(w.heap++os)[j]? =w.heap[j]?;rw[Array.getElem?_append_left hj]
 ·rw[hr,<-h1];unfold zL;simp
 ·have h2:=yN ⟨(Lib.itoa a).toArray⟩;have h3:zL ⟨(Lib.itoa a).toArray⟩=ZM a:=by rw[<-h1];unfold zL;simp
  rw[h3]at h2;have h4:(ZM a).length<=21:=by
   unfold ZM;split
   ·have:=VY 20<|Int.natAbs a;rw[FS];lia
   ·have:=VY 20<|Int.toNat a;lia
  lia
theorem W3:zQ Tryz.prog ⟨Tryz.laysM171_ren.f 171,[.d .i],[.d .tx],fun x=>Kh x.1,0⟩:=by
 refine⟨by kernel_rfl,fun x r hM vs hl=> ?_⟩
 match vs,hl with
 |[v],_=>exact(Qa<|Ca hM).to (fun _=>[.string ⟨(Lib.itoa x.1).toArray⟩]) (fun _=>rfl) (fun _=>rfl) (fun _ _=>rfl) fun _ _ S w ha=>ha
theorem By{a:List Nat}{v:Value}{r:Int×Bool}(hM:aQ a=some r):Fn Tryz.prog (Tryz.laysC172_ren.f 172) #[v] [fV mF a v] (fun u:Value=> .tuple #[.int .i64 r.1,u]) (fun u=>[fV eI r.1 (.int .i64 r.1),fV Ib r.2 u]) (fun _=>True):=by
 unfold aQ at hM;obtain⟨k1,hM⟩:=wK hM;have hr:=(P9 hM).symm;intro w Se hd hΓ;obtain⟨hv,_⟩:=hΓ;obtain⟨s,rfl,e1,e2⟩:=YA hv;have e5:=DR e1;have he:s.size<=281474976710656:=by rw[<-yN,e1];exact k1
 unfold Kb at hr;rw[<-e5]at hr
 cases ha:Lib.atoiAll s.data.toList with
 |ok z=>
  rw[ha]at hr;have hr:r=(z,false):=hr;rw[hr];refine(Any.strconv_Atoi_ok Tryz.laysC172 s (by lia) z ha w).mono ?_;rintro e w' ⟨rfl,hw⟩;refine⟨.nilIface,rfl,trivial,?_,yV<|Lib.atoiAll_bounds ha,DI,trivial⟩;rcases hw with rfl|⟨t,rfl⟩
  ·exact zH.refl _ _
  ·exact mL _ _ _
 |range=>
  rw[ha]at hr;have hr:r=(Lib.atoiSat s.data.toList,true):=hr;rw[hr];obtain⟨tp,p,hc⟩:=hd.gv.2.1;refine(Any.strconv_Atoi_range_var Tryz.laysC172 s he ha tp p w hc).mono ?_;rintro e w' ⟨N,rfl,_,_,hb⟩;exact⟨_,rfl,trivial,jA.of_belowN hb,yV<|Lib.atoiSat_bounds _,⟨_,rfl,.inr ⟨rfl,_,_,rfl⟩⟩,trivial⟩
 |_=>
  rw[ha]at hr;have hr:r=(0,true):=hr;rw[hr];obtain⟨tp,p,hc⟩:=hd.gv.2.2;refine(Any.strconv_Atoi_syntax_var Tryz.laysC172 s he ha tp p w hc).mono ?_;rintro e w' ⟨N,rfl,_,_,hb⟩;exact⟨_,rfl,trivial,jA.of_belowN hb,yV (by decide),⟨_,rfl,.inr ⟨rfl,_,_,rfl⟩⟩,trivial⟩
theorem WV:zQ Tryz.prog ⟨Tryz.laysC172_ren.f 172,[.d .tx],[.d .i,.d .er],fun x=>aQ x.1,0⟩:=by
 refine⟨by kernel_rfl,fun x r hM vs hl=> ?_⟩
 match vs,hl with
 |[v],_=>exact(Qa<|By hM).to (fun u=>[.int .i64 r.1,u]) (fun _=>rfl) (fun _=>rfl) (fun _ _=>rfl) fun _ _ S w ha=>ha
section
def BZ(cf:Cf)(fn:Func)(dom:List AM)(cod:List RM)(bk:Nat)(pn:Nat->Value)(x:uC dom):Option (PX⊕uE cod):=match fn.body with
 |some c=>xV (aD fn.ntmps c && (Tv dom.length fn.ntmps && (OW (fn.results.toList.length+bk) cod.length && (OW (YX dom 0).length bk && RA 0 bk))))<|
  let y:=qg dom x 0
  let rv:=fn.results.toList++YX dom 0
  YM cf c ⟨0,WY pn dom 0,[]⟩ ⟨dom.length,y.1,y.2⟩ fun t σ=>(match t with
   |.r=>Vq cf (ki σ rv cod) rv cod fun y _=>some (.inr y)
   |.n=>Vq cf (ki σ rv cod) rv cod fun y _=>some (.inr y)
   |.p q=>some (.inl q)
   |_=>none)
 |none=>none
section
variable{P:Program}{cf:Cf}{fr:Fr}{cx σ:Sg}{env:yb}{w:World}{vs:Nat->Value}
def QQ(dom:List AM)(vs:List Value)(bk:Nat)(we:World)(Se:Nat->Prop)(F:List MF)(G:List FF)(cod:List RM)(z:PX⊕uE cod)(e:Ending)(w:World):Prop:=match z with
 |.inl q=>e=.panicked (XU q)/\St we Se F G w
 |.inr r=>∃u:List Value,e=.returned (sn bk cod.length u)/\aK dom vs bk cod.length u/\St we Se (wI cod r u++F) (wC cod r u++G) w
theorem bL(hm:P.follows .mixedOrders=true)(hT:ya P cf.tt)(hL:vd P cf.tt)(hC:∀s∈cf.cs,zQ P s)(hX:Vd P cf){f:FuncId}{dom:List AM}{cod:List RM}{bk:Nat}{fn:Func}(hf:P.funcs[f]? =some fn){x:uC dom}{z:PX⊕uE cod}
 {vs:List Value} (h:BZ cf fn dom cod bk (fun o=>vs.getD o undef) x=some z) (hg:vs.length=dom.length) {we:World}{Se:Nat->Prop}{F:List MF}{G:List FF}{w:World} (hb:St we Se (wH dom x vs++F) (wO P dom x vs++G) w):Calls P f vs.toArray w (QQ dom vs bk we Se F G cod z):=by
 unfold BZ at h;split at h
 ·next c hc=>
  obtain⟨ho,hd⟩:=zw h;clear h;simp only[IR]at ho;obtain⟨hw,hx,hq,hD,hr⟩:=ho;have hq:=zr hq;have hr:0<bk:=Nat.blt_eq.mp hr;obtain⟨b,rfl⟩:∃b,bk=b+1:=⟨bk-1,by lia⟩;refine lX hf hc (by rw[hg];exact hx) fun rest=> ?_;have e0:∀j v,vs[j]? =some v->vs.getD (0+j) undef=v:=fun j v hj=>by rw[Pk,PY,hj];rfl
  refine qC (fr:=⟨we,Se,F,G⟩) (N:=Nd.of fn.ntmps) hm hT hL hC hX c hw rfl (.inl rfl) hd (fun t σ' hk Ds env w _ hR=> ?_) ?_
  ·obtain⟨hy,hR⟩:=kM hR;refine⟨hy,?_⟩
   have fin:Vq cf (ki σ' (fn.results.toList++YX dom 0) cod) (fn.results.toList++YX dom 0) cod (fun y _=>some (.inr y))=some z->∀a:Act,zg a=env->
    ∃v,(results fn a.tmps).run P (xN Ds w)=.ok v (xN Ds w)/\QQ dom vs (b+1) we Se F G cod z (.returned v) (xN Ds w):=fun h a ha=>by
    obtain⟨hs,vs0,hl⟩:=hR;obtain⟨S0,_,hz⟩:=hl.ex;have ht:ze S0 (RS P vs0 env<|WY (fun o=>vs.getD o undef) dom 0) _:=ze.left<|ze.right hz;have hA:vD P ⟨we,Se,F,G⟩ ⟨0,[],[]⟩ σ' env (xN Ds w):=⟨⟨hs.o1,fun _ he=>absurd he UV,hs.r1,fun _ he=>absurd he UV⟩,vs0,hl.weak fun S w ha=>ze.append (ze.left ha)<|ze.right<|ze.right ha⟩;have hu:=jt (fn.results.toList++YX dom 0) cod hA;generalize ki σ' (fn.results.toList++YX dom 0) cod=σ1 at h hu;obtain⟨hB,vs1,hb⟩:=hu;obtain⟨y,os,e1,e2⟩:=Qo hT h;cases e1;obtain⟨us,h1,h2,h3⟩:=e2 vs1 ⟨we,Se,F,G⟩ env _ _ (fun S w hΓ t=>qZ hΓ t) hb;obtain⟨h4,h5⟩:=Xh h2;have hn:cod.length-(b+1)=fn.results.toList.length:=by lia
    have hi:=Zv ht h5;rw[Tz]at hi;refine⟨_,qz (rs:=fn.results.toList) (by rw[RB])<|ha▸h4,us,?_,⟨h1,by rw[hn];exact hi⟩,?_⟩
    ·show SU _=.returned (wQ<|us.take<|cod.length-(b+1));rw[hn]
    ·exact(St.dropM (B:=MS vs1<|xu σ1.ob os) h3).weak fun S w hΓ=>ze.append (ze.left hΓ)<|ze.right<|ze.right hΓ
   cases t with
   |n=>exact .inl ⟨.inl rfl,fin hk⟩
   |r=>exact .inl ⟨.inr rfl,fin hk⟩
   |x j=>cases hk
   |p q=>
    cases hk;obtain⟨hB,vs,hb⟩:=hR;have hb:St we Se ([]++(MS vs σ'.ob++F)) (RS P vs env σ'.rg++(RS P vs env _++G)) (xN Ds w):=hb;exact .inr ⟨_,rfl,rfl,(St.dropM (A:=[]) hb).weak fun S w hΓ=>ze.right<|ze.right hΓ⟩
  ·refine⟨⟨fun e he=> ?_,fun _ he=>absurd he UV,fun e he p hp=> ?_,fun e he p hp=> ?_⟩,fun o=>vs.getD o undef,?_⟩
   ·have:=Qn e he;simpa using this
   ·have:=Wj e he p hp;simpa using this
   ·rw[Zw e he]at hp;cases hp
   ·have e1:MS (fun o=>vs.getD o undef) (qg dom x 0).2=wH dom x vs:=Q7 hg e0;show St we Se (MS _ (qg dom x 0).2++([]++F)) _ w;rw[e1];refine hb.weak fun S w hΓ=>ze.append (Qf hg (fun j v hj=>⟨e0 j v hj,Vm hj⟩)<|ze.left hΓ)<|ze.append (eB fun j hj=> ?_)<|ze.right hΓ;have hv:vs[j]? =some (vs[j]'(by lia)):=Pb (by lia);show L _ _ (0+j)=vs.getD (0+j) undef;rw[e0 j _ hv];exact Vm hv
 ·cases h
theorem GL(hm:P.follows .mixedOrders=true)(hT:ya P cf.tt)(hL:vd P cf.tt)(hC:∀s∈cf.cs,zQ P s)(hX:Vd P cf){p:qN}{fn:Func}
 (hf:P.funcs[p.s.f]? =some fn) (hb:Y1 P p.s.f=true) (hM:∀pn x r,p.M x=some r->BZ cf fn p.s.dom p.s.cod p.s.bk pn x=some r):Vo P p:=
 ⟨hb,fun x vs ha=>⟨fun r h=>fun we Se F G w hc=>bL hm hT hL hC hX hf (hM _ x _ h) ha hc,fun q h we Se F G w hc=>bL hm hT hL hC hX hf (hM _ x _ h) ha hc⟩⟩
end
end
section
def Bg(t:Ty)(E:TypeId)(s:Ty)(E1:TypeId)(n i:Nat)(σ:Sg):Option (t.D×List s.D):=match get ⟨0,[],[]⟩ σ 0 0 with
 |some (.mw o)=>(match yE σ.ob o with
  |some (.vr t' E' s' F' n' i' z ys)=>xV (OW E' E && (OW F' E1 && (OW n' n && OW i' i)))<|Ty.cast t' t z fun z=>Ty.cast (.l s') (.l s) ys fun ys=>some (z,ys)
  |_=>none)
 |_=>none
def GD(cf:Cf)(fn:Func)(t:Ty)(E:TypeId)(s:Ty)(E1:TypeId)(n i:Nat)(dom:List Ty)(pn:Value)(z:t.D)(ys:List s.D)(x:Xi dom):Option (t.D×List s.D):=match fn.body,fn.results.toList with
 |some c,[]=>xV (aD fn.ntmps c && Tv (dom.length+1) fn.ntmps)<|YM cf c ⟨0,[(0,0,.pin pn)],[]⟩ ⟨1,(0,0,.mw 0)::rh dom x 1,[(0,.vr t E s E1 n i z ys)]⟩ fun q σ=>match q with
  |.r=>Bg t E s E1 n i σ
  |.n=>Bg t E s E1 n i σ
  |_=>none
 |_,_=>none
section
variable{P:Program}{cf:Cf}{env:yb}{w:World}
theorem Ep(hm:P.follows .mixedOrders=true)(hT:ya P cf.tt)(hL:vd P cf.tt)(hC:∀s∈cf.cs,zQ P s)(hX:Vd P cf){s:kg}{fn:Func}
 (hf:P.funcs[s.f]? =some fn) (hb:Y1 P s.f=true) (hM:∀pn z ys x r,s.M z ys x=some r->GD cf fn s.t s.E s.s s.E1 s.n s.i s.dom pn z ys x=some r):aj P s:=by
 refine⟨hb,fun z ys x r hz u vs hd we Se F G w hr=> ?_⟩;have h:=hM (zN u) z ys x r hz;unfold GD at h;split at h
 ·next c hc hs=>
  obtain⟨ho,h⟩:=zw h;rw[IR]at ho;refine W9 (args:=zN u::vs) hf hc (by rw[FS,hd];exact ho.2) fun rest=> ?_;refine qC (fr:=⟨we,Se,F,G⟩) (N:=Nd.of fn.ntmps) hm hT hL hC hX c ho.1 rfl (.inl rfl) h (fun q σ' hk Ds env w _ hR=> ?_) ?_
  ·obtain⟨hl,hR⟩:=kM hR
   have fin:Bg s.t s.E s.s s.E1 s.n s.i σ'=some r->∀a:Act,zg a=env->
    ∃v,(results fn a.tmps).run P (xN Ds w)=.ok v (xN Ds w)/\∃v' u',SU v=.returned v'/\zN u'=zN u/\St we Se (Hk s r.1 r.2 u'::F) G (xN Ds w):=fun h a ha=>by
    unfold Bg at h;split at h
    ·next o hg=>
     split at h
     ·next t' E' s' F' n' i' z' ys' ho=>
      obtain⟨hE,h1⟩:=zw h;simp only[IR]at hE;obtain⟨g1,g2,g3,g4⟩:=hE;have g1:=zr g1;have g2:=zr g2;have g3:=zr g3;have g4:=zr g4;subst g1 g2 g3 g4;obtain⟨e,h2⟩:=zx h1;subst e;obtain⟨e,h3⟩:=zx h2;cases e;cases h3;obtain⟨hB,vs',hi⟩:=hR;obtain⟨S0,_,hn⟩:=hi.ex;have hp:env 0=zN u:=(ze.left<|ze.right hn).1;have ht:env 0=zN (vs' o):=qZ hn 0 0 _<|BH hg;have h2:St we Se (Hk s z' ys' (vs' o)::OS vs' ⟨we,Se,F,G⟩ ⟨0,[(0,0,.pin<|zN u)],[]⟩ (zD σ'.ob o)) (GS P vs' env ⟨we,Se,F,G⟩ ⟨0,[(0,0,.pin<|zN u)],[]⟩ σ') (xN Ds w):=wY ho hi;refine⟨_,qz (rs:=[]) (vs:=[]) (by rw[<-hs,RB]) trivial,_,vs' o,rfl,ht.symm.trans hp,?_⟩;have h3:St we Se ([Hk s z' ys'<|vs' o]++(MS vs' (zD σ'.ob o)++F)) (GS P vs' env ⟨we,Se,F,G⟩ ⟨0,[(0,0,.pin<|zN u)],[]⟩ σ') (xN Ds w):=h2;exact(St.dropM h3).weak fun S w hΓ=>ze.right<|ze.right hΓ
     ·cases h
    ·cases h
   cases q with
   |n=>exact⟨.inl rfl,hl,fin hk⟩
   |r=>exact⟨.inr rfl,hl,fin hk⟩
   |x j=>cases hk
   |p q=>cases hk
  ·refine⟨⟨fun e he=> ?_,fun _ he=>absurd he UV,fun e he q hq=> ?_,fun e he q hq=> ?_⟩,fun _=>u,?_⟩
   ·obtain rfl:=OZ.1 he;exact Tq
   ·rcases OY.1 he with rfl|he
    ·cases hq;exact Tq
    ·rw[ax e he]at hq;cases hq
   ·obtain rfl:=OZ.1 he;cases hq
   ·refine hr.weak fun S w hΓ=>⟨rfl,ze.append (lg hd (fun j v hj=> ?_)<|ze.left hΓ) ⟨rfl,ze.right hΓ⟩⟩;rw[Nat.add_comm 1 j,<-Pk<|j+1];exact Vm<|by simpa using hj
 ·cases h
end
end
section
set_option maxRecDepth 100000
def tt:List (Nat×TI):=[(2,⟨.i,.int .i64,8⟩),(3,⟨.i,.int .i64,8⟩),(4,⟨.b,.bool,1⟩),(5,⟨.ch,.int .u8,1⟩),(6,⟨.ch,.int .u8,1⟩),(7,⟨(.p .i (.p .i (.p .b .ch))),.st 4,24⟩),(8,⟨(.p .i (.p .i (.p .b .ch))),.st 4,24⟩),(9,⟨.tx,.str,16⟩),(10,⟨.tx,.str,16⟩),(11,⟨.tx,.str,16⟩),(12,⟨.u,.int .u64,8⟩),(13,⟨(.p .tx .u),.st 2,24⟩),(14,⟨(.p .tx .u),.st 2,24⟩),(20,⟨.er,.ie,16⟩),(23,⟨.tr,.pt 55,8⟩),(24,⟨.i,.int .i64,8⟩),(27,⟨.tr,.pt 52,8⟩),(33,⟨(.l .ch),.sl 5,24⟩),(36,⟨(.w1 .i),.st 0,8⟩),(37,⟨(.w1 .i),.st 0,8⟩),(38,⟨(.po (.p .tx (.p .i (.p .i .i)))),.pt 40,8⟩),(39,⟨(.p .tx (.p .i (.p .i .i))),.st 4,40⟩),(40,⟨(.p .tx (.p .i (.p .i .i))),.st 4,40⟩),(44,⟨(.po (.p .tx (.p .i (.p .i (.p .i .i))))),.pt 46,8⟩),(45,⟨(.p .tx (.p .i (.p .i (.p .i .i)))),.st 5,48⟩),(46,⟨(.p .tx (.p .i (.p .i (.p .i .i)))),.st 5,48⟩),(50,⟨(.l .u),.sl 64,24⟩),(51,⟨DZ,.st 6,64⟩),(52,⟨DZ,.st 6,64⟩),(54,⟨DZ,.st 6,64⟩),(55,⟨DZ,.st 6,64⟩),(59,⟨(.po (.p (.l .ch) (.p .i (.p .i .b)))),.pt 61,8⟩),(60,⟨(.p (.l .ch) (.p .i (.p .i .b))),.st 4,48⟩),(61,⟨(.p (.l .ch) (.p .i (.p .i .b))),.st 4,48⟩),(64,⟨.u,.int .u64,8⟩),(67,⟨.u,.int .u64,8⟩),(79,⟨.i,.int .i64,8⟩),(96,⟨.u,.int .u64,8⟩),(100,⟨(.po .i),.pt 3,8⟩),(102,⟨(.l .tx),.sl 9,24⟩),(109,⟨.er,.ie,16⟩),(110,⟨.er,.ie,16⟩),(115,⟨(.po .u),.pt 96,8⟩),(124,⟨(.a 24 .ch),.ar 24 5,24⟩),(135,⟨(.po .ch),.pt 5,8⟩),(137,⟨(.a 20 .u),.ar 20 64,160⟩),(138,⟨(.a 65 .ch),.ar 65 5,65⟩),(142,⟨.i,.int .i64,8⟩),(145,⟨(.po (.p .tx (.p .tx .er))),.pt 155,8⟩),(154,⟨(.p .tx (.p .tx .er)),.st 3,48⟩),(155,⟨(.p .tx (.p .tx .er)),.st 3,48⟩),(157,⟨(.a 32 .ch),.ar 32 5,32⟩),(158,⟨(.a 64 .ch),.ar 64 5,64⟩),(161,⟨(.po (.w1 .tx)),.pt 163,8⟩),(162,⟨(.w1 .tx),.st 0,16⟩),(163,⟨(.w1 .tx),.st 0,16⟩),(169,⟨.ch,.int .u8,1⟩),(170,⟨.ch,.int .u8,1⟩)]
def ex:List (Nat×Bool):=[(95,true)]
theorem tA{t:TypeId}{ti:TI}{tt:List (Nat×TI)}(h3:aG Tryz.prog t ti)(k:ya Tryz.prog tt)(h1:Hl Tryz.prog t=some (ti.ty.rep.agg,ti.ty.n,ti.B,some<|ti.ty.rep.val<|zc ti.ty):=by kernel_rfl)(h2:(RA 0 ti.B && RA 0 ti.ty.n)=true:=by kernel_rfl):ya Tryz.prog ((t,ti)::tt):=ya.add h1 h2 h3 k
theorem UU:ya Tryz.prog tt:=tA (id (by kernel_rfl:Tryz.prog.underlying 2=some (.int .i64)))<|
 tA (id (by kernel_rfl:Tryz.prog.underlying 3=some (.int .i64)))<|
 tA (id (by kernel_rfl:Tryz.prog.underlying 4=some .bool))<|
 tA (id (by kernel_rfl:Tryz.prog.underlying 5=some (.int .u8)))<|
 tA (id (by kernel_rfl:Tryz.prog.underlying 6=some (.int .u8)))<|
 tA ⟨rfl,by kernel_rfl⟩<|
 tA ⟨rfl,by kernel_rfl⟩<|
 tA (id (by kernel_rfl:Tryz.prog.underlying 9=some .string))<|
 tA (id (by kernel_rfl:Tryz.prog.underlying 10=some .string))<|
 tA (id (by kernel_rfl:Tryz.prog.underlying 11=some .string))<|
 tA (id (by kernel_rfl:Tryz.prog.underlying 12=some (.int .u64)))<|
 tA ⟨rfl,by kernel_rfl⟩<|
 tA ⟨rfl,by kernel_rfl⟩<|
 tA (id (by kernel_rfl:Tryz.prog.underlying 20=some (.interface<|Tryz.prog.methodsAt 20)))<|
 tA (id (by kernel_rfl:Tryz.prog.underlying 23=some (.pointer 55)))<|
 tA (id (by kernel_rfl:Tryz.prog.underlying 24=some (.int .i64)))<|
 tA (id (by kernel_rfl:Tryz.prog.underlying 27=some (.pointer 52)))<|
 tA ⟨by kernel_rfl,_,rfl⟩<|
 tA ⟨rfl,by kernel_rfl⟩<|
 tA ⟨rfl,by kernel_rfl⟩<|
 tA (id (by kernel_rfl:Tryz.prog.underlying 38=some (.pointer 40)))<|
 tA ⟨rfl,by kernel_rfl⟩<|
 tA ⟨rfl,by kernel_rfl⟩<|
 tA (id (by kernel_rfl:Tryz.prog.underlying 44=some (.pointer 46)))<|
 tA ⟨rfl,by kernel_rfl⟩<|
 tA ⟨rfl,by kernel_rfl⟩<|
 tA ⟨by kernel_rfl,_,rfl⟩<|
 tA ⟨rfl,by kernel_rfl⟩<|
 tA ⟨rfl,by kernel_rfl⟩<|
 tA ⟨rfl,by kernel_rfl⟩<|
 tA ⟨rfl,by kernel_rfl⟩<|
 tA (id (by kernel_rfl:Tryz.prog.underlying 59=some (.pointer 61)))<|
 tA ⟨rfl,by kernel_rfl⟩<|
 tA ⟨rfl,by kernel_rfl⟩<|
 tA (id (by kernel_rfl:Tryz.prog.underlying 64=some (.int .u64)))<|
 tA (id (by kernel_rfl:Tryz.prog.underlying 67=some (.int .u64)))<|
 tA (id (by kernel_rfl:Tryz.prog.underlying 79=some (.int .i64)))<|
 tA (id (by kernel_rfl:Tryz.prog.underlying 96=some (.int .u64)))<|
 tA (id (by kernel_rfl:Tryz.prog.underlying 100=some (.pointer 3)))<|
 tA ⟨by kernel_rfl,_,rfl⟩<|
 tA (id (by kernel_rfl:Tryz.prog.underlying 109=some (.interface<|Tryz.prog.methodsAt 109)))<|
 tA (id (by kernel_rfl:Tryz.prog.underlying 110=some (.interface<|Tryz.prog.methodsAt 110)))<|
 tA (id (by kernel_rfl:Tryz.prog.underlying 115=some (.pointer 96)))<|
 tA ⟨rfl,by kernel_rfl⟩<|
 tA (id (by kernel_rfl:Tryz.prog.underlying 135=some (.pointer 5)))<|
 tA ⟨rfl,by kernel_rfl⟩<|
 tA ⟨rfl,by kernel_rfl⟩<|
 tA (id (by kernel_rfl:Tryz.prog.underlying 142=some (.int .i64)))<|
 tA (id (by kernel_rfl:Tryz.prog.underlying 145=some (.pointer 155)))<|
 tA ⟨rfl,by kernel_rfl⟩<|
 tA ⟨rfl,by kernel_rfl⟩<|
 tA ⟨rfl,by kernel_rfl⟩<|
 tA ⟨rfl,by kernel_rfl⟩<|
 tA (id (by kernel_rfl:Tryz.prog.underlying 161=some (.pointer 163)))<|
 tA ⟨rfl,by kernel_rfl⟩<|
 tA ⟨rfl,by kernel_rfl⟩<|
 tA (id (by kernel_rfl:Tryz.prog.underlying 169=some (.int .u8)))<|
 tA (id (by kernel_rfl:Tryz.prog.underlying 170=some (.int .u8)))<|
 ya.nil
theorem dC:vd Tryz.prog tt:=vd.of<|by kernel_rfl
theorem pg:X0 Tryz.prog ex:=X0.add Tryz.func95 (by kernel_rfl) (by kernel_rfl) (by kernel_rfl) (fun _=>by kernel_rfl) (fun h=>by cases h)<|
 X0.nil
theorem cd:Tryz.prog.follows .mixedOrders=true:=by kernel_rfl
theorem sg{cs:List jo}(an:An){fu:Nat}{s:jo}{fn:Func}(hf:Tryz.prog.funcs[s.f]? =some fn)(hC:∀s∈cs,zQ Tryz.prog s)(hb:Y1 Tryz.prog s.f=true)(hM:∀x,mU ⟨tt,cs,an,fu,ex,[],[],[],[],[]⟩ fn s.dom s.cod x=s.M x)(hk:s.bk=0:=by rfl):zQ Tryz.prog s:=
 Oq cd UU dC pg rfl an hf hC hb hk hM
theorem sq{cs:List jo}(fu:Nat)(an:An){s:jo}{fn:Func}(hf:Tryz.prog.funcs[s.f]? =some fn)(hC:∀s∈cs,zQ Tryz.prog s)(hb:Y1 Tryz.prog s.f=true:=by kernel_rfl)(hM:∀x,mU ⟨tt,cs,an,fu,ex,[],[],[],[],[]⟩ fn s.dom s.cod x=s.M x:=by intro x;kernel_rfl)(hk:s.bk=0:=by rfl):zQ Tryz.prog s:=sg an hf hC hb hM hk
abbrev q1(S:List (Nat×TF))(j:Nat)(T:List (Nat×TF)):Lp:=⟨⟨S,[]⟩,⟨[],[(.x j,⟨T,[]⟩)]⟩⟩
abbrev jx(s:jo):Prop:=zQ Tryz.prog s
abbrev Vn:An:=⟨[],[],[],[],[],[],[]⟩
abbrev OV:Ty:=.l (.p .b (.l .u))
abbrev OU:Ty:=.p .b (.l .u)
abbrev OT:Ty:=.l (.l (.p .b (.l .u)))
abbrev au:Ty:=.l .u
abbrev OQ:Ty:=.l .i
theorem UW{cs:List jo}(an:An){fu:Nat}{s:jo}{fn:Func}(hf:Tryz.prog.funcs[s.f]? =some fn)(hC:∀s∈cs,zQ Tryz.prog s)(hb:Y1 Tryz.prog s.f=true)(hM:∀pn x,BE ⟨tt,cs,an,fu,ex,[],[],[],[],[]⟩ fn s.dom s.cod s.bk pn x=s.M x):zQ Tryz.prog s:=
 N4 cd UU dC pg rfl an hf hC hb hM
theorem OD{cs:List jo}{ps:List qN}{vg:List kg}(an:An){fu:Nat}{s:jo}{fn:Func}{hd:FuncId}{T:TypeId}{k:Int}(hH:MW Tryz.prog hd T k)(hf:Tryz.prog.funcs[s.f]? =some fn)(hC:∀s∈cs,zQ Tryz.prog s)(hP:∀q∈ps,Vo Tryz.prog q)(hV:∀q∈vg,aj Tryz.prog q)(hb:Y1 Tryz.prog s.f=true)(hM:∀x,tM ⟨tt,cs,an,fu,ex,[],[],[],ps,vg⟩ fn s.dom s.cod hd T k x=s.M x)(hk:s.bk=0:=by rfl):zQ Tryz.prog s:=
 Bu (cf:=⟨tt,cs,an,fu,ex,[],[],[],ps,vg⟩) cd UU dC hC ⟨pg,fun _ h=>absurd h UV,fun _ h=>absurd h UV,fun _ h=>absurd h UV,rfl,hP,hV⟩ hf hb hk hH fun x r h=>(hM x).trans h
theorem pN:∀p∈([]:List qN),Vo Tryz.prog p:=fun _ h=>absurd h UV
theorem pC{s:qN}{l:List qN}(h:Vo Tryz.prog s)(k:∀s∈l,Vo Tryz.prog s):∀q∈s::l,Vo Tryz.prog q:=by grind
theorem vN:∀p∈([]:List kg),aj Tryz.prog p:=fun _ h=>absurd h UV
theorem vC{s:kg}{l:List kg}(h:aj Tryz.prog s)(k:∀s∈l,aj Tryz.prog s):∀q∈s::l,aj Tryz.prog q:=by grind
theorem Ov{p:qN}(hb:Y1 Tryz.prog p.s.f=true)(hM:∀x,p.M x=none):Vo Tryz.prog p:=⟨hb,fun x vs hl=>⟨fun r h=>(by rw[hM x]at h;cases h),fun q h=>(by rw[hM x]at h;cases h)⟩⟩
theorem N6{s:kg}(hb:Y1 Tryz.prog s.f=true)(hM:∀z ys x,s.M z ys x=none):aj Tryz.prog s:=⟨hb,fun z ys x r h=>(by rw[hM z ys x]at h;cases h)⟩
abbrev Mb(cs:List jo)(ps:List qN)(vg:List kg)(an:An)(fu:Nat):Cf:=⟨tt,cs,an,fu,ex,[],[],[],ps,vg⟩
section
variable{cs:List jo}{ps:List qN}{vg:List kg}{fu:Nat}{fn:Func}
theorem Nj{an:An}(hP:∀q∈ps,Vo Tryz.prog q)(hV:∀q∈vg,aj Tryz.prog q):Vd Tryz.prog (Mb cs ps vg an fu):=⟨pg,fun _ h=>absurd h UV,fun _ h=>absurd h UV,fun _ h=>absurd h UV,rfl,hP,hV⟩
theorem gF(an:An){s:jo}(hf:Tryz.prog.funcs[s.f]? =some fn)(hC:∀s∈cs,zQ Tryz.prog s)(hP:∀q∈ps,Vo Tryz.prog q)(hV:∀q∈vg,aj Tryz.prog q)(hb:Y1 Tryz.prog s.f=true)(hM:∀x,mU (Mb cs ps vg an fu) fn s.dom s.cod x=s.M x)(hk:s.bk=0:=by rfl):zQ Tryz.prog s:=
 tU cd UU dC hC (Nj hP hV) hf hb hk fun x r h=>(hM x).trans h
theorem gQ(an:An){p:qN}(hf:Tryz.prog.funcs[p.s.f]? =some fn)(hC:∀s∈cs,zQ Tryz.prog s)(hP:∀q∈ps,Vo Tryz.prog q)(hV:∀q∈vg,aj Tryz.prog q)(hb:Y1 Tryz.prog p.s.f=true)(hM:∀pn x,BZ (Mb cs ps vg an fu) fn p.s.dom p.s.cod p.s.bk pn x=p.M x):Vo Tryz.prog p:=
 GL cd UU dC hC (Nj hP hV) hf hb fun pn x r h=>(hM pn x).trans h
theorem gV(an:An){s:kg}(hf:Tryz.prog.funcs[s.f]? =some fn)(hC:∀s∈cs,zQ Tryz.prog s)(hP:∀q∈ps,Vo Tryz.prog q)(hV:∀q∈vg,aj Tryz.prog q)(hb:Y1 Tryz.prog s.f=true)(hM:∀pn z ys x,GD (Mb cs ps vg an fu) fn s.t s.E s.s s.E1 s.n s.i s.dom pn z ys x=s.M z ys x):aj Tryz.prog s:=
 Ep cd UU dC hC (Nj hP hV) hf hb fun pn z ys x r h=>(hM pn z ys x).trans h
end
end
end Go.Proofs.YtbaoeefdjpaomaaGreatDoor

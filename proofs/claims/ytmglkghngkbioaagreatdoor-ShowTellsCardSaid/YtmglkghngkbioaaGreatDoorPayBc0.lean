/- The theory: texts of the dev place in one; each part's head says what it holds. -/
import Derived.Shelf.LaysM
import Derived.Shelf.LaysC
import Derived.Shelf.Strconv.Itoa3
import Derived.Shelf.Strconv.ErrVarAll
import Derived.Shelf.Strings.SplitShaped
import Derived.Shelf.Small.Strs
import Derived.Test.YtmglkghngkbioaaGreatDoorProg
import Derived.Carry
import Derived.WideShapes
import Derived.ChangeArms
import Derived.Lib.LaidTab
import Derived.Lib.LaidU8
import Derived.Handed
import Derived.HandedShaped
import Derived.OpenShut
import Derived.WalkKit
import Derived.ProofKit
import Derived.Lay
import Derived.Lib.AppendStr
import Derived.Shelf.RegionOpenPlain
import Derived.Lib.Walk
import Derived.Lib.Builder
import Derived.Lib.UnsafeStr
import Derived.Laws.Externs
import Derived.Test.YtmglkghngkbioaaGreatDoorPayBb0
/- The library's contracts, laid at this program (written by the kit's lay-plain, cut to what is used). -/
section
namespace Go.Proofs
open Go.Shelf
def Tryz.lays137_ren:Go.Shelf.Ren:=⟨fun|137=>102|217=>115|266=>125|n=>n,fun|9=>9|5=>5|3=>3|n=>n,fun|n=>n⟩
theorem Tryz.lays137:Go.Proofs.Lays.n137 Tryz.prog Tryz.lays137_ren:={
  mixed:=by kernel_rfl
  f137:=Tryz.func102.trans (congrArg some (by kernel_rfl))
  f217:=Tryz.func115.trans (congrArg some (by kernel_rfl))
  f266:=Tryz.func125.trans (congrArg some (by kernel_rfl))
  t3:=Tryz.underlying3
  a3:=Tryz.isAgg3
  z3:=Tryz.sizeOf3
  v3:=Tryz.zeroValue3
  t5:=Tryz.underlying5
  a5:=Tryz.isAgg5
  z5:=Tryz.sizeOf5
  v5:=Tryz.zeroValue5
  t9:=Tryz.underlying9
  a9:=Tryz.isAgg9
  z9:=Tryz.sizeOf9
  v9:=Tryz.zeroValue9 }
open Go.RowKit in
theorem Tryz.strings_IndexByte (s:ByteArray)(c:Int)(w:World) :
    Calls Tryz.prog 102 #[.string s,.int .u8 c] w fun e w'=>e = .returned (.int .i64 (Lib.indexByte s.data.toList c.toNat.toUInt8))∧w'=w:=Any.strings_IndexByte Tryz.lays137 s c w
def Tryz.laysM171_ren:Go.Shelf.Ren:=⟨fun|171=>106|243=>117|246=>128|283=>140|284=>141|285=>142|286=>143|129=>152|317=>151|318=>153|319=>154|320=>155|337=>159|338=>160|n=>n,fun|3=>3|9=>9|2=>2|4=>4|171=>176|0=>0|53=>177|37=>133|5=>5|173=>180|212=>195|51=>196|20=>20|213=>197|46=>184|232=>206|233=>207|n=>n,fun|17=>5|18=>6|19=>7|n=>n⟩
theorem Tryz.laysM171:Go.Proofs.LaysM.n171 Tryz.prog Tryz.laysM171_ren:={
  mixed:=by kernel_rfl
  f129:=Tryz.func152.trans (congrArg some (by kernel_rfl))
  f171:=Tryz.func106.trans (congrArg some (by kernel_rfl))
  f243:=Tryz.func117.trans (congrArg some (by kernel_rfl))
  f246:=Tryz.func128.trans (congrArg some (by kernel_rfl))
  f283:=Tryz.func140.trans (congrArg some (by kernel_rfl))
  f284:=Tryz.func141.trans (congrArg some (by kernel_rfl))
  f285:=Tryz.func142.trans (congrArg some (by kernel_rfl))
  f286:=Tryz.func143.trans (congrArg some (by kernel_rfl))
  f317:=Tryz.func151.trans (congrArg some (by kernel_rfl))
  f318:=Tryz.func153.trans (congrArg some (by kernel_rfl))
  f319:=Tryz.func154.trans (congrArg some (by kernel_rfl))
  f320:=Tryz.func155.trans (congrArg some (by kernel_rfl))
  f337:=Tryz.func159.trans (congrArg some (by kernel_rfl))
  f338:=Tryz.func160.trans (congrArg some (by kernel_rfl))
  t0:=Tryz.underlying0
  a0:=Tryz.isAgg0
  z0:=Tryz.sizeOf0
  v0:=Tryz.zeroValue0
  t2:=Tryz.underlying2
  a2:=Tryz.isAgg2
  z2:=Tryz.sizeOf2
  v2:=Tryz.zeroValue2
  t3:=Tryz.underlying3
  a3:=Tryz.isAgg3
  z3:=Tryz.sizeOf3
  v3:=Tryz.zeroValue3
  t4:=Tryz.underlying4
  a4:=Tryz.isAgg4
  z4:=Tryz.sizeOf4
  v4:=Tryz.zeroValue4
  t5:=Tryz.underlying5
  a5:=Tryz.isAgg5
  z5:=Tryz.sizeOf5
  v5:=Tryz.zeroValue5
  t9:=Tryz.underlying9
  a9:=Tryz.isAgg9
  z9:=Tryz.sizeOf9
  v9:=Tryz.zeroValue9
  t20:=Tryz.underlying20
  a20:=Tryz.isAgg20
  z20:=Tryz.sizeOf20
  v20:=Tryz.zeroValue20
  t37:=Tryz.underlying133
  a37:=Tryz.isAgg133
  z37:=Tryz.sizeOf133
  v37:=Tryz.zeroValue133
  t46:=Tryz.underlying184
  a46:=Tryz.isAgg184
  z46:=Tryz.sizeOf184
  v46:=Tryz.zeroValue184
  t51:=Tryz.underlying196
  a51:=Tryz.isAgg196
  z51:=Tryz.sizeOf196
  v51:=Tryz.zeroValue196
  t53:=Tryz.underlying177
  a53:=Tryz.isAgg177
  z53:=Tryz.sizeOf177
  v53:=Tryz.zeroValue177
  t171:=Tryz.underlying176
  a171:=Tryz.isAgg176
  z171:=Tryz.sizeOf176
  v171:=Tryz.zeroValue176
  t173:=Tryz.underlying180
  a173:=Tryz.isAgg180
  z173:=Tryz.sizeOf180
  v173:=Tryz.zeroValue180
  t212:=Tryz.underlying195
  a212:=Tryz.isAgg195
  z212:=Tryz.sizeOf195
  v212:=Tryz.zeroValue195
  t213:=Tryz.underlying197
  a213:=Tryz.isAgg197
  z213:=Tryz.sizeOf197
  t232:=Tryz.underlying206
  a232:=Tryz.isAgg206
  z232:=Tryz.sizeOf206
  v232:=Tryz.zeroValue206
  t233:=Tryz.underlying207
  a233:=Tryz.isAgg207
  z233:=Tryz.sizeOf207
  v233:=Tryz.zeroValue207
  g17:=by kernel_rfl
  g18:=by kernel_rfl
  g19:=by kernel_rfl
  i0:=by kernel_rfl
  i2:=by kernel_rfl
  i3:=by kernel_rfl
  i4:=by kernel_rfl
  i5:=by kernel_rfl
  i9:=by kernel_rfl
  i20:=by kernel_rfl
  i37:=by kernel_rfl
  i46:=by kernel_rfl
  i51:=by kernel_rfl
  i53:=by kernel_rfl
  i171:=by kernel_rfl
  i173:=by kernel_rfl
  i212:=by kernel_rfl
  i232:=by kernel_rfl
  i233:=by kernel_rfl
  m17:=by kernel_rfl
  m18:=by kernel_rfl
  m19:=by kernel_rfl }
def Tryz.laysC172_ren:Go.Shelf.Ren:=⟨fun|172=>109|244=>118|245=>119|247=>129|279=>130|280=>131|281=>132|282=>133|287=>144|316=>145|171=>106|205=>146|321=>156|322=>157|243=>117|246=>128|283=>140|284=>141|285=>142|286=>143|129=>152|317=>151|318=>153|319=>154|320=>155|337=>159|338=>160|n=>n,fun|9=>9|3=>3|75=>137|76=>138|4=>4|5=>5|167=>170|37=>133|0=>0|85=>171|2=>2|168=>173|53=>177|175=>182|46=>184|210=>187|127=>152|145=>202|143=>200|21=>21|171=>176|173=>180|212=>195|51=>196|20=>20|213=>197|232=>206|233=>207|80=>140|n=>n,fun|15=>1|16=>2|17=>5|18=>6|19=>7|n=>n⟩
theorem Tryz.laysC172:Go.Proofs.LaysC.n172 Tryz.prog Tryz.laysC172_ren:={
  mixed:=by kernel_rfl
  f129:=Tryz.func152.trans (congrArg some (by kernel_rfl))
  f171:=Tryz.func106.trans (congrArg some (by kernel_rfl))
  f172:=Tryz.func109.trans (congrArg some (by kernel_rfl))
  f205:=Tryz.func146.trans (congrArg some (by kernel_rfl))
  f243:=Tryz.func117.trans (congrArg some (by kernel_rfl))
  f244:=Tryz.func118.trans (congrArg some (by kernel_rfl))
  f245:=Tryz.func119.trans (congrArg some (by kernel_rfl))
  f246:=Tryz.func128.trans (congrArg some (by kernel_rfl))
  f247:=Tryz.func129.trans (congrArg some (by kernel_rfl))
  f279:=Tryz.func130.trans (congrArg some (by kernel_rfl))
  f280:=Tryz.func131.trans (congrArg some (by kernel_rfl))
  f281:=Tryz.func132.trans (congrArg some (by kernel_rfl))
  f282:=Tryz.func133.trans (congrArg some (by kernel_rfl))
  f283:=Tryz.func140.trans (congrArg some (by kernel_rfl))
  f284:=Tryz.func141.trans (congrArg some (by kernel_rfl))
  f285:=Tryz.func142.trans (congrArg some (by kernel_rfl))
  f286:=Tryz.func143.trans (congrArg some (by kernel_rfl))
  f287:=Tryz.func144.trans (congrArg some (by kernel_rfl))
  f316:=Tryz.func145.trans (congrArg some (by kernel_rfl))
  f317:=Tryz.func151.trans (congrArg some (by kernel_rfl))
  f318:=Tryz.func153.trans (congrArg some (by kernel_rfl))
  f319:=Tryz.func154.trans (congrArg some (by kernel_rfl))
  f320:=Tryz.func155.trans (congrArg some (by kernel_rfl))
  f321:=Tryz.func156.trans (congrArg some (by kernel_rfl))
  f322:=Tryz.func157.trans (congrArg some (by kernel_rfl))
  f337:=Tryz.func159.trans (congrArg some (by kernel_rfl))
  f338:=Tryz.func160.trans (congrArg some (by kernel_rfl))
  t0:=Tryz.underlying0
  a0:=Tryz.isAgg0
  z0:=Tryz.sizeOf0
  v0:=Tryz.zeroValue0
  t2:=Tryz.underlying2
  a2:=Tryz.isAgg2
  z2:=Tryz.sizeOf2
  v2:=Tryz.zeroValue2
  t3:=Tryz.underlying3
  a3:=Tryz.isAgg3
  z3:=Tryz.sizeOf3
  v3:=Tryz.zeroValue3
  t4:=Tryz.underlying4
  a4:=Tryz.isAgg4
  z4:=Tryz.sizeOf4
  v4:=Tryz.zeroValue4
  t5:=Tryz.underlying5
  a5:=Tryz.isAgg5
  z5:=Tryz.sizeOf5
  v5:=Tryz.zeroValue5
  t9:=Tryz.underlying9
  a9:=Tryz.isAgg9
  z9:=Tryz.sizeOf9
  v9:=Tryz.zeroValue9
  t20:=Tryz.underlying20
  a20:=Tryz.isAgg20
  z20:=Tryz.sizeOf20
  v20:=Tryz.zeroValue20
  t21:=Tryz.underlying21
  a21:=Tryz.isAgg21
  z21:=Tryz.sizeOf21
  v21:=Tryz.zeroValue21
  t37:=Tryz.underlying133
  a37:=Tryz.isAgg133
  z37:=Tryz.sizeOf133
  v37:=Tryz.zeroValue133
  t46:=Tryz.underlying184
  a46:=Tryz.isAgg184
  z46:=Tryz.sizeOf184
  v46:=Tryz.zeroValue184
  t51:=Tryz.underlying196
  a51:=Tryz.isAgg196
  z51:=Tryz.sizeOf196
  v51:=Tryz.zeroValue196
  t53:=Tryz.underlying177
  a53:=Tryz.isAgg177
  z53:=Tryz.sizeOf177
  v53:=Tryz.zeroValue177
  t75:=Tryz.underlying137
  a75:=Tryz.isAgg137
  z75:=Tryz.sizeOf137
  v75:=Tryz.zeroValue137
  t76:=Tryz.underlying138
  a76:=Tryz.isAgg138
  z76:=Tryz.sizeOf138
  v76:=Tryz.zeroValue138
  t85:=Tryz.underlying171
  a85:=Tryz.isAgg171
  z85:=Tryz.sizeOf171
  v85:=Tryz.zeroValue171
  t127:=Tryz.underlying152
  a127:=Tryz.isAgg152
  z127:=Tryz.sizeOf152
  v127:=Tryz.zeroValue152
  t143:=Tryz.underlying200
  a143:=Tryz.isAgg200
  z143:=Tryz.sizeOf200
  v143:=Tryz.zeroValue200
  t145:=Tryz.underlying202
  a145:=Tryz.isAgg202
  z145:=Tryz.sizeOf202
  v145:=Tryz.zeroValue202
  t167:=Tryz.underlying170
  a167:=Tryz.isAgg170
  z167:=Tryz.sizeOf170
  v167:=Tryz.zeroValue170
  t168:=Tryz.underlying173
  a168:=Tryz.isAgg173
  z168:=Tryz.sizeOf173
  v168:=Tryz.zeroValue173
  t171:=Tryz.underlying176
  a171:=Tryz.isAgg176
  z171:=Tryz.sizeOf176
  v171:=Tryz.zeroValue176
  t173:=Tryz.underlying180
  a173:=Tryz.isAgg180
  z173:=Tryz.sizeOf180
  v173:=Tryz.zeroValue180
  t175:=Tryz.underlying182
  a175:=Tryz.isAgg182
  z175:=Tryz.sizeOf182
  v175:=Tryz.zeroValue182
  t210:=Tryz.underlying187
  a210:=Tryz.isAgg187
  z210:=Tryz.sizeOf187
  v210:=Tryz.zeroValue187
  t212:=Tryz.underlying195
  a212:=Tryz.isAgg195
  z212:=Tryz.sizeOf195
  v212:=Tryz.zeroValue195
  t213:=Tryz.underlying197
  a213:=Tryz.isAgg197
  z213:=Tryz.sizeOf197
  t232:=Tryz.underlying206
  a232:=Tryz.isAgg206
  z232:=Tryz.sizeOf206
  v232:=Tryz.zeroValue206
  t233:=Tryz.underlying207
  a233:=Tryz.isAgg207
  z233:=Tryz.sizeOf207
  v233:=Tryz.zeroValue207
  g15:=by kernel_rfl
  g16:=by kernel_rfl
  g17:=by kernel_rfl
  g18:=by kernel_rfl
  g19:=by kernel_rfl
  t80:=Tryz.underlying140
  a80:=Tryz.isAgg140
  z80:=Tryz.sizeOf140
  v80:=Tryz.zeroValue140
  i0:=by kernel_rfl
  i2:=by kernel_rfl
  i3:=by kernel_rfl
  i4:=by kernel_rfl
  i5:=by kernel_rfl
  i9:=by kernel_rfl
  i20:=by kernel_rfl
  i21:=by kernel_rfl
  i37:=by kernel_rfl
  i46:=by kernel_rfl
  i51:=by kernel_rfl
  i53:=by kernel_rfl
  i75:=by kernel_rfl
  i76:=by kernel_rfl
  i80:=by kernel_rfl
  i85:=by kernel_rfl
  i127:=by kernel_rfl
  i143:=by kernel_rfl
  i145:=by kernel_rfl
  i167:=by kernel_rfl
  i168:=by kernel_rfl
  i171:=by kernel_rfl
  i173:=by kernel_rfl
  i175:=by kernel_rfl
  i210:=by kernel_rfl
  i212:=by kernel_rfl
  i232:=by kernel_rfl
  i233:=by kernel_rfl
  m15:=by kernel_rfl
  m16:=by kernel_rfl
  m17:=by kernel_rfl
  m18:=by kernel_rfl
  m19:=by kernel_rfl
  c0:=by kernel_rfl
  c2:=by kernel_rfl
  c3:=by kernel_rfl
  c4:=by kernel_rfl
  c5:=by kernel_rfl
  c9:=by kernel_rfl
  c20:=by kernel_rfl
  c21:=by kernel_rfl
  c37:=by kernel_rfl
  c46:=by kernel_rfl
  c51:=by kernel_rfl
  c53:=by kernel_rfl
  c75:=by kernel_rfl
  c76:=by kernel_rfl
  c80:=by kernel_rfl
  c85:=by kernel_rfl
  c127:=by kernel_rfl
  c143:=by kernel_rfl
  c145:=by kernel_rfl
  c167:=by kernel_rfl
  c168:=by kernel_rfl
  c171:=by kernel_rfl
  c173:=by kernel_rfl
  c175:=by kernel_rfl
  c210:=by kernel_rfl
  c212:=by kernel_rfl
  c213:=by kernel_rfl
  c232:=by kernel_rfl
  c233:=by kernel_rfl }
def Tryz.laysM154_ren:Go.Shelf.Ren:=⟨fun|154=>110|138=>120|165=>121|143=>122|166=>77|197=>123|169=>78|195=>134|218=>135|240=>97|241=>136|219=>137|260=>138|276=>105|277=>147|217=>115|225=>148|224=>149|267=>150|266=>125|314=>158|n=>n,fun|9=>9|3=>3|4=>4|72=>135|0=>0|76=>138|105=>165|21=>21|5=>5|70=>132|20=>20|37=>133|75=>137|127=>152|164=>156|46=>184|119=>190|139=>193|138=>192|146=>203|51=>196|80=>140|n=>n,fun|1=>0|3=>3|4=>4|n=>n⟩
theorem Tryz.laysM154:Go.Proofs.LaysM.n154 Tryz.prog Tryz.laysM154_ren:={
  mixed:=by kernel_rfl
  f138:=Tryz.func120.trans (congrArg some (by kernel_rfl))
  f143:=Tryz.func122.trans (congrArg some (by kernel_rfl))
  f154:=Tryz.func110.trans (congrArg some (by kernel_rfl))
  f165:=Tryz.func121.trans (congrArg some (by kernel_rfl))
  f166:=Tryz.func77.trans (congrArg some (by kernel_rfl))
  f169:=Tryz.func78.trans (congrArg some (by kernel_rfl))
  f195:=Tryz.func134.trans (congrArg some (by kernel_rfl))
  f197:=Tryz.func123.trans (congrArg some (by kernel_rfl))
  f217:=Tryz.func115.trans (congrArg some (by kernel_rfl))
  f218:=Tryz.func135.trans (congrArg some (by kernel_rfl))
  f219:=Tryz.func137.trans (congrArg some (by kernel_rfl))
  f224:=Tryz.func149.trans (congrArg some (by kernel_rfl))
  f225:=Tryz.func148.trans (congrArg some (by kernel_rfl))
  f240:=Tryz.func97.trans (congrArg some (by kernel_rfl))
  f241:=Tryz.func136.trans (congrArg some (by kernel_rfl))
  f260:=Tryz.func138.trans (congrArg some (by kernel_rfl))
  f266:=Tryz.func125.trans (congrArg some (by kernel_rfl))
  f267:=Tryz.func150.trans (congrArg some (by kernel_rfl))
  f276:=Tryz.func105.trans (congrArg some (by kernel_rfl))
  f277:=Tryz.func147.trans (congrArg some (by kernel_rfl))
  f314:=Tryz.func158.trans (congrArg some (by kernel_rfl))
  t0:=Tryz.underlying0
  a0:=Tryz.isAgg0
  z0:=Tryz.sizeOf0
  v0:=Tryz.zeroValue0
  t3:=Tryz.underlying3
  a3:=Tryz.isAgg3
  z3:=Tryz.sizeOf3
  v3:=Tryz.zeroValue3
  t4:=Tryz.underlying4
  a4:=Tryz.isAgg4
  z4:=Tryz.sizeOf4
  v4:=Tryz.zeroValue4
  t5:=Tryz.underlying5
  a5:=Tryz.isAgg5
  z5:=Tryz.sizeOf5
  v5:=Tryz.zeroValue5
  t9:=Tryz.underlying9
  a9:=Tryz.isAgg9
  z9:=Tryz.sizeOf9
  v9:=Tryz.zeroValue9
  t20:=Tryz.underlying20
  a20:=Tryz.isAgg20
  z20:=Tryz.sizeOf20
  v20:=Tryz.zeroValue20
  t21:=Tryz.underlying21
  a21:=Tryz.isAgg21
  z21:=Tryz.sizeOf21
  v21:=Tryz.zeroValue21
  t37:=Tryz.underlying133
  a37:=Tryz.isAgg133
  z37:=Tryz.sizeOf133
  v37:=Tryz.zeroValue133
  t46:=Tryz.underlying184
  a46:=Tryz.isAgg184
  z46:=Tryz.sizeOf184
  v46:=Tryz.zeroValue184
  t51:=Tryz.underlying196
  a51:=Tryz.isAgg196
  z51:=Tryz.sizeOf196
  v51:=Tryz.zeroValue196
  t70:=Tryz.underlying132
  a70:=Tryz.isAgg132
  z70:=Tryz.sizeOf132
  v70:=Tryz.zeroValue132
  t72:=Tryz.underlying135
  a72:=Tryz.isAgg135
  z72:=Tryz.sizeOf135
  v72:=Tryz.zeroValue135
  t75:=Tryz.underlying137
  a75:=Tryz.isAgg137
  z75:=Tryz.sizeOf137
  v75:=Tryz.zeroValue137
  t76:=Tryz.underlying138
  a76:=Tryz.isAgg138
  z76:=Tryz.sizeOf138
  v76:=Tryz.zeroValue138
  t105:=Tryz.underlying165
  a105:=Tryz.isAgg165
  z105:=Tryz.sizeOf165
  v105:=Tryz.zeroValue165
  t119:=Tryz.underlying190
  a119:=Tryz.isAgg190
  z119:=Tryz.sizeOf190
  t127:=Tryz.underlying152
  a127:=Tryz.isAgg152
  z127:=Tryz.sizeOf152
  v127:=Tryz.zeroValue152
  t138:=Tryz.underlying192
  a138:=Tryz.isAgg192
  z138:=Tryz.sizeOf192
  v138:=Tryz.zeroValue192
  t139:=Tryz.underlying193
  a139:=Tryz.isAgg193
  z139:=Tryz.sizeOf193
  v139:=Tryz.zeroValue193
  t146:=Tryz.underlying203
  a146:=Tryz.isAgg203
  z146:=Tryz.sizeOf203
  v146:=Tryz.zeroValue203
  t164:=Tryz.underlying156
  a164:=Tryz.isAgg156
  z164:=Tryz.sizeOf156
  v164:=Tryz.zeroValue156
  g1:=by kernel_rfl
  g3:=by kernel_rfl
  g4:=by kernel_rfl
  t80:=Tryz.underlying140
  a80:=Tryz.isAgg140
  z80:=Tryz.sizeOf140
  v80:=Tryz.zeroValue140
  i0:=by kernel_rfl
  i3:=by kernel_rfl
  i4:=by kernel_rfl
  i5:=by kernel_rfl
  i9:=by kernel_rfl
  i20:=by kernel_rfl
  i21:=by kernel_rfl
  i37:=by kernel_rfl
  i46:=by kernel_rfl
  i51:=by kernel_rfl
  i70:=by kernel_rfl
  i72:=by kernel_rfl
  i75:=by kernel_rfl
  i76:=by kernel_rfl
  i80:=by kernel_rfl
  i105:=by kernel_rfl
  i127:=by kernel_rfl
  i138:=by kernel_rfl
  i139:=by kernel_rfl
  i146:=by kernel_rfl
  i164:=by kernel_rfl
  m1:=by kernel_rfl
  s1_3:=fun w h=>Go.Proofs.cell_of_shapedOpen_int (zero := #[.int .i64 0]) (t:=3) h (of_decide_eq_true (by kernel_rfl)) (by kernel_rfl) rfl (by kernel_rfl) (by kernel_rfl) Tryz.underlying3
  m3:=by kernel_rfl
  m4:=by kernel_rfl }
theorem Tryz.Builder_Extra_M154:Builder.Extra Tryz.prog Tryz.laysM154_ren:={
  sizeBuilder:=by kernel_rfl
  liesBuilder:=by kernel_rfl
  t5:=Tryz.underlying5
  a5:=Tryz.isAgg5
  z5:=Tryz.sizeOf5
  v5:=Tryz.zeroValue5
  infoByte:=by kernel_rfl
  cellsByte:=by kernel_rfl
  sizeByte:=by kernel_rfl
  neB5:=by decide }
end Go.Proofs
end
/- How a shallow unit is followed: equations for simp. -/
section
set_option linter.unusedSimpArgs false
set_option linter.unusedVariables false
namespace Pay
open Go
set_option maxHeartbeats 400000
section
variable {C:Ctx}{I:Nat→Prop}{st st':St}{Q:Ex→St→Prop}{K:St→Prop}{dst:Option Nat}
theorem wpB_congr {c:ACode}(h:st=st'):wpB C I c st Q=wpB C I c st' Q:=by rw [h]
theorem opsB_congr {os:List AOper}(h:st=st'):opsB C I os st K=opsB C I os st' K:=by rw [h]
theorem treeB_congr {os:List AOper}{t:Tr}(h:st=st'):treeB C I os t st K=treeB C I os t st' K:=by rw [h]
theorem drawB_congr {os:List AOper}{is:List Nat}{t:Tr}(h:st=st'):drawB C I os is t st K=drawB C I os is t st' K:=by rw [h]
theorem fnK_congr {v v':V}{F:Nat→List V→Prop}(h:v=v'):fnK v F=fnK v' F:=by rw [h]
theorem freeK_congr {n n':Nat}{F:St→Prop}(h:st=st')(hn:n=n'):freeK st n F=freeK st' n' F:=by rw [h,hn]
theorem frzK_congr {ts:List Nat}{F:St→Prop}(h:st=st'):frzK st ts F=frzK st' ts F:=by rw [h]
theorem nilSK_congr {b:Bool}{v v':V}{F:V→Prop}(h:v=v'):nilSK b v F=nilSK b v' F:=by rw [h]
theorem callK_congr {f f':Nat}{xs xs':List V}{F:V→(Nat→Option Ob)→Prop}(h:st=st')(hf:f=f')(hx:xs=xs'):callK C I st dst f xs F=callK C I st' dst f' xs' F:=by rw [h,hf,hx]
theorem callE_congr {f:Nat}{xs xs':List V}{F:V→(Nat→Option Ob)→Prop}(h:st=st')(hx:xs=xs'):callE C I st dst f xs F=callE C I st' dst f xs' F:=by rw [h,hx]
attribute [congr] wpB_congr opsB_congr treeB_congr drawB_congr fnK_congr freeK_congr frzK_congr nilSK_congr callK_congr callE_congr
theorem treeB_done {os:List AOper}:treeB C I os .done st K=K st:=rfl
theorem drawB_done {os:List AOper}{t:Tr}:drawB C I os [] t st K=treeB C I os t st K:=rfl
theorem fnK_f {f:Nat}{cs:List V}{F:Nat→List V→Prop}:fnK (.fn f cs) F=F f cs:=propext Iff.rfl
theorem shareK_b {α:Sort _}{F:α}{G:α→Prop}:shareK F G=G F:=rfl
theorem frzK_0 {F:St→Prop}:frzK st [] F=F st:=rfl
def rowE (x:Option Ob)(A:Nat→List (List D)→Prop)(B:Prop):Prop:=match x with|some (.row sz es)=>A sz es|_=>B
theorem rowE_congr {x y:Option Ob}{A:Nat→List (List D)→Prop}{B:Prop}(h:x=y):rowE x A B=rowE y A B:=by rw [h]
attribute [congr] rowE_congr
theorem rowE_r {sz:Nat}{es:List (List D)}{A:Nat→List (List D)→Prop}{B:Prop}:rowE (some (.row sz es)) A B=A sz es:=rfl
theorem rowE_n {A:Nat→List (List D)→Prop}{B:Prop}:rowE none A B=B:=rfl
theorem freeK_mk {s:Nat→V}{o:Nat→Option Ob}{n:Nat}{F:St→Prop}:freeK (St.mk s o) n F=rowE (o n) (fun _ es=>F (St.mk (fun t=>V.thaw n es (s t)) (fun m=>if m=n then none else (o m).map (Ob.thaw n es)))) (F (St.mk s o)):=by
  unfold freeK St.free
  simp only
  cases h:o n with
  | none=>rfl
  | some x=>cases x <;> rfl
def ownsW (v:V)(o:Nat→Option Ob):List Nat:=match v with
  | .ptr n _=>(match o n with|some (.box cs)=>V.owns.ownsL cs|_=>[])
  | v=>V.owns v
def boxOwns (x:Option Ob):List Nat:=match x with|some (.box cs)=>V.owns.ownsL cs|_=>[]
theorem boxOwns_d {k:Nat}:boxOwns (some (.bld k))=[]:=rfl
theorem boxOwns_b {cs:List V}:boxOwns (some (.box cs))=V.owns.ownsL cs:=rfl
theorem ownsW_ptr {n off:Nat}{o:Nat→Option Ob}:ownsW (.ptr n off) o=boxOwns (o n):=rfl
theorem ownsW_d {x:D}{o:Nat→Option Ob}:ownsW (.d x) o=[]:=rfl
theorem ownsW_cap0 {o:Nat→Option Ob}:ownsW .cap0 o=[]:=rfl
theorem ownsW_own {n:Nat}{o:Nat→Option Ob}:ownsW (.own n) o=[n]:=rfl
theorem ownsW_agg {cs:List V}{o:Nat→Option Ob}:ownsW (.agg cs) o=V.owns.ownsL cs:=rfl
def freesK (st:St)(ns:List Nat)(F:St→Prop):Prop:=F (st.frees ns)
theorem freesK_congr {ns ns':List Nat}{F:St→Prop}(h:st=st')(hn:ns=ns'):freesK st ns F=freesK st' ns' F:=by rw [h,hn]
attribute [congr] freesK_congr
theorem freesK_0 {F:St→Prop}:freesK st [] F=F st:=rfl
theorem freesK_1 {n:Nat}{ns:List Nat}{F:St→Prop}:freesK st (n::ns) F=freeK st n (fun st=>freesK st ns F):=rfl
theorem frzK_1 {s:Nat→V}{o:Nat→Option Ob}{t:Nat}{ts:List Nat}{F:St→Prop}:frzK (St.mk s o) (t::ts) F=freesK (St.mk s o) (ownsW (s t) o) (fun st=>frzK st ts F):=rfl
theorem nilSK_n {b:Bool}{F:V→Prop}:nilSK b .cap0 F=∀ c,F (.d (.bool c)):=propext Iff.rfl
theorem nilSK_0 {b:Bool}{F:V→Prop}:nilSK b (.d (.sl [])) F=∀ c,F (.d (.bool c)):=propext Iff.rfl
theorem nilSK_c {b:Bool}{e:List D}{es:List (List D)}{F:V→Prop}:nilSK b (.d (.sl (e::es))) F=F (.d (.bool b)):=propext Iff.rfl
theorem nrfl {α:Sort _}{a b:α}(h:a=b):a=b:=by cases h;rfl
theorem pickV_b {t:Bool}{a b:V}:pickV (.d (.bool t)) a b=some (if t=true then a else b):=rfl
theorem convV_i {k k':IntKind}{n:Int}:convV k (.d (.int k' n))=some (.d (.int k (k.wrap n))):=rfl
theorem sameV_s {s:List UInt8}:sameV (.d (.str s))=some (.d (.str s)):=rfl
theorem extV_t {vs:List V}{i:Nat}:extV (.tup vs) i=vs[i]? := rfl
theorem lenSV_s {s:List UInt8}:lenSV (.d (.str s))=some (.d (.int .i64 s.length)):=rfl
theorem nilcV_p {n off:Nat}:nilcV (.ptr n off)=some (.ptr n off):=rfl
theorem nilcV_f {f:Nat}{cs:List V}:nilcV (.fn f cs)=some (.fn f cs):=rfl
theorem eqsV_a {neq:Bool}{ks:List Nat}{xs ys:List V}:eqsV neq ks (.agg xs) (.agg ys)=(match eqCells ks xs ys with|some b=>some (.d (.bool (if neq=true then !b else b)))|none=>none):=rfl
theorem beqV_b {neq b c:Bool}:beqV neq (.d (.bool b)) (.d (.bool c))=some (.d (.bool (if neq=true then !(b==c) else b==c))):=rfl
theorem nilEV_e {neq b:Bool}:nilEV neq (.d (.err b))=some (.d (.bool (if neq=true then !b else b))):=rfl
theorem nilPV_p {neq:Bool}{n off:Nat}:nilPV neq (.ptr n off)=some (.d (.bool neq)):=rfl
theorem nilPV_n {neq:Bool}:nilPV neq .nilp=some (.d (.bool (!neq))):=rfl
theorem trim_some {s:Nat→V}{o:Nat→Option Ob}{tr ns:List Nat}:St.trim (St.mk s o) tr (some ns)=St.mk (look (tr.map fun k=>(k,s k))) (looko (ns.map fun n=>(n,o n))):=nrfl rfl
theorem trim_none {s:Nat→V}{o:Nat→Option Ob}{tr:List Nat}:St.trim (St.mk s o) tr none=St.mk (look (tr.map fun k=>(k,s k))) o:=nrfl rfl
theorem look_cons (k:Nat)(v:V)(l:List (Nat × V))(n:Nat):look ((k,v)::l) n=if n=k then v else look l n:=nrfl rfl
theorem look_nil (n:Nat):look [] n = .undef:=nrfl rfl
theorem looko_cons (k:Nat)(v:Option Ob)(l:List (Nat × Option Ob))(n:Nat):looko ((k,v)::l) n=if n=k then v else looko l n:=nrfl rfl
theorem looko_nil (n:Nat):looko [] n=none:=nrfl rfl
theorem upd_look (l:List (Nat × V))(d:Nat)(v:V):upd (look l) d v=look ((d,v)::l):=nrfl rfl
def setL (m:Nat)(y:Option Ob):List (Nat × Option Ob)→List (Nat × Option Ob)
  | []=>[(m,y)]
  | (k,x)::l=>if m=k then (m,y)::l else (k,x)::setL m y l
theorem setL_nil (m:Nat)(y:Option Ob):setL m y []=[(m,y)]:=nrfl rfl
theorem setL_cons (m:Nat)(y:Option Ob)(k:Nat)(x:Option Ob)(l:List (Nat × Option Ob)):setL m y ((k,x)::l)=if m=k then (m,y)::l else (k,x)::setL m y l:=nrfl rfl
theorem looko_setL (m:Nat)(y:Option Ob):∀ (l:List (Nat × Option Ob))(n:Nat),looko (setL m y l) n=if n=m then y else looko l n
  | [],n=>rfl
  | (k,x)::l,n=>by
    simp only [setL]
    split
    · rename_i h;subst h;simp only [looko];split <;> rfl
    · rename_i h
      simp only [looko,looko_setL m y l n]
      by_cases h1:n=k
      · subst h1;simp [show ¬n=m from fun e=>h e.symm]
      · simp [h1]
theorem upd_setL (l:List (Nat × Option Ob))(m:Nat)(y:Option Ob):upd (looko l) m y=looko (setL m y l):=by
  funext n;rw [looko_setL];rfl
theorem upd_at {α:Type}(f:Nat→α)(n:Nat)(x:α)(m:Nat):upd f n x m=if m=n then x else f m:=nrfl rfl
theorem setRange_all {α:Type}{cs new:List α}(h:new.length=cs.length):setRange cs 0 new=new:=by
  simp [setRange,h]
theorem callE_own {f:Nat}{xs:List V}{F:V→(Nat→Option Ob)→Prop}{m sz:Nat}{es:List (List D)}(h:SoundAt C f ⟨xs,looko []⟩ ⟨.own m,looko [(m,some (.row sz es))]⟩)(hI:¬I m)(hf:Fresh st m dst)
    (hK:F (.own m) (upd st.o m (some (.row sz es)))):callE C I st dst f xs F:=by
  have e2:mixO (fun _=>false) st.o (looko [(m,some (.row sz es))])=upd st.o m (some (.row sz es)):=by
    funext n
    simp only [mixO,looko,upd]
    by_cases e:n=m
    · subst e;simp
    · simp [e]
  refine ⟨⟨.own m,looko [(m,some (.row sz es))]⟩,h,⟨fun n hn=>.inr ?_,fun n hn=>.inl ?_,(fun n x hx k hk => ?_),fun n h=>h.elim⟩,by rw [e2];exact hK⟩
  · by_cases e:n=m
    · subst e;exact ⟨hI,hf⟩
    · simp [looko,e] at hn
  · simp only [V.refs,beq_iff_eq] at hn
    subst hn;simp [looko]
  · by_cases e:n=m
    · subst e
      simp [looko] at hx
      subst hx
      cases hk
    · simp [looko,e] at hx
theorem callK_own {f:Nat}{xs:List V}{F:V→(Nat→Option Ob)→Prop}{m sz:Nat}{es:List (List D)}(h:SoundAt C f ⟨xs,looko []⟩ ⟨.own m,looko [(m,some (.row sz es))]⟩)(hI:¬I m)(hf:Fresh st m dst)
    (hK:F (.own m) (upd st.o m (some (.row sz es)))):callK C I st dst f xs F:=by
  obtain ⟨cout,h1,h2,h3⟩:=callE_own (F:=F) h hI hf hK
  exact ⟨fun _=>false,fun _=>False,cout,by rw [exO_none];exact h1,h2,h3⟩
theorem scrubV_d (m:Nat)(x:D):scrubV m (.d x) = .d x:=rfl
theorem scrubV_cap0 (m:Nat):scrubV m .cap0 = .cap0:=rfl
theorem scrubV_ptr (m n off:Nat):scrubV m (.ptr n off)=if (n==m)=true then .undef else .ptr n off:=rfl
theorem scrubV_mref (m n:Nat):scrubV m (.mref n)=if (n==m)=true then .undef else .mref n:=rfl
theorem scrubV_own (m n:Nat):scrubV m (.own n)=if (n==m)=true then .undef else .own n:=rfl
theorem scrubV_agg (m:Nat)(cs:List V):scrubV m (.agg cs)=if V.refsL m cs=true then .undef else .agg cs:=rfl
theorem scrubV_undef (m:Nat):scrubV m .undef = .undef:=rfl
theorem scrub_box (m:Nat)(cs:List V):Ob.scrub m (.box cs) = .box (cs.map (scrubV m)):=rfl
theorem scrub_brow (m:Nat)(s:List UInt8):Ob.scrub m (.brow s) = .brow s:=rfl
theorem scrub_bld (m k:Nat):Ob.scrub m (.bld k)=if k=m then .box [.undef,.undef] else .bld k:=rfl
theorem scrub_map (m:Nat)(kvs:List (D × D)):Ob.scrub m (.map kvs) = .map kvs:=rfl
theorem scrub_row (m sz:Nat)(es:List (List D)):Ob.scrub m (.row sz es) = .row sz es:=rfl
theorem toDs_map:∀ (ds:List D),toDs (ds.map V.d)=some ds
  | []=>rfl
  | d::ds=>by simp [toDs,toD,toDs_map ds]
theorem toDs_cons (d:D)(vs:List V):toDs (.d d::vs)=(toDs vs).map (d :: ·):=by
  simp only [toDs,toD];cases toDs vs <;> rfl
theorem toDs_nil:toDs []=some []:=rfl
theorem readD_sl (o:Nat→Option Ob)(es:List (List D)):readD o (.d (.sl es))=some es:=rfl
def kvE (p:Int × Int):D × D:=(.int .i64 p.1,.int .i64 p.2)
def getN (k:Int):List (Int × Int)→Option Int
  | []=>none
  | p::r=>if k=p.1 then some p.2 else getN k r
def putN (k x:Int):List (Int × Int)→List (Int × Int)
  | []=>[(k,x)]
  | p::r=>if k=p.1 then (k,x)::r else p::putN k x r
theorem kvGet_n (k:Int):∀ (l:List (Int × Int)),kvGet (.int .i64 k) (l.map kvE)=some ((getN k l).map (D.int .i64))
  | []=>rfl
  | p :: r=>by
    simp only [List.map_cons,kvGet,kvE,keyEq,getN,if_true]
    by_cases h:k=p.1
    · simp [h]
    · have h':(k==p.1)=false:=by simp [h]
      simp only [h',h,if_false]
      exact kvGet_n k r
theorem kvSet_n (k x:Int):∀ (l:List (Int × Int)),kvSet (.int .i64 k) (.int .i64 x) (l.map kvE)=some ((putN k x l).map kvE)
  | []=>rfl
  | p :: r=>by
    simp only [List.map_cons,kvSet,kvE,keyEq,putN,if_true]
    by_cases h:k=p.1
    · simp [h,kvE]
    · have h':(k==p.1)=false:=by simp [h]
      have ih:=kvSet_n k x r
      simp only [h',h,if_false,ih,List.map_cons,kvE]
theorem getD_int (x:Option Int):(x.map (D.int .i64)).getD (.int .i64 0) = .int .i64 (x.getD 0):=by cases x <;> rfl
theorem isSome_int (x:Option Int):(x.map (D.int .i64)).isSome=x.isSome:=by cases x <;> rfl
theorem thaw_d (n:Nat)(es:List (List D))(x:D):V.thaw n es (.d x) = .d x:=rfl
theorem thaw_cap0 (n:Nat)(es:List (List D)):V.thaw n es .cap0 = .cap0:=rfl
theorem thaw_own (n:Nat)(es:List (List D))(m:Nat):V.thaw n es (.own m)=if m=n then .d (.sl es) else .own m:=rfl
theorem thaw_ptr (n:Nat)(es:List (List D))(m off:Nat):V.thaw n es (.ptr m off)=if m=n then .undef else .ptr m off:=rfl
theorem thaw_mref (n:Nat)(es:List (List D))(m:Nat):V.thaw n es (.mref m)=if m=n then .undef else .mref m:=rfl
theorem thaw_undef (n:Nat)(es:List (List D)):V.thaw n es .undef = .undef:=rfl
theorem thaw_agg (n:Nat)(es:List (List D))(cs:List V):V.thaw n es (.agg cs) = .agg (V.thaws n es cs):=rfl
theorem thaws_nil (n:Nat)(es:List (List D)):V.thaws n es []=[]:=rfl
theorem thaws_cons (n:Nat)(es:List (List D))(c:V)(cs:List V):V.thaws n es (c::cs)=V.thaw n es c::V.thaws n es cs:=rfl
theorem thaws_map (n:Nat)(es:List (List D)):∀ (ds:List D),V.thaws n es (ds.map V.d)=ds.map V.d
  | []=>rfl
  | d::ds=>by simp only [List.map_cons,thaws_cons,thaw_d,thaws_map n es ds]
theorem obthaw_brow (n:Nat)(es:List (List D))(s:List UInt8):Ob.thaw n es (.brow s) = .brow s:=rfl
theorem obthaw_bld (n:Nat)(es:List (List D))(k:Nat):Ob.thaw n es (.bld k)=if k=n then .box [.undef,.undef] else .bld k:=rfl
theorem obthaw_box (n:Nat)(es:List (List D))(cs:List V):Ob.thaw n es (.box cs) = .box (V.thaws n es cs):=rfl
theorem obthaw_row (n:Nat)(es:List (List D))(sz:Nat)(r:List (List D)):Ob.thaw n es (.row sz r) = .row sz r:=rfl
theorem obthaw_map (n:Nat)(es:List (List D))(kvs:List (D × D)):Ob.thaw n es (.map kvs) = .map kvs:=rfl
mutual
def V.up:V→V
  | .cap0=>.d (.sl [])
  | .agg cs=>.agg (V.ups cs)
  | .tup cs=>.tup (V.ups cs)
  | v=>v
def V.ups:List V→List V
  | []=>[]
  | c::cs=>V.up c::V.ups cs
end
mutual
theorem RepV.up {C:Ctx}{w:World}{ok:Nat→Prop}{γ:Nat→Value}:∀ (v:V)(u:Value),RepV C w ok γ v u→RepV C w ok γ v.up u
  | .cap0,u,h=>by
    obtain ⟨A,rfl⟩:=h
    exact ⟨A,0,0,rfl,Nat.le_refl _,fun e he=>(by cases he),fun h=>absurd rfl h⟩
  | .agg cs,u,h=>by
    obtain ⟨us,e,h1,h2⟩:=h
    exact ⟨us,e,RepVs.up cs us h1,h2⟩
  | .tup cs,u,h=>by
    obtain ⟨us,e,h1⟩:=h
    exact ⟨us,e,RepVs.up cs us h1⟩
  | .d _,_,h=>h
  | .nilp,_,h=>h
  | .ptr _ _,_,h=>h
  | .own _,_,h=>h
  | .eptr _ _ _ _,_,h=>h
  | .cptr _,_,h=>h
  | .fn _ _,_,h=>h
  | .mref _,_,h=>h
  | .undef,_,h=>h
theorem RepVs.up {C:Ctx}{w:World}{ok:Nat→Prop}{γ:Nat→Value}:∀ (cs:List V)(us:List Value),RepVs C w ok γ cs us→RepVs C w ok γ (V.ups cs) us
  | [],us,h=>h
  | c::cs,us,h=>by
    obtain ⟨u,us',e,h1,h2⟩:=h
    exact ⟨u,us',e,RepV.up c u h1,RepVs.up cs us' h2⟩
end
theorem SoundAt.up {f:Nat}{xs:List V}{o:Nat→Option Ob}{cout:RS}(h:SoundAt C f ⟨V.ups xs,o⟩ cout):SoundAt C f ⟨xs,o⟩ cout:=by
  intro w S M γ us hp
  have h1:=h w S M γ us ⟨hp.env,RepVs.up _ _ hp.args,hp.objs,hp.sep,hp.muts⟩
  exact Enters.mono h1 (fun v w' ⟨γ',q⟩=>⟨γ',⟨q.res,q.objs,q.sep,q.muts,q.fram,q.hdr⟩⟩)
theorem SoundAt.res_up {f:Nat}{cin:CS}{r:V}{o:Nat→Option Ob}(h:SoundAt C f cin ⟨r,o⟩):SoundAt C f cin ⟨r.up,o⟩:=by
  intro w S M γ us hp
  exact Enters.mono (h w S M γ us hp) (fun v w' ⟨γ',q⟩=>⟨γ',⟨RepV.up _ _ q.res,q.objs,q.sep,q.muts,q.fram,q.hdr⟩⟩)
theorem scrub_map_d (m:Nat)(ds:List D):(ds.map V.d).map (scrubV m)=ds.map V.d:=by
  rw [List.map_map];rfl
def ownV {α:Type}(m:Nat):List α→V
  | []=>.cap0
  | _::_=>.own m
def ownO {α:Type}(sz:Nat)(f:α→List D):List α→Option Ob
  | []=>none
  | a::r=>some (.row sz ((a::r).map f))
theorem ownV_snoc {α:Type}(m:Nat)(xs:List α)(x:α):ownV m (xs++[x]) = .own m:=by cases xs <;> rfl
theorem ownO_snoc {α:Type}(sz:Nat)(f:α→List D)(xs:List α)(x:α):ownO sz f (xs++[x])=some (.row sz (xs.map f++[f x])):=by cases xs <;> simp [ownO]
def slV {α:Type}(f:α→List D):List α→V
  | []=>.cap0
  | a::r=>.d (.sl ((a::r).map f))
theorem slV_up {α:Type}(f:α→List D)(xs:List α):(slV f xs).up = .d (.sl (xs.map f)):=by cases xs <;> rfl
theorem callK_plain {f:Nat}{xs:List V}{F:V→(Nat→Option Ob)→Prop}{r:V}(h:SoundAt C f ⟨xs,fun _=>none⟩ ⟨r,fun _=>none⟩)(hr:∀ n,V.refs n r=false)(hK:F r st.o):callK C I st dst f xs F :=
  ⟨fun _=>false,fun _=>False,⟨r,fun _=>none⟩,by rw [exO_none];exact h,⟨fun n hn=>absurd rfl hn,fun n hn=>(by rw [hr n] at hn;cases hn),(fun n x hx=>by cases hx),fun n h=>h.elim⟩,by rw [mixO_none];exact hK⟩
theorem callE_plain {f:Nat}{xs:List V}{F:V→(Nat→Option Ob)→Prop}{r:V}(h:SoundAt C f ⟨xs,fun _=>none⟩ ⟨r,fun _=>none⟩)(hr:∀ n,V.refs n r=false)(hK:F r st.o):callE C I st dst f xs F :=
  ⟨⟨r,fun _=>none⟩,h,⟨fun n hn=>absurd rfl hn,fun n hn=>(by rw [hr n] at hn;cases hn),(fun n x hx=>by cases hx),fun n h=>h.elim⟩,by rw [mixO_none];exact hK⟩
theorem entry0 {m:List (Nat × Option Ob)}:CS.entry ⟨[],looko m⟩=St.mk (look []) (looko m):=by
  simp only [CS.entry];congr 1
theorem entry1 {a:V}{m:List (Nat × Option Ob)}:CS.entry ⟨[a],looko m⟩=St.mk (look [(0,a)]) (looko m):=by
  simp only [CS.entry];congr 1;funext t
  rcases t with _|t <;> simp [look]
theorem entry2 {a b:V}{m:List (Nat × Option Ob)}:CS.entry ⟨[a,b],looko m⟩=St.mk (look [(0,a),(1,b)]) (looko m):=by
  simp only [CS.entry];congr 1;funext t
  rcases t with _|_|t <;> simp [look]
theorem entry3 {a b c:V}{m:List (Nat × Option Ob)}:CS.entry ⟨[a,b,c],looko m⟩=St.mk (look [(0,a),(1,b),(2,c)]) (looko m):=by
  simp only [CS.entry];congr 1;funext t
  rcases t with _|_|_|t <;> simp [look]
theorem ends_eq' {res:List ARes}{st:St}{r:V}:EndsA I [] [] res st ⟨r,looko []⟩=lstK (resVs st res) (fun vs=>r=tupV vs):=ends_eq
theorem ends_no {res:List ARes}{st:St}{r:V}:EndsA I [] [] res st ⟨r,looko []⟩=lstK (resVs st res) (fun vs=>r=tupV vs):=ends_eq
theorem ends_frz {frz:List Nat}{res:List ARes}{st:St}{r:V}:EndsA I [] frz res st ⟨r,looko []⟩=frzK st frz (fun st=>lstK (resVs st res) (fun vs=>r=tupV vs)):=by
  show EndsA I [] [] res (st.frz frz) ⟨r,looko []⟩=_
  rw [ends_eq']
  rfl
theorem ends_one {res:List ARes}{st:St}{r:V}{m:Nat}{ob:Ob}:EndsA I [] [] res st ⟨r,looko [(m,some ob)]⟩=lstK (resVs st res) (fun vs=>r=tupV vs∧st.o m=some ob):=by
  rw [← lst_ex]
  apply propext
  constructor
  · rintro ⟨vs,h1,h2,h3⟩;exact ⟨vs,h1,h2,h3 m ob (by simp [looko])⟩
  · rintro ⟨vs,h1,h2,h3⟩
    refine ⟨vs,h1,h2,fun n x hx => ?_⟩
    by_cases e:n=m
    · subst e;simp [looko] at hx;subst hx;exact h3
    · simp [looko,e] at hx
theorem fresh_true {l:List (Nat × V)}{m:List (Nat × Option Ob)}{nm:Nat}{dst:Option Nat}(h:(freshS nm dst l&&freshO nm m)=true):Fresh (St.mk (look l) (looko m)) nm dst=True:=by
  simp only [Bool.and_eq_true] at h
  exact eq_true (fresh_mk h.1 h.2)
def quietL (vs:List V):List (Nat × Option Ob)→Bool
  | []=>true
  | (k,some (.row _ _))::m => !V.refsL k vs&&quietL vs m
  | _::m=>quietL vs m
theorem quiet_mem {vs:List V}:∀ {l:List (Nat × Option Ob)},quietL vs l=true→∀ m sz es,looko l m=some (.row sz es)→V.refsL m vs=false
  | [],_,m,sz,es,h=>by simp [looko] at h
  | (k, x)::l,hq,m,sz,es,h=>by
    simp only [looko] at h
    split at h
    · rename_i e
      subst e;subst h
      simp only [quietL,Bool.and_eq_true,Bool.not_eq_true'] at hq
      exact hq.1
    · have hq':quietL vs l=true:=by
        cases x with
        | none=>exact hq
        | some x =>
          cases x with
          | row _ _=>simp only [quietL,Bool.and_eq_true] at hq;exact hq.2
          | box _=>exact hq
          | map _=>exact hq
          | bld _=>exact hq
          | brow _=>exact hq
      exact quiet_mem hq' m sz es h
theorem quiet_true {l:List (Nat × Option Ob)}{vs:List V}(h:quietL vs l=true):quietV (looko l) vs=True:=eq_true (quiet_mem h)
theorem quietL_nil (vs:List V):quietL vs []=true:=by simp only [quietL]
theorem quietL_row (vs:List V)(k sz:Nat)(es:List (List D))(m:List (Nat × Option Ob)):quietL vs ((k,some (.row sz es))::m)=(!V.refsL k vs&&quietL vs m):=by simp only [quietL]
theorem quietL_brow (vs:List V)(k:Nat)(s:List UInt8)(m:List (Nat × Option Ob)):quietL vs ((k,some (.brow s))::m)=quietL vs m:=by simp only [quietL]
theorem quietL_bld (vs:List V)(k j:Nat)(m:List (Nat × Option Ob)):quietL vs ((k,some (.bld j))::m)=quietL vs m:=by simp only [quietL]
theorem quietL_box (vs:List V)(k:Nat)(cs:List V)(m:List (Nat × Option Ob)):quietL vs ((k,some (.box cs))::m)=quietL vs m:=by simp only [quietL]
theorem quietL_map (vs:List V)(k:Nat)(kvs:List (D × D))(m:List (Nat × Option Ob)):quietL vs ((k,some (.map kvs))::m)=quietL vs m:=by simp only [quietL]
theorem quietL_none (vs:List V)(k:Nat)(m:List (Nat × Option Ob)):quietL vs ((k,none)::m)=quietL vs m:=by simp only [quietL]
end
theorem ends_own_own {I:Nat→Prop}{t nm sz m:Nat}{res:List ARes}{l:List (Nat × V)}{o:Nat→Option Ob}{cout:RS}(h:look l t = .own m):EndsA I [(t,nm,sz)] [] res (St.mk (look l) o) cout=EndsA I [] [] res (St.mk (look l) o) cout:=by
  simp [EndsA,ownify,h]
theorem SoundAt.of_run {C:Ctx}{fn:AFn}{f N:Nat}{res:List ARes}{own:List (Nat × Nat × Nat)}{frz:List Nat}{code:ACode}(hk:okFn C.P C.φ f fn=true)(hfn:fn=⟨N,res,own,frz,code⟩){cin:CS}{cout:RS}
    (h:∀ Q:Ex→St→Prop,(∀ st,EndsA (fun n=>cin.o n≠none) own frz res st cout→Q .ret st)→(∀ st,EndsA (fun n=>cin.o n≠none) own frz res st cout→Q .normal st)→wpB C (fun n=>cin.o n≠none) code cin.entry Q):SoundAt C f cin cout :=
  SoundAt.of_codeB hk hfn (h _ (fun _ h=>⟨.inl rfl,h⟩) (fun _ h=>⟨.inr rfl,h⟩))
theorem wrapI {x:Int}(h1 : -9223372036854775808≤x)(h2:x<9223372036854775808):IntKind.i64.wrap x=x:=by
  rw [IntKind.wrap_i64];omega
theorem getMap {α β:Type}(f:α→β){l:List α}{k:Nat}{a:α}(h:l[k]? = some a):(l.map f)[k]? = some (f a):=by simp [h]
theorem demand_if {c:Prop} [Decidable c] {d:D}{F:V→Prop}:demand (Option.map V.d (if c then some d else none)) F=(c∧F (.d d)):=by
  by_cases h:c <;> simp [h,demand]
theorem jumpK_n {l:Nat}{J:St→Prop}{Q:Ex→St→Prop}{st:St}:jumpK l J Q .normal st=Q .normal st:=rfl
theorem jumpK_r {l:Nat}{J:St→Prop}{Q:Ex→St→Prop}{st:St}:jumpK l J Q .ret st=Q .ret st:=rfl
theorem jumpK_go {J:St→Prop}{Q:Ex→St→Prop}{st:St}:jumpK 0 J Q (.exit 1000000) st=J st:=by
  simp [jumpK]
attribute [go_sem ↓] jumpK_n jumpK_r jumpK_go
attribute [go_sem ↓] bndK_s treeB_done drawB_done seqK_n seqK_e seqK_r blockK_n blockK_e blockK_r condK_b guardK_b guardK_t storeK_p storeK_e boxK_b rowK_r lstK_s intK_i appK_0 appK_1 kvsK_m mapK_m optK_s demand_v demand_0 fnK_f nilSK_n nilSK_0 nilSK_c shareK_b ends_no ends_one ends_frz freeK_mk rowE_r rowE_n frzK_0 frzK_1 freesK_0 freesK_1
attribute [go_sem] pickV_b bstrV bytesD convV_i sameV_s extV_t lenSV_s nilcV_p nilcV_f eqsV_a beqV_b nilEV_e nilPV_p nilPV_n binV binInt binStr shInt unV loadV faddrV fldV iaddrV iaddrAV idxV idxAV lenV slcV slcSV bndO bnd mmV cellsV buildN setRange eqCells eqD toD trim_some trim_none upd_at look_cons look_nil looko_cons looko_nil V.refs V.refsL Ob.refs refsL_d refsL_dd List.map_cons List.map_nil Option.map_some Option.map_none if_true if_false Bool.false_eq_true Bool.not_true Bool.not_false Bool.true_or Bool.or_true Bool.false_or Bool.or_false Bool.true_and Bool.and_true Bool.and_self true_and and_true ne_eq not_true_eq_false not_false_eq_true List.getElem?_cons_zero List.getElem?_cons_succ List.drop_zero List.drop_succ_cons List.drop_nil List.take_zero List.take_succ_cons List.take_nil List.length_cons List.length_nil List.cons_append List.nil_append Option.some.injEq beq_iff_eq beq_self_eq_true decide_eq_true_eq Int.cast_ofNat_Int Int.natCast_zero Int.natCast_one beq_true beq_false false_implies implies_true true_implies Option.isSome_some Option.isSome_none upd_look upd_setL setL_nil setL_cons fresh_true freshS freshO quiet_true quietL_nil quietL_row quietL_box quietL_map quietL_none Option.some_beq_some Option.none_beq_some Option.some_beq_none Option.none_beq_none setRange_all List.append_nil resVs tupV scrubV_d scrubV_cap0 scrubV_ptr scrubV_mref scrubV_own scrubV_undef scrub_map_d scrubV_agg scrub_box scrub_bld obthaw_bld quietL_bld scrub_brow obthaw_brow quietL_brow scrub_map scrub_row toDs_map toDs_cons toDs_nil readD_sl List.mem_singleton List.mem_cons List.not_mem_nil or_false forall_eq forall_eq_or_imp keyIs kvGet_n kvSet_n getD_int isSome_int ownsW_d ownsW_cap0 ownsW_own ownsW_ptr ownsW_agg boxOwns_b boxOwns_d V.owns V.owns.ownsL thaw_d thaw_cap0 thaw_own thaw_ptr thaw_mref thaw_undef thaw_agg thaws_nil thaws_cons thaws_map obthaw_box obthaw_row obthaw_map List.getElem_cons_zero List.getElem_cons_succ
attribute [go_sem ↓] reduceIte
attribute [go_sem_proc] Nat.reduceEqDiff Nat.reduceAdd Nat.reduceSub Nat.reduceMul Nat.reduceLeDiff Nat.reduceBEq reduceCtorEq Int.reduceEq Int.reduceLT Int.reduceLE Int.reduceGT Int.reduceGE Int.reduceNeg Int.reduceBEq Int.reduceBNe Int.reduceToNat Int.reducePow UInt8.reduceToNat
end Pay
end
/- The book's entries, as data. -/
section
set_option linter.unusedSimpArgs false
set_option linter.unusedVariables false
namespace Pay
open Go
structure Line where
  kind:List UInt8
  name:List UInt8
  amount:Int
structure Sums where
  gross:Int
  pretax:Int
  post:Int
structure Ent where
  run:Int
  per:Int
  id:Int
  cen:Int
  back:Int
  lines:List Line
  raw:Sums
  extra:Sums
  taxable:Int
  tax:Int
  taken:Int
  held:Int
  net:Int
  short:Int
  paid:List Int
  owed:List Int
  garn:List Int
  fixes:List (Int × Sums)
abbrev dI (n:Int):D:=.int .i64 n
abbrev vI (n:Int):V:=.d (.int .i64 n)
abbrev vB (b:Bool):V:=.d (.bool b)
def encLine (l:Line):List D:=[.str l.kind,.str l.name,dI l.amount]
def encFix (f:Int × Sums):List D:=[dI f.1,dI f.2.gross,dI f.2.pretax,dI f.2.post]
def encI (n:Int):List D:=[dI n]
def enc (e:Ent):List D:=[dI e.run,dI e.per,dI e.id,dI e.cen,dI e.back,.sl (e.lines.map encLine),dI e.raw.gross,dI e.raw.pretax,dI e.raw.post,dI e.extra.gross,dI e.extra.pretax,dI e.extra.post,dI e.taxable,dI e.tax,dI e.taken,dI e.held,dI e.net,dI e.short,.sl (e.paid.map encI),.sl (e.owed.map encI),.sl (e.garn.map encI),.sl (e.fixes.map encFix)]
theorem enc_len (e:Ent):(enc e).length=22:=rfl
theorem map_len_all {α:Type}(f:α→List D)(sz:Nat)(h:∀ a,(f a).length=sz)(l:List α):∀ e∈l.map f,e.length=sz:=by
  intro e he
  obtain ⟨a,_,rfl⟩:=List.mem_map.1 he
  exact h a
theorem enc_all (l:List Ent):∀ e∈l.map enc,e.length=22:=map_len_all enc 22 enc_len l
theorem enc_take (e:Ent):(enc e).take 22=enc e:=rfl
theorem encV_len (e:Ent):((enc e).map V.d).length=22:=rfl
theorem enc_allT (l:List Ent):(∀ e∈l.map enc,e.length=22)=True:=eq_true (enc_all l)
theorem encV_take (e:Ent):((enc e).map V.d).take 22=(enc e).map V.d:=rfl
theorem encV_refs (n:Nat)(e:Ent):V.refsL n ((enc e).map V.d)=false:=refsL_dd n _
abbrev vEnt (e:Ent):V:=.agg ((enc e).map V.d)
theorem load_ent (o:Nat→Option Ob)(e:Ent):loadV o (some 22) (.cptr (enc e))=some (vEnt e):=rfl
theorem parts_ent (e:Ent):partsN 22 [vEnt e]=some [enc e]:=by
  simp only [partsN,vEnt,cellsV,toDs_map,enc_len,if_true]
theorem encLine_len (l:Line):(encLine l).length=3:=rfl
theorem encLineV_len (l:Line):((encLine l).map V.d).length=3:=rfl
theorem encLineV_take (l:Line):((encLine l).map V.d).take 3=(encLine l).map V.d:=rfl
theorem encLine_take (l:Line):(encLine l).take 3=encLine l:=rfl
theorem encFix_take (l:Int × Sums):(encFix l).take 4=encFix l:=rfl
theorem load_line (o:Nat→Option Ob)(l:Line):loadV o (some 3) (.cptr (encLine l))=some (.agg ((encLine l).map V.d)):=rfl
theorem parts_line (l:Line):partsN 3 [.agg ((encLine l).map V.d)]=some [encLine l]:=by
  simp only [partsN,cellsV,toDs_map,encLine_len,if_true]
theorem encFix_len (l:Int × Sums):(encFix l).length=4:=rfl
theorem encFixV_len (l:Int × Sums):((encFix l).map V.d).length=4:=rfl
theorem encFixV_take (l:Int × Sums):((encFix l).map V.d).take 4=(encFix l).map V.d:=rfl
theorem load_fix (o:Nat→Option Ob)(l:Int × Sums):loadV o (some 4) (.cptr (encFix l))=some (.agg ((encFix l).map V.d)):=rfl
theorem parts_fix (l:Int × Sums):partsN 4 [.agg ((encFix l).map V.d)]=some [encFix l]:=by
  simp only [partsN,cellsV,toDs_map,encFix_len,if_true]
attribute [go_sem] load_ent enc_len enc_take encV_len encV_take encV_refs enc_allT parts_ent encLine_len encLineV_len encLineV_take encLine_take encFix_take load_line parts_line encFix_len encFixV_len encFixV_take load_fix parts_fix
end Pay
end
/- The code, followed step by step by simp: an equation for each kind of code and of operation. -/
section
set_option linter.unusedSimpArgs false
set_option linter.unusedVariables false
namespace Pay
open Go
class CB (a:ACode) (b:outParam ACode):Prop where
  h:a=b
class OB (a:List AOper) (b:outParam (List AOper)):Prop where
  h:a=b
theorem CB.of {a b:ACode}(h:a=b):CB a b:=⟨h⟩
theorem OB.of {a b:List AOper}(h:a=b):OB a b:=⟨h⟩
section
variable {C:Ctx}{I:Nat→Prop}{s:Nat→V}{o:Nat→Option Ob}{st:St}{Q:Ex→St→Prop}{K:St→Prop}{d:Nat}{dst:Option Nat}{dp:List Nat}{os:List AOper}{op:AOp}{x y z:Opd}
instance {a b:ACode} [h:CB a b]:Unf (wpB C I a st Q) (wpB C I b st Q):=⟨fun q=>by rw [h.h];exact q⟩
instance {a b:List AOper} [h:OB a b]:Unf (opsB C I a st K) (opsB C I b st K):=⟨fun q=>by rw [h.h];exact q⟩
theorem go_seq {a b:ACode}:wpB C I (.seq a b) st Q=wpB C I a st (seqK (fun st=>wpB C I b st Q) Q):=propext Iff.rfl
theorem go_skip:wpB C I .skip st Q=Q .normal st:=propext Iff.rfl
theorem go_reg {tr:List Nat}{tro:Option (List Nat)}:wpB C I (.region tr tro none os) st Q=opsB C I os st (fun st=>Q .normal (st.trim tr tro)):=propext Iff.rfl
theorem go_cond {a b:ACode}:wpB C I (.cond x a b) (St.mk s o) Q=condK (opd s x) (wpB C I a (St.mk s o) Q) (wpB C I b (St.mk s o) Q):=propext Iff.rfl
theorem go_block {n:Nat}{tr:List Nat}{tro:Option (List Nat)}{c:ACode}:wpB C I (.block n tr tro c) st Q=wpB C I c st (blockK n tr tro Q):=propext Iff.rfl
theorem go_exit {n:Nat}:wpB C I (.exit n) st Q=Q (.exit n) st:=propext Iff.rfl
theorem go_ret:wpB C I .ret st Q=Q .ret st:=propext Iff.rfl
theorem go_scope {l:Nat}{tr:List Nat}{tro:Option (List Nat)}{a b:ACode}:wpB C I (.scope l tr tro a b) st Q=wpB C I a st (jumpK l (fun s=>wpA C I (.scope l tr tro b b) (s.trim tr tro) Q) Q):=propext Iff.rfl
theorem stepB_congr {st':St}(h:st=st'):stepB C I st dst K op=stepB C I st' dst K op:=by rw [h]
theorem go_nil:opsB C I [] st K=K st:=propext Iff.rfl
theorem go_op:opsB C I (⟨dst,op,[],dp,none,none⟩::os) st K=stepB C I st dst (fun st=>opsB C I os st K) op:=propext Iff.rfl
theorem go_opt {tr:List Nat}{tro:Option (List Nat)}:opsB C I (⟨dst,op,[],dp,none,some (tr,tro)⟩::os) st K=stepB C I st dst (fun st=>opsB C I os (st.trim tr tro) K) op:=propext Iff.rfl
theorem go_opf {t:Nat}{ts:List Nat}:opsB C I (⟨dst,op,t::ts,dp,none,none⟩::os) st K=frzK st (t::ts) (fun st=>stepB C I st dst (fun st=>opsB C I os st K) op):=propext Iff.rfl
theorem go_opft {t:Nat}{ts tr:List Nat}{tro:Option (List Nat)}:opsB C I (⟨dst,op,t::ts,dp,none,some (tr,tro)⟩::os) st K=frzK st (t::ts) (fun st=>stepB C I st dst (fun st=>opsB C I os (st.trim tr tro) K) op):=propext Iff.rfl
theorem go_opg {p g:Nat}{want:Bool}:opsB C I (⟨dst,op,[],dp,some (p,g,want),none⟩::os) (St.mk s o) K=guardK (opd s (.t g)) want (stepB C I (St.mk (upd s g (.d (.bool want))) o) dst (fun st=>opsB C I os st K) op)
    (opsB C I os ((St.mk (upd s g (.d (.bool (!want)))) o).put dst (.tup [])) K) (opsB C I os ((St.mk (upd s g (.tup [])) o).put dst (.tup [])) K):=propext Iff.rfl
theorem go_opgt {p g:Nat}{want:Bool}{tr:List Nat}{tro:Option (List Nat)}:opsB C I (⟨dst,op,[],dp,some (p,g,want),some (tr,tro)⟩::os) (St.mk s o) K=guardK (opd s (.t g)) want (stepB C I (St.mk (upd s g (.d (.bool want))) o) dst (fun st=>opsB C I os (st.trim tr tro) K) op)
    (opsB C I os (((St.mk (upd s g (.d (.bool (!want)))) o).put dst (.tup [])).trim tr tro) K) (opsB C I os (((St.mk (upd s g (.tup [])) o).put dst (.tup [])).trim tr tro) K):=propext Iff.rfl
theorem go_opgf {p g t:Nat}{ts:List Nat}{want:Bool}:opsB C I (⟨dst,op,t::ts,dp,some (p,g,want),none⟩::os) (St.mk s o) K=guardK (opd s (.t g)) want (frzK (St.mk (upd s g (.d (.bool want))) o) (t::ts) (fun st=>stepB C I st dst (fun st=>opsB C I os st K) op))
    (opsB C I os ((St.mk (upd s g (.d (.bool (!want)))) o).put dst (.tup [])) K) (opsB C I os ((St.mk (upd s g (.tup [])) o).put dst (.tup [])) K):=propext Iff.rfl
theorem go_opgft {p g t:Nat}{ts:List Nat}{want:Bool}{tr:List Nat}{tro:Option (List Nat)}:opsB C I (⟨dst,op,t::ts,dp,some (p,g,want),some (tr,tro)⟩::os) (St.mk s o) K=guardK (opd s (.t g)) want (frzK (St.mk (upd s g (.d (.bool want))) o) (t::ts) (fun st=>stepB C I st dst (fun st=>opsB C I os (st.trim tr tro) K) op))
    (opsB C I os (((St.mk (upd s g (.d (.bool (!want)))) o).put dst (.tup [])).trim tr tro) K) (opsB C I os (((St.mk (upd s g (.tup [])) o).put dst (.tup [])).trim tr tro) K):=propext Iff.rfl
theorem go_put {v:V}:(St.mk s o).put (some d) v=St.mk (upd s d v) o:=nrfl rfl
theorem go_put0 {v:V}:(St.mk s o).put none v=St.mk s o:=nrfl rfl
theorem opd_t {n:Nat}:opd s (.t n)=s n:=nrfl rfl
theorem opd_c {v:V}:opd s (.c v)=v:=nrfl rfl
theorem opd_f {g:Nat}:opd s (.f g) = .fn g []:=nrfl rfl
theorem go_mv:stepB C I (St.mk s o) (some d) K (.mv x)=K (St.mk (upd s d (opd s x)) o):=propext Iff.rfl
theorem go_pick {c:Opd}:stepB C I (St.mk s o) (some d) K (.pick c x y)=demand (pickV (opd s c) (opd s x) (opd s y)) (fun v=>K (St.mk (upd s d v) o)):=propext Iff.rfl
theorem go_bin {b:BinOp}:stepB C I (St.mk s o) (some d) K (.bin b x y)=demand (binV b (opd s x) (opd s y)) (fun v=>K (St.mk (upd s d v) o)):=propext Iff.rfl
theorem go_un {b:UnOp}:stepB C I (St.mk s o) (some d) K (.un b x)=demand (unV b (opd s x)) (fun v=>K (St.mk (upd s d v) o)):=propext Iff.rfl
theorem go_conv {k:IntKind}:stepB C I (St.mk s o) (some d) K (.conv k x)=demand (convV k (opd s x)) (fun v=>K (St.mk (upd s d v) o)):=propext Iff.rfl
theorem go_same:stepB C I (St.mk s o) (some d) K (.same x)=demand (sameV (opd s x)) (fun v=>K (St.mk (upd s d v) o)):=propext Iff.rfl
theorem go_bstr:stepB C I (St.mk s o) (some d) K (.bstr x)=demand (bstrV (opd s x)) (fun v=>K (St.mk (upd s d v) o)):=propext Iff.rfl
theorem go_ext {i:Nat}:stepB C I (St.mk s o) (some d) K (.ext x i)=demand (extV (opd s x) i) (fun v=>K (St.mk (upd s d v) o)):=propext Iff.rfl
theorem go_load {n:Option Nat}:stepB C I (St.mk s o) (some d) K (.load n x)=demand (loadV o n (opd s x)) (fun v=>K (St.mk (upd s d v) o)):=propext Iff.rfl
theorem go_faddr {n:Nat}:stepB C I (St.mk s o) (some d) K (.faddr n x)=demand (faddrV n (opd s x)) (fun v=>K (St.mk (upd s d v) o)):=propext Iff.rfl
theorem go_fld {f:Nat}{n:Option Nat}:stepB C I (St.mk s o) (some d) K (.fld f n x)=demand (fldV f n (opd s x)) (fun v=>K (St.mk (upd s d v) o)):=propext Iff.rfl
theorem go_iaddr {sz:Nat}:stepB C I (St.mk s o) (some d) K (.iaddr sz x y)=demand (iaddrV o sz (opd s x) (opd s y)) (fun v=>K (St.mk (upd s d v) o)):=propext Iff.rfl
theorem go_iaddrA {l sz:Nat}:stepB C I (St.mk s o) (some d) K (.iaddrA l sz x y)=demand (iaddrAV l sz (opd s x) (opd s y)) (fun v=>K (St.mk (upd s d v) o)):=propext Iff.rfl
theorem go_idx:stepB C I (St.mk s o) (some d) K (.idx x y)=demand (idxV (opd s x) (opd s y)) (fun v=>K (St.mk (upd s d v) o)):=propext Iff.rfl
theorem go_idxA {l sz:Nat}{n:Option Nat}:stepB C I (St.mk s o) (some d) K (.idxA l sz n x y)=demand (idxAV l sz n (opd s x) (opd s y)) (fun v=>K (St.mk (upd s d v) o)):=propext Iff.rfl
theorem go_slc {sz:Nat}{lo hi:Option Opd}:stepB C I (St.mk s o) (some d) K (.slc sz x lo hi)=demand (slcV sz (opd s x) (lo.map (opd s)) (hi.map (opd s))) (fun v=>K (St.mk (upd s d v) o)):=propext Iff.rfl
theorem go_slcS {lo hi:Option Opd}:stepB C I (St.mk s o) (some d) K (.slcS x lo hi)=demand (slcSV (opd s x) (lo.map (opd s)) (hi.map (opd s))) (fun v=>K (St.mk (upd s d v) o)):=propext Iff.rfl
theorem go_len:stepB C I (St.mk s o) (some d) K (.len x)=demand (lenV o (opd s x)) (fun v=>K (St.mk (upd s d v) o)):=propext Iff.rfl
theorem go_lenS:stepB C I (St.mk s o) (some d) K (.lenS x)=demand (lenSV (opd s x)) (fun v=>K (St.mk (upd s d v) o)):=propext Iff.rfl
theorem go_mm {m:Bool}{xs:List Opd}:stepB C I (St.mk s o) (some d) K (.mm m xs)=demand (mmV m (xs.map (opd s))) (fun v=>K (St.mk (upd s d v) o)):=propext Iff.rfl
theorem buildV_N (f:Opd→V):∀ (ps:List (Nat × Nat × Opd))(cs:List V),buildV f cs ps=buildN cs (ps.map fun q=>(q.1,q.2.1,f q.2.2))
  | [],cs=>rfl
  | (off,sz,x)::ps,cs=>by
    simp only [buildV,List.map_cons,buildN]
    cases cellsV (f x) with
    | none=>rfl
    | some new=>simp only;split;exact buildV_N f ps _;rfl
theorem go_build {zs:List V}{ps:List (Nat × Nat × Opd)}:stepB C I (St.mk s o) (some d) K (.build zs ps)=demand ((buildN zs (ps.map fun q=>(q.1,q.2.1,opd s q.2.2))).map V.agg) (fun v=>K (St.mk (upd s d v) o)):=by
  rw [← buildV_N];exact propext Iff.rfl
theorem go_fnv {f:Nat}{xs:List Opd}:stepB C I (St.mk s o) (some d) K (.fnv f xs)=K (St.mk (upd s d (.fn f (xs.map (opd s)))) o):=propext Iff.rfl
theorem go_nilc:stepB C I (St.mk s o) (some d) K (.nilc x)=demand (nilcV (opd s x)) (fun v=>K (St.mk (upd s d v) o)):=propext Iff.rfl
theorem go_eqs {q:Bool}{ks:List Nat}:stepB C I (St.mk s o) (some d) K (.eqs q ks x y)=demand (eqsV q ks (opd s x) (opd s y)) (fun v=>K (St.mk (upd s d v) o)):=propext Iff.rfl
theorem go_beq {q:Bool}:stepB C I (St.mk s o) (some d) K (.beq q x y)=demand (beqV q (opd s x) (opd s y)) (fun v=>K (St.mk (upd s d v) o)):=propext Iff.rfl
theorem go_nilE {q:Bool}:stepB C I (St.mk s o) (some d) K (.nilE q x)=demand (nilEV q (opd s x)) (fun v=>K (St.mk (upd s d v) o)):=propext Iff.rfl
theorem go_nilP {q:Bool}:stepB C I (St.mk s o) (some d) K (.nilP q x)=demand (nilPV q (opd s x)) (fun v=>K (St.mk (upd s d v) o)):=propext Iff.rfl
theorem go_never:stepB C I (St.mk s o) dst K .never=False:=propext Iff.rfl
theorem go_nilS {q:Bool}:stepB C I (St.mk s o) (some d) K (.nilS q x)=nilSK q (opd s x) (fun v=>K (St.mk (upd s d v) o)):=propext Iff.rfl
theorem go_store {n:Nat}:stepB C I (St.mk s o) none K (.store n x y)=storeK (opd s x) (cellsV (opd s y)) n o (fun m ob=>K (St.mk s (upd o m (some ob)))):=propext Iff.rfl
theorem go_alloc {nm:Nat}{zs:List V}:stepB C I (St.mk s o) (some d) K (.alloc nm zs)=(¬I nm∧Fresh (St.mk s o) nm (some d)∧V.refsL nm zs=false∧K (St.mk (upd s d (.ptr nm 0)) (upd o nm (some (.box zs))))):=propext Iff.rfl
theorem go_allocB {nm k:Nat}:stepB C I (St.mk s o) (some d) K (.allocB nm k)=(¬I nm∧¬I k∧k≠nm∧Fresh (St.mk s o) k none∧Fresh (St.mk s o) nm (some d)∧K (St.mk (upd s d (.ptr nm 0)) (upd (upd o k (some (.brow []))) nm (some (.bld k))))):=propext Iff.rfl
theorem go_box {nm n:Nat}:stepB C I (St.mk s o) (some d) K (.box nm n x)=lstK (cellsV (opd s x)) (fun cs=>cs.length=n∧¬I nm∧Fresh (St.mk s o) nm (some d)∧V.refsL nm cs=false∧K (St.mk (upd s d (.ptr nm 0)) (upd o nm (some (.box cs))))):=propext Iff.rfl
theorem partsD_N (sz:Nat)(f:Opd→V):∀ xs:List Opd,partsD sz f xs=partsN sz (xs.map f)
  | []=>rfl
  | x :: xs=>by
    simp only [partsD,List.map_cons,partsN,partsD_N sz f xs]
    cases cellsV (f x) with
    | none=>rfl
    | some cs=>cases toDs cs with
      | none=>rfl
      | some ds=>by_cases h:ds.length=sz <;> simp only [h,if_true,if_false] <;> cases partsN sz (List.map f xs) <;> rfl
theorem go_bsl0 {sz n:Nat}{zs:List D}{ps:List (Nat × Opd)}:stepB C I (St.mk s o) (some d) K (.bsl none sz zs n ps)=lstK (partsN sz ((ps.map (·.2)).map (opd s))) (fun es=>K (St.mk (upd s d (.d (.sl es))) o)):=by
  rw [← partsD_N];exact propext Iff.rfl
theorem go_bsl1 {nm sz:Nat}{zs:List D}{ps:List (Nat × Opd)}:stepB C I (St.mk s o) (some d) K (.bsl (some nm) sz zs 0 ps)=K (St.mk (upd s d .cap0) o):=propext Iff.rfl
theorem go_bsl2 {nm sz n:Nat}{zs:List D}{q:Nat × Opd}{ps:List (Nat × Opd)}:stepB C I (St.mk s o) (some d) K (.bsl (some nm) sz zs n (q::ps))=(if n=0 then K (St.mk (upd s d .cap0) o) else lstK (partsN sz (((q::ps).map (·.2)).map (opd s))) (fun es=>¬I nm∧Fresh (St.mk s o) nm (some d)∧K (St.mk (upd s d (.own nm)) (upd o nm (some (.row sz es)))))):=by
  rw [← partsD_N]
  cases n with
  | zero=>exact propext Iff.rfl
  | succ n=>rw [if_neg (by omega)];exact propext Iff.rfl
theorem go_mks0 {sz b:Nat}{zs:List D}:stepB C I (St.mk s o) (some d) K (.mks none sz b zs x)=intK (opd s x) (fun n=>0≤n∧n.toNat*b≤140737488355328∧n≤140737488355328∧K (St.mk (upd s d (.d (.sl (List.replicate n.toNat zs)))) o)):=propext Iff.rfl
theorem go_mks1 {nm sz b:Nat}{zs:List D}:stepB C I (St.mk s o) (some d) K (.mks (some nm) sz b zs x)=intK (opd s x) (fun n=>0≤n∧n.toNat*b≤140737488355328∧n≤140737488355328∧¬I nm∧Fresh (St.mk s o) nm (some d)∧K (St.mk (upd s d (.own nm)) (upd o nm (some (.row sz (List.replicate n.toNat zs)))))):=propext Iff.rfl
theorem go_app0 {sz b:Nat}:stepB C I (St.mk s o) (some d) K (.app none sz b x y)=lstK (readD o (opd s y)) (fun ys=>(∀ e∈ys,e.length=sz)∧appK (opd s x)
    (ys.length*b≤140737488355328∧ys.length≤140737488355328∧K (St.mk (upd s d (.d (.sl ys))) o))
    (fun m=>¬I m∧rowK (o m) (fun sz' es=>sz'=sz∧(es.length+ys.length)*b≤140737488355328∧es.length+ys.length≤140737488355328 ∧
      freeK (St.mk (upd (fun t=>scrubV m (s t)) d (.own m)) (upd (fun n=>(o n).map (Ob.scrub m)) m (some (.row sz (es++ys))))) m K))):=propext Iff.rfl
theorem go_app1 {nm sz b:Nat}:stepB C I (St.mk s o) (some d) K (.app (some nm) sz b x y)=lstK (readD o (opd s y)) (fun ys=>(∀ e∈ys,e.length=sz)∧appK (opd s x)
    (ys.length*b≤140737488355328∧ys.length≤140737488355328∧¬I nm∧Fresh (St.mk s o) nm (some d)∧K (St.mk (upd s d (.own nm)) (upd o nm (some (.row sz ys)))))
    (fun m=>¬I m∧rowK (o m) (fun sz' es=>sz'=sz∧(es.length+ys.length)*b≤140737488355328∧es.length+ys.length≤140737488355328 ∧
      K (St.mk (upd (fun t=>scrubV m (s t)) d (.own m)) (upd (fun n=>(o n).map (Ob.scrub m)) m (some (.row sz (es++ys)))))))):=propext Iff.rfl
theorem go_appD {sz b:Nat}:stepB C I (St.mk s o) (some d) K (.appD sz b x y)=lstK (readD o (opd s y)) (fun ys=>(∀ e∈ys,e.length=sz)∧appK (opd s x) False
    (fun m=>¬I m∧rowK (o m) (fun sz' es=>sz'=sz∧(es.length+ys.length)*b≤140737488355328∧es.length+ys.length≤140737488355328∧freeK (St.mk s o) m (fun st=>K (st.put (some d) (.d (.sl (es++ys)))))))):=propext Iff.rfl
theorem go_cut:stepB C I (St.mk s o) (some d) K (.cut x y)=appK (opd s x) False (fun m=>¬I m∧rowK (o m) (fun sz es=>bndK (bnd es.length (opd s y)) (fun h=>K (St.mk (upd (fun t=>scrubV m (s t)) d (.own m)) (upd (fun n=>(o n).map (Ob.scrub m)) m (some (.row sz (es.take h)))))))):=propext Iff.rfl
theorem go_mkmap {nm:Nat}:stepB C I (St.mk s o) (some d) K (.mkmap nm)=(¬I nm∧Fresh (St.mk s o) nm (some d)∧K (St.mk (upd s d (.mref nm)) (upd o nm (some (.map []))))):=propext Iff.rfl
theorem go_mset {q:Bool}:stepB C I (St.mk s o) none K (.mset q x y z)=mapK (opd s x) (toD (opd s y)) o (fun n k kvs=>keyIs q k=true∧optK (toD (opd s z)) (fun x=>lstK (kvSet k x kvs) (fun kvs'=>K (St.mk s (upd o n (some (.map kvs'))))))):=propext Iff.rfl
theorem go_mget {q ok:Bool}{zr:D}:stepB C I (St.mk s o) (some d) K (.mget q zr x y ok)=mapK (opd s x) (toD (opd s y)) o (fun n k kvs=>keyIs q k=true∧optK (kvGet k kvs) (fun r=>K (St.mk (upd s d (if ok=true then .tup [.d (r.getD zr),.d (.bool r.isSome)] else .d (r.getD zr))) o))):=propext Iff.rfl
theorem go_call {f:Nat}{xs:List Opd}:stepB C I (St.mk s o) (some d) K (.call f xs)=callK C I (St.mk s o) (some d) f (xs.map (opd s)) (fun r o'=>K (St.mk (upd s d r) o')):=propext Iff.rfl
theorem go_call0 {f:Nat}{xs:List Opd}:stepB C I (St.mk s o) none K (.call f xs)=callK C I (St.mk s o) none f (xs.map (opd s)) (fun r o'=>K (St.mk s o')):=propext Iff.rfl
theorem go_callv {xs:List Opd}:stepB C I (St.mk s o) (some d) K (.callv x xs)=fnK (opd s x) (fun f cs=>callK C I (St.mk s o) (some d) f (xs.map (opd s)++cs) (fun r o'=>K (St.mk (upd s d r) o'))):=propext Iff.rfl
theorem go_callv0 {xs:List Opd}:stepB C I (St.mk s o) none K (.callv x xs)=fnK (opd s x) (fun f cs=>callK C I (St.mk s o) none f (xs.map (opd s)++cs) (fun r o'=>K (St.mk s o'))):=propext Iff.rfl
end
attribute [congr] stepB_congr
attribute [go_sem ↓] go_seq go_skip go_reg go_cond go_block go_exit go_ret go_scope go_nil go_op go_opt go_opf go_opft go_opg go_opgt go_opgf go_opgft
attribute [go_sem] go_mv go_pick go_bin go_un go_conv go_same go_bstr go_ext go_load go_faddr go_fld go_iaddr go_iaddrA go_idx go_idxA go_slc go_slcS go_len go_lenS go_mm go_build go_fnv go_nilc go_eqs go_beq go_nilE go_nilP go_never go_nilS go_store go_alloc go_allocB go_box go_bsl0 go_bsl1 go_bsl2 go_mks0 go_mks1 go_app0 go_app1 go_appD go_cut go_mkmap go_mset go_mget go_call go_call0 go_callv go_callv0
attribute [go_sem] go_put go_put0 opd_t opd_c opd_f
end Pay
end
/- From a contract to what the judge's statements ask of a call. -/
section
set_option linter.unusedSimpArgs false
set_option linter.unusedVariables false
namespace Pay
open Go
abbrev okW (W:World) (g:Nat):Prop:=g<W.heap.size
theorem SoundAt.calls {C : Ctx} {f : Nat} {vs : List V} {b : Bool} (h : SoundAt C f ⟨vs, looko []⟩ ⟨.d (.bool b), looko []⟩) {g : Func} (hg : C.P.funcs[C.φ f]? = some g) (hbody : g.body.isSome = true) (hname : (g.name != "runtime.NumGoroutine") = true)
    {W:World} (hgi:C.gi W) (hb:C.base≤W.heap.size) {us:List Value} (ha:RepVs C W (okW W) (fun _=>undef) vs us) :
    Calls C.P (C.φ f) ⟨us⟩ W (fun e W'=>e = .returned (.bool b)∧Go.RowKit.Below W.heap.size W W'):=by
  have hok:∀ g,okW W g→W.heap[g]? = W.heap[g]? ∧ okOf W (fun g=>g<W.heap.size) (fun _=>undef) (looko []) W g:=fun g hg=>⟨rfl,.inl hg,hg,fun n x hx=>by simp [looko] at hx⟩
  have hpre:Pre C W (fun g=>g<W.heap.size) (fun _=>False) (fun _=>undef) ⟨vs,looko []⟩ us:=by
    refine ⟨⟨hgi,hb,fun _ h=>h.elim,fun _ h=>h,fun _ h=>h.elim⟩,RepVs.mono hok _ _ (fun _ _=>rfl) ha,fun n x hx => ?_,fun n m x y g hx _ _ _ => ?_,fun n x g hx _ => ?_⟩
    all_goals simp [looko] at hx
  have he:=h W _ _ _ us hpre
  obtain ⟨c,hbody⟩:=Option.isSome_iff_exists.1 hbody
  have hrun:(callFunc (C.φ f) ⟨us⟩).run C.P W = .ok (.enter (C.φ f) ⟨us⟩) W:=by
    simp only [bne_iff_ne,ne_eq] at hname
    simp [callFunc,hg,hname,hbody]
  unfold Enters at he
  rw [hrun] at he
  simp only at he
  refine Calls.mono he (fun e w' h => ?_)
  cases e with
  | returned v =>
    obtain ⟨γ',hp⟩:=h
    have hv:v = .bool b:=hp.res
    refine ⟨by rw [hv],hp.fram.os,hp.fram.tape,hp.fram.output,hp.fram.size,fun k hk=>hp.fram.block k hk (fun h=>h)⟩
  | _=>exact h.elim
theorem block_lt {W:World}{a:Addr}{u:Value}(h:W.cell? a=some u):a.block<W.heap.size:=by
  rcases Nat.lt_or_ge a.block W.heap.size with h'|h'
  · exact h'
  · have:W.heap[a.block]? = none:=by simp;omega
    simp [World.cell?,this] at h
end Pay
end
/- What came in, as data: every type made of whole numbers, bools, strings, slices and structs. -/
section
set_option linter.unusedSimpArgs false
set_option linter.unusedVariables false
namespace Pay
open Go
inductive Sh where
  | int (k:IntKind)
  | bool
  | str
  | sl (ss:List Sh)
mutual
def Conf:D→Sh→Prop
  | .int k n,.int k'=>k=k'∧(Lit.int k n).wf=true
  | .bool _,.bool=>True
  | .str s,.str=>s.length≤maxLen
  | .sl es,.sl ss=>ConfE es ss
  | _,_=>False
def ConfE:List (List D)→List Sh→Prop
  | [],_=>True
  | e::es,ss=>ConfC e ss∧ConfE es ss
def ConfC:List D→List Sh→Prop
  | [],[]=>True
  | d::ds,s::ss=>Conf d s∧ConfC ds ss
  | _,_=>False
end
def shapeF (P:Program) (r:TypeId→Option (List Sh)):Nat→List Field→Option (List Sh)
  | _,[]=>some []
  | off,f::fs=>if f.offset=off then (match r f.type with
    | some ss=>if P.cellsOf f.type=ss.length then (match shapeF P r (off+ss.length) fs with|some rest=>some (ss++rest)|none=>none) else none
    | none=>none) else none
def shapes (P:Program):Nat→TypeId→Option (List Sh)
  | 0,_=>none
  | n+1,t=>match P.underlying t with
    | some (.int k)=>some [.int k]
    | some .bool=>some [.bool]
    | some .string=>some [.str]
    | some (.slice e)=>(match shapes P n e with|some ss=>if P.cellsOf e=ss.length∧0<ss.length then some [.sl ss] else none|none=>none)
    | some (.struct fs)=>(match shapeF P (shapes P n) 0 fs.toList with|some ss=>if P.cellsOf t=ss.length then some ss else none|none=>none)
    | _=>none
theorem ConfC.length:∀ {ds:List D}{ss:List Sh},ConfC ds ss→ds.length=ss.length
  | [],[],_=>rfl
  | d::ds,s::ss,h=>by simp [ConfC.length h.2]
  | [],_::_,h=>h.elim
  | _::_,[],h=>h.elim
theorem ConfC.append:∀ {ds ds':List D}{ss ss':List Sh},ConfC ds ss→ConfC ds' ss'→ConfC (ds++ds') (ss++ss')
  | [],_,[],_,_,h=>h
  | d::ds,_,s::ss,_,h,h'=>⟨h.1,ConfC.append h.2 h'⟩
  | [],_,_::_,_,h,_=>h.elim
  | _::_,_,[],_,h,_=>h.elim
theorem RepCells.app2 {w:World}{ok:Nat→Prop}:∀ {ds ds':List D}{us us':List Value},ds.length=us.length→RepCells w ok ds us→RepCells w ok ds' us'→RepCells w ok (ds++ds') (us++us')
  | [],_,[],_,_,_,h=>h
  | d::ds,_,u::us,_,hl,h,h'=>⟨h.1,RepCells.app2 (by simpa using hl) h.2 h'⟩
  | [],_,_::_,_,hl,_,_=>by simp at hl
  | _::_,_,[],_,hl,_,_=>by simp at hl
theorem mapM_get {α β:Type} {f:α→Option β}:∀ {l:List α} {r:List β},l.mapM f=some r→r.length=l.length∧∀ (i:Nat) (x:α),l[i]? = some x→f x=r[i]?
  | [],r,h=>by
    simp at h;subst h
    exact ⟨rfl,fun i x hx=>by simp at hx⟩
  | x :: l,r,h=>by
    rw [List.mapM_cons] at h
    cases hx:f x with
    | none=>simp [hx] at h
    | some y =>
      cases hl:l.mapM f with
      | none=>simp [hx,hl] at h
      | some r' =>
        simp [hx,hl] at h
        subst h
        obtain ⟨h1,h2⟩:=mapM_get hl
        refine ⟨by simp [h1],fun i z hz => ?_⟩
        cases i with
        | zero=>simp at hz;subst hz;simpa using hx
        | succ i=>simpa using h2 i z (by simpa using hz)
section
variable {H:Type}{enc:TypeId × Value→H}{P:Program}{W:World}{spare:Nat→Bool}{held:Bool}
theorem fields_open {m:Nat}{cs:List Value}{r:TypeId→Option (List Sh)}(ih:∀ t ss,r t=some ss→∀ cs x,DataW.trod enc P W 0 spare held m t cs=some x→∃ ds,ConfC ds ss∧cs.length=ss.length∧RepCells W (okW W) ds cs) :
    ∀ (l:List Field) (off:Nat) (ss:List Sh),shapeF P r off l=some ss→off+ss.length≤cs.length→(∀ f∈l,∃ y,DataW.trod enc P W 0 spare held m f.type ((cs.drop f.offset).take (P.cellsOf f.type))=some y) →
      ∃ ds,ConfC ds ss∧RepCells W (okW W) ds ((cs.drop off).take ss.length)
  | [],off,ss,h,_,_=>by
    simp only [shapeF,Option.some.injEq] at h
    subst h
    exact ⟨[],trivial,trivial⟩
  | f :: l,off,ss,h,hl,hf=>by
    simp only [shapeF] at h
    split at h
    case isFalse=>cases h
    rename_i hoff
    split at h
    case h_2=>cases h
    rename_i s1 hs1
    split at h
    case isFalse=>cases h
    rename_i hc
    split at h
    case h_2=>cases h
    rename_i s2 hs2
    injection h with h
    subst h
    obtain ⟨y,hy⟩:=hf f (by simp)
    rw [hoff,hc] at hy
    obtain ⟨d1,c1,l1,r1⟩:=ih _ _ hs1 _ _ hy
    simp only [List.length_append] at hl
    obtain ⟨d2,c2,r2⟩:=fields_open ih l (off+s1.length) s2 hs2 (by omega) (fun g hg=>hf g (by simp [hg]))
    refine ⟨d1++d2,c1.append c2,?_⟩
    have e:(cs.drop off).take (s1++s2).length=(cs.drop off).take s1.length++(cs.drop (off+s1.length)).take s2.length:=by
      rw [List.length_append,List.take_add,List.drop_drop]
    rw [e]
    exact RepCells.app2 (by rw [l1];exact c1.length) r1 r2
theorem cells_rep {a:Addr} {ds:List D} {cs:List Value} {off sz:Nat} (hc:W.cells? 0 (a.add off) sz=some cs) (hl:ds.length=sz) (hr:RepCells W (okW W) ds cs):RepCs W (okW W) a off ds:=by
  unfold World.cells? at hc
  rw [if_pos (Nat.zero_le _)] at hc
  obtain ⟨h1,h2⟩:=mapM_get hc
  have key:∀ (ds:List D) (k:Nat) (us:List Value),(∀ i u,us[i]? = some u→W.cell? (a.add (off+(k+i)))=some u)→ds.length≤us.length→RepCells W (okW W) ds us→RepCs W (okW W) a (off+k) ds:=by
    intro ds
    induction ds with
    | nil=>intro k us _ _ _;trivial
    | cons d ds ih =>
      intro k us hu hl hr
      cases us with
      | nil=>exact hr.elim
      | cons u us =>
        refine ⟨⟨u,by simpa using hu 0 u rfl,hr.1⟩,?_⟩
        have:=ih (k+1) us (fun i v hv=>by
          have:=hu (i+1) v (by simpa using hv)
          rwa [show k+(i+1)=k+1+i by omega] at this) (by simpa using hl) hr.2
        rwa [show off+(k+1)=off+k+1 by omega] at this
  have:=key ds 0 cs (fun i u hu=>by
    have hi:i<sz:=by
      have:=(List.getElem?_eq_some_iff.1 hu).1
      simp at h1;omega
    have:=h2 i i (by simp [hi])
    rw [hu] at this
    rw [Nat.zero_add,← add_add']
    exact this) (by simp at h1;omega) hr
  simpa using this
theorem trod_open:∀ (n:Nat) (t:TypeId) (ss:List Sh),shapes P n t=some ss→∀ (fuel:Nat) (cs:List Value) (x:DataW H × List MemPlace),DataW.trod enc P W 0 spare held fuel t cs=some x →
    ∃ ds,ConfC ds ss∧cs.length=ss.length∧RepCells W (okW W) ds cs
  | 0,t,ss,h,_,_,_,_=>by simp [shapes] at h
  | n + 1,t,ss,h,fuel,cs,x,ht=>by
    simp only [shapes] at h
    split at h
    case h_1 k hu =>
      injection h with h;subst h
      obtain ⟨m,rfl,_,hw⟩:=DataW.trod_int hu ht
      exact ⟨[.int k m],⟨⟨rfl,hw⟩,trivial⟩,rfl,rfl,trivial⟩
    case h_2 hu =>
      injection h with h;subst h
      obtain ⟨b,rfl,_⟩:=DataW.trod_bool hu ht
      exact ⟨[.bool b],⟨trivial,trivial⟩,rfl,rfl,trivial⟩
    case h_3 hu =>
      injection h with h;subst h
      obtain ⟨s,rfl,_,hs⟩:=DataW.trod_string hu ht
      refine ⟨[.str s.data.toList],⟨?_,trivial⟩,rfl,rfl,trivial⟩
      show s.data.toList.length≤maxLen
      simpa using hs
    case h_4 e hu =>
      split at h
      case h_2=>cases h
      rename_i s1 hs1
      split at h
      case isFalse=>cases h
      rename_i hc
      injection h with h;subst h
      rcases DataW.trod_slice hu ht with ⟨rfl,_⟩|⟨a,len,cap,elems,rest,m,_,rfl,_,_,hlc,_,hel,hget,_,_⟩
      · exact ⟨[.sl []],⟨trivial,trivial⟩,rfl,⟨none,0,0,rfl,Nat.le_refl _,fun e he=>(by cases he),fun h=>absurd rfl h⟩,trivial⟩
      have one:∀ i,i<len→∃ ci di,W.cells? 0 (a.add (i*s1.length)) s1.length=some ci∧ConfC di s1∧RepCells W (okW W) di ci:=by
        intro i hi
        have h1:=hget i hi
        rw [List.getElem?_eq_getElem (by omega),hc.1] at h1
        cases hci:W.cells? 0 (a.add (i*s1.length)) s1.length with
        | none=>rw [hci] at h1;simp at h1
        | some ci =>
          rw [hci] at h1
          simp only [Option.bind_some] at h1
          obtain ⟨di,c,_,r⟩:=trod_open n e s1 hs1 m ci _ h1
          exact ⟨ci,di,rfl,c,r⟩
      have all:∀ k j,j+k=len→∃ es:List (List D),es.length=k∧ConfE es s1∧RepEs W (okW W) a (j*s1.length) es∧∀ e∈es,e.length=s1.length:=by
        intro k
        induction k with
        | zero=>intro j _;exact ⟨[],rfl,trivial,trivial,fun e he=>by cases he⟩
        | succ k ih =>
          intro j hj
          obtain ⟨ci,di,h1,h2,h3⟩:=one j (by omega)
          obtain ⟨es,e1,e2,e3,e4⟩:=ih (j+1) (by omega)
          refine ⟨di::es,by simp [e1],⟨h2,e2⟩,⟨cells_rep h1 h2.length h3,?_⟩,fun e he => ?_⟩
          · rw [h2.length]
            rwa [Nat.add_mul,Nat.one_mul] at e3
          · rcases List.mem_cons.1 he with rfl|he
            · exact h2.length
            · exact e4 e he
      obtain ⟨es,e1,e2,e3,e4⟩:=all len 0 (by omega)
      refine ⟨[.sl es],⟨e2,trivial⟩,rfl,⟨some a,cap,s1.length,by rw [e1],by omega,e4,fun hne=>⟨a,rfl,?_,by simpa using e3⟩⟩,trivial⟩
      have hlen:0<len:=by
        rcases Nat.eq_zero_or_pos len with h0|h0
        · exact absurd (List.length_eq_zero_iff.1 (by omega)) hne
        · exact h0
      obtain ⟨ci,di,h1,_,_⟩:=one 0 hlen
      unfold World.cells? at h1
      rw [if_pos (Nat.zero_le _)] at h1
      obtain ⟨h4,h5⟩:=mapM_get h1
      have h6:=h5 0 0 (by simp [hc.2])
      rw [List.getElem?_eq_getElem (by simp at h4;omega)] at h6
      have:=block_lt h6
      rwa [add_block,add_block] at this
    case h_5 fs hu =>
      split at h
      case h_2=>cases h
      rename_i s1 hs1
      split at h
      case isFalse=>cases h
      rename_i hc
      injection h with h;subst h
      obtain ⟨xs,m,rfl,_,hlen,hxl,hget⟩:=DataW.trod_struct hu ht
      obtain ⟨ds,c,r⟩:=fields_open (cs:=cs) (m:=m) (r:=shapes P n) (fun t ss hs cs x hx=>trod_open n t ss hs m cs x hx) fs.toList 0 s1 hs1 (by omega) (fun f hf=>by
        obtain ⟨i,hi,rfl⟩:=List.getElem_of_mem hf
        have h1:=hget i _ (by simpa using Array.getElem?_eq_getElem (xs:=fs) (i:=i) (by simpa using hi))
        have hi':i<xs.length:=by simp at hi;omega
        rw [List.getElem?_eq_getElem hi'] at h1
        exact ⟨_,by simpa using h1⟩)
      refine ⟨ds,c,by omega,?_⟩
      rw [List.drop_zero,List.take_of_length_le (by omega)] at r
      exact r
    case h_6=>cases h
theorem repVs_of {C:Ctx}{w:World}{ok:Nat→Prop}{γ:Nat→Value}:∀ {ds:List D}{us:List Value},ds.length=us.length→RepCells w ok ds us→RepVs C w ok γ (ds.map V.d) us∧∀ u∈us,u.oneCell'=true
  | [],[],_,_=>⟨rfl,fun u hu=>by cases hu⟩
  | d::ds,u::us,hl,h=>by
    obtain ⟨h1,h2⟩:=repVs_of (C:=C) (γ:=γ) (by simpa using hl) h.2
    refine ⟨⟨u,us,rfl,h.1,h1⟩,fun x hx => ?_⟩
    rcases List.mem_cons.1 hx with rfl|hx
    · exact h.1.one
    · exact h2 x hx
  | [],_::_,hl,_=>by simp at hl
  | _::_,[],hl,_=>by simp at hl
theorem arg_struct {C:Ctx}{γ:Nat→Value}{r:Reach}{base n:Nat}{t:TypeId}{fs:Array Field}{ss:List Sh}{v:Value}{d:DataW H}{ps:List MemPlace}(hu:P.underlying t=some (.struct fs))(hs:shapes P n t=some ss)
    (hv:Value.okWide P W r base t v) (h:DataW.Trod enc P W 0 spare held t v d ps):∃ ds,ConfC ds ss∧RepV C W (okW W) γ (.agg (ds.map V.d)) v:=by
  obtain ⟨cs,rfl,_⟩:=WideShapes.okWide_struct hu hv
  obtain ⟨fuel,hf⟩:=h
  obtain ⟨ds,c,hl,hr⟩:=trod_open n t ss hs fuel _ _ hf
  have e:(Value.agg cs).cells.toList=cs.toList:=by simp [Value.cells]
  rw [e] at hl hr
  obtain ⟨h1,h2⟩:=repVs_of (C:=C) (γ:=γ) (by rw [c.length,hl]) hr
  exact ⟨ds,c,cs.toList,by simp,h1,h2⟩
theorem arg_cell {n:Nat}{t:TypeId}{s:Sh}{v:Value}{d:DataW H}{ps:List MemPlace}(hs:shapes P n t=some [s])(hc:v.cells = #[v])(h:DataW.Trod enc P W 0 spare held t v d ps):∃ x,Conf x s∧RepD W (okW W) x v:=by
  obtain ⟨fuel,hf⟩:=h
  obtain ⟨ds,c,hl,hr⟩:=trod_open n t [s] hs fuel _ _ hf
  rw [hc] at hr
  match ds,c,hr with
  | [x],c,hr=>exact ⟨x,c.1,hr.1⟩
end
theorem conf_int {d:D}{k:IntKind}(h:Conf d (.int k)):∃ n,d = .int k n∧(Lit.int k n).wf=true:=by
  cases d with
  | int k' n=>exact ⟨n,by rw [h.1],by rw [← h.1];exact h.2⟩
  | _=>exact h.elim
theorem conf_str {d:D}(h:Conf d .str):∃ s,d = .str s:=by
  cases d with
  | str s=>exact ⟨s,rfl⟩
  | _=>exact h.elim
theorem confC_cons {ds:List D}{s:Sh}{ss:List Sh}(h:ConfC ds (s::ss)):∃ d r,ds=d::r∧Conf d s∧ConfC r ss:=by
  cases ds with
  | nil=>exact h.elim
  | cons d r=>exact ⟨d,r,rfl,h.1,h.2⟩
theorem confC_nil {ds:List D}(h:ConfC ds []):ds=[]:=by
  cases ds with
  | nil=>rfl
  | cons d r=>exact h.elim
end Pay
end
/- Functions whose run is told by a contract over the program's own machine; a row that lists variables. -/
section
set_option linter.unusedSimpArgs false
set_option linter.unusedVariables false
namespace Pay
open Go
theorem SoundAt.of_calls {C : Ctx} {f : Nat} {vs : List V} {r : V} {us : List Value} {g : Func} (hg : C.P.funcs[C.φ f]? = some g) (hbody : g.body.isSome = true) (hname : (g.name != "runtime.NumGoroutine") = true)
    (hus:∀ w ok γ us',RepVs C w ok γ vs us'→us'=us)
    (h:∀ w,C.gi w→Calls C.P (C.φ f) ⟨us⟩ w (fun e w'=>∃ v,e = .returned v∧(∀ ok γ,RepV C w' ok γ r v)∧Go.RowKit.Below w.heap.size w w')) :
    SoundAt C f ⟨vs,looko []⟩ ⟨r,looko []⟩:=by
  intro w S M γ us' hp
  have e:=hus _ _ _ _ hp.args
  subst e
  obtain ⟨c,hbody⟩:=Option.isSome_iff_exists.1 hbody
  have hrun:(callFunc (C.φ f) ⟨us'⟩).run C.P w = .ok (.enter (C.φ f) ⟨us'⟩) w:=by
    simp only [bne_iff_ne,ne_eq] at hname
    simp [callFunc,hg,hname,hbody]
  unfold Enters
  rw [hrun]
  simp only
  refine Calls.mono (h w hp.env.gi) ?_
  rintro e w' ⟨v,rfl,hr,hb⟩
  refine ⟨γ,⟨hr _ _,fun n x hx => ?_,fun n m x y g hx _ _ _ => ?_,fun n x g hx _ => ?_,⟨hb.os,hb.tape,hb.output,hb.size,fun g hg _=>hb.block g hg⟩,fun n _ _=>rfl⟩⟩
  all_goals simp [looko] at hx
theorem tab_of_reads {P:Program}{W:World}{name:String}{k:IntKind}{zs:List Int}{g:Nat}{t e:TypeId}{n:Nat}(hg:P.globalNamed name=some g)(hty:(P.globals[g]?).map (·.type)=some t)(ht:P.underlying t=some (.array n e))(he:P.underlying e=some (.int k))(hce:P.cellsOf e=1)(hct:P.cellsOf t=n)
    (h:Lib.VarReads P W name (Lib.tabData k zs)):Lib.TabIs P W name k zs:=by
  obtain ⟨g',t',cs,fuel,p,h1,h2,h3,h4⟩:=h
  obtain rfl:=Option.some.inj (hg.symm.trans h1)
  obtain rfl:=Option.some.inj (hty.symm.trans h2)
  have:=Lib.cells_of_tab ht he hce hct h4
  obtain ⟨l⟩:=cs
  simp only at this
  subst this
  exact h3
theorem returns_laid {H:Type}{enc:TypeId × Value→H}{C:Checked}{os:Os}{f:FuncId}{fn:Func}{s:ChangeSpec}{apart fresh handsOn again:Bool}{X:World→Prop}
    (hX:∀ w w':World,w.heap=w'.heap→X w→X w')
    (own:ownKnob C.prog.godebug=none) (started:os.Started) (noInit:C.prog.inits.idxOf? f=none) (hfn:C.prog.funcs[f]? = some fn)
    (witness:∃ (w:World) (tape:Tape) (i:Input),w.os=os∧(w.forCall tape i).Shaped C.prog∧i.vars=[]∧Input.okWide C.prog (w.forCall tape i) .any w.heap.size f i ∧
      ((s.pre enc C.prog fn [] apart (w.forCall tape i).memory i.args∧X (w.forCall tape i).memory)∧sizedMet enc C.prog fn (OpenSpec.ofChange s) apart (w.forCall tape i).memory i.args)∧({}:Assume).holds C.prog (lone (Frame.enter C.prog f i.args .normal) [] (w.forCall tape i)))
    (contract:∀ (W:World) (base:Nat) (args:Array Value) (ds gs:List (DataW H)) (before:List MemPlace),
      (∀ (j:Nat) t v,fn.params[j]? = some t→args[j]? = some v→Value.okWide C.prog W .any base t v) →
      DataW.Whole enc C.prog fn.params.toList s.vars apart W args.toList ds gs before→X W→W.ShapedOpen C.prog →
      Calls C.prog f args W fun e W'=>∃ v,e = .returned v∧s.post enc C.prog fn apart fresh handsOn again W args v W') :
    ReturnsInHanded {} C os f .any (fun w args=>(s.pre enc C.prog fn [] apart w args∧X w)∧sizedMet enc C.prog fn (OpenSpec.ofChange s) apart w args) (s.post enc C.prog fn apart fresh handsOn again):=by
  refine returnsInHanded_of_calls own started noInit witness ?_
  intro w tape i _ hsh _ hok hpre _
  obtain ⟨_,_,_,fn',hfn',_,_,_,_,hval⟩:=hok
  obtain rfl:fn'=fn:=Option.some.inj (hfn'.symm.trans hfn)
  obtain ⟨⟨⟨ds,gs,before,hw,_⟩,hx⟩,_⟩:=hpre
  refine (contract (w.forCall tape i) w.heap.size i.args ds gs before hval (DataW.Whole.of_heap (w':=w.forCall tape i) (by rfl) hw) (hX _ _ (by rfl) hx) hsh).mono fun e W' ⟨v,he,hp⟩ => ?_
  subst he
  exact ChangeSpec.post_blind hp
end Pay
end
/- A law whose contract says true: its row holds. -/
section
set_option linter.unusedSimpArgs false
set_option linter.unusedVariables false
namespace Pay
open Go Go.ChangeShapes Go.WideShapes Go.ChangeAt Go.RowKit
def argShape (P:Program)(n:Nat)(t:TypeId):Option (Bool × List Sh) :=
  match P.underlying t with
  | some (.struct _)=>(shapes P n t).map (fun ss=>(true,ss))
  | some (.int _)|some .bool|some .string|some (.slice _)=>(match shapes P n t with|some [s]=>some (false,[s])|_=>none)
  | _=>none
def argShapes (P:Program)(n:Nat):List TypeId→Option (List (Bool × List Sh))
  | []=>some []
  | t::ts=>(match argShape P n t,argShapes P n ts with|some s,some ss=>some (s::ss)|_,_=>none)
def argV:Bool→List D→V
  | true,ds=>.agg (ds.map .d)
  | false,[d]=>.d d
  | false,_=>.undef
def argVs:List (Bool × List Sh)→List (List D)→List V
  | s::ss,ds::dss=>argV s.1 ds::argVs ss dss
  | _,_=>[]
def ConfA:List (Bool × List Sh)→List (List D)→Prop
  | [],[]=>True
  | s::ss,ds::dss=>ConfC ds s.2∧ConfA ss dss
  | _,_=>False
section
variable {H:Type}{enc:TypeId × Value→H}{P:Program}{W:World}{spare:Nat→Bool}{held:Bool}
theorem arg_open {C:Ctx}{γ:Nat→Value}{r:Reach}{base n:Nat}{t:TypeId}{s:Bool × List Sh}{v:Value}{d:DataW H}{ps:List MemPlace}(hs:argShape P n t=some s)
    (hv:Value.okWide P W r base t v) (h:DataW.Trod enc P W 0 spare held t v d ps):∃ ds,ConfC ds s.2∧RepV C W (okW W) γ (argV s.1 ds) v:=by
  have cell:∀ s1,shapes P n t=some [s1]→s=(false,[s1])→v.cells = #[v]→∃ ds,ConfC ds s.2∧RepV C W (okW W) γ (argV s.1 ds) v:=by
    rintro s1 h1 rfl hc
    obtain ⟨x,c,hr⟩:=arg_cell h1 hc h
    exact ⟨[x],⟨c,trivial⟩,hr⟩
  unfold argShape at hs
  split at hs
  · rename_i fs hu
    obtain ⟨ss,h1,rfl⟩:=Option.map_eq_some_iff.1 hs
    exact arg_struct hu h1 hv h
  · rename_i k hu
    split at hs
    · rename_i s1 h1
      obtain ⟨m,rfl⟩:=okWide_int hu hv
      exact cell s1 h1 (Option.some.inj hs).symm (by simp [Value.cells])
    · cases hs
  · rename_i hu
    split at hs
    · rename_i s1 h1
      obtain ⟨m,rfl⟩:=okWide_bool hu hv
      exact cell s1 h1 (Option.some.inj hs).symm (by simp [Value.cells])
    · cases hs
  · rename_i hu
    split at hs
    · rename_i s1 h1
      obtain ⟨m,rfl⟩:=okWide_string hu hv
      exact cell s1 h1 (Option.some.inj hs).symm (by simp [Value.cells])
    · cases hs
  · rename_i e hu
    split at hs
    · rename_i s1 h1
      obtain ⟨a,l,c,rfl⟩:=okWide_slice hu hv
      exact cell s1 h1 (Option.some.inj hs).symm (by simp [Value.cells])
    · cases hs
  · cases hs
theorem args_open {C:Ctx}{γ:Nat→Value}{r:Reach}{base n:Nat}:∀ (ts:List TypeId)(vs:List Value)(ds:List (DataW H))(ps:List MemPlace)(ss:List (Bool × List Sh)),argShapes P n ts=some ss →
    (∀ (j:Nat) t v,ts[j]? = some t→vs[j]? = some v→Value.okWide P W r base t v)→DataW.TrodAll enc P W 0 spare held ts vs ds ps→ds.length=ts.length∧∃ dss,ConfA ss dss∧RepVs C W (okW W) γ (argVs ss dss) vs
  | [],vs,ds,ps,ss,hs,_,h=>by
    simp only [argShapes,Option.some.injEq] at hs
    subst hs
    obtain ⟨rfl,rfl,_⟩:=trodAll_nil h
    exact ⟨rfl,[],trivial,rfl⟩
  | t::ts,vs,ds,ps,ss,hs,hv,h=>by
    simp only [argShapes] at hs
    split at hs
    case h_2=>cases hs
    rename_i s ss' h1 h2
    injection hs with hs
    subst hs
    obtain ⟨v,vs',d,ds',p,q,rfl,rfl,rfl,k1,k2⟩:=trodAll_cons h
    obtain ⟨x,c1,r1⟩:=arg_open (C:=C) (γ:=γ) h1 (hv 0 t v rfl rfl) k1
    obtain ⟨hl,xs,c2,r2⟩:=args_open (C:=C) (γ:=γ) ts vs' ds' q ss' h2 (fun j t v ht hv'=>hv (j+1) t v (by simpa using ht) (by simpa using hv')) k2
    exact ⟨by simp [hl],x::xs,⟨c1,c2⟩,v,vs',rfl,r1,r2⟩
theorem args_shut {W':World}(hl:laidOutB P=true)(hb:Below W.heap.size W W'):∀ (ts:List TypeId)(vs:List Value)(ds:List (DataW H))(ps:List MemPlace),(ts.all fun t=>P.readableRec t&&decide (t<P.types.size))=true →
    (∀ x∈ps,x.block<W.heap.size)→DataW.TrodAll enc P W 0 (fun _=>true) true ts vs ds ps→DataW.TrodAll enc P W' 0 (fun b=>decide (b<W.heap.size)) true ts vs ds ps
  | [],vs,ds,ps,_,_,h=>by
    obtain ⟨rfl,rfl,rfl⟩:=trodAll_nil h
    rfl
  | t::ts,vs,ds,ps,ht,hp,h=>by
    obtain ⟨v,vs',d,ds',p,q,rfl,rfl,rfl,k1,k2⟩:=trodAll_cons h
    simp only [List.all_cons,Bool.and_eq_true,decide_eq_true_eq] at ht
    exact ⟨p,q,Below.trod hl ht.1.1 ht.1.2 k1 hb (fun x hx=>hp x (by simp [hx])),args_shut hl hb ts vs' ds' q (by simpa using ht.2) (fun x hx=>hp x (by simp [hx])) k2,rfl⟩
end
theorem law_laid {H:Type}{enc:TypeId × Value→H}{K:Checked}{os:Os}{f:FuncId}{fn:Func}{s:ChangeSpec}(C:Ctx)(hP:C.P=K.prog){X:World→Prop}{k n:Nat}{shs:List (Bool × List Sh)}{tb:TypeId}
    (hX:∀ w w':World,w.heap=w'.heap→X w→X w')
    (own:ownKnob K.prog.godebug=none) (started:os.Started) (noInit:K.prog.inits.idxOf? f=none) (hfn:K.prog.funcs[f]? = some fn)
    (witness:∃ (w:World) (tape:Tape) (i:Input),w.os=os∧(w.forCall tape i).Shaped K.prog∧i.vars=[]∧Input.okWide K.prog (w.forCall tape i) .any w.heap.size f i ∧
      ((s.pre enc K.prog fn [] false (w.forCall tape i).memory i.args∧X (w.forCall tape i).memory)∧sizedMet enc K.prog fn (OpenSpec.ofChange s) false (w.forCall tape i).memory i.args)∧({}:Assume).holds K.prog (lone (Frame.enter K.prog f i.args .normal) [] (w.forCall tape i)))
    (hl:laidOutB K.prog=true) (hts:(fn.params.toList.all fun t=>K.prog.readableRec t&&decide (t<K.prog.types.size))=true) (hsh:argShapes K.prog n fn.params.toList=some shs)
    (hres:fn.resultTypes = #[tb]) (hb:K.prog.underlying tb=some .bool) (hvars:s.vars=[])
    (hspec:∀ ds:List (DataW H),ds.length=fn.params.toList.length→s.fn H ds = { results:=[.lit (.bool true)],args:=ds })
    (hbody : fn.body.isSome = true) (hname : (fn.name != "runtime.NumGoroutine") = true)
    (hgi:∀ W,X W→W.ShapedOpen K.prog→C.gi W∧C.base≤W.heap.size) (hf:C.φ k=f)
    (hS:∀ dss,ConfA shs dss→SoundAt C k ⟨argVs shs dss,looko []⟩ ⟨.d (.bool true),looko []⟩) :
    ReturnsInHanded {} K os f .any (fun w args=>(s.pre enc K.prog fn [] false w args∧X w)∧sizedMet enc K.prog fn (OpenSpec.ofChange s) false w args) (s.post enc K.prog fn false true false false):=by
  refine returns_laid hX own started noInit hfn witness ?_
  intro W base args ds gs before hval hW hx hso
  have hW':=hW
  obtain ⟨p,q,hA,hV,rfl,_,_⟩:=hW
  rw [hvars] at hV
  obtain ⟨rfl,rfl⟩:=trodVars_none hV
  obtain ⟨hg,hbase⟩:=hgi W hx hso
  obtain ⟨hlen,dss,hc,hr⟩:=args_open (C:=C) (γ:=fun _=>undef) (r:=.any) (base:=base) (n:=n) fn.params.toList args.toList ds p shs hsh (fun j t v ht hv=>hval j t v (by simpa using ht) (by simpa using hv)) hA
  have hsp:=hspec ds hlen
  have hlt:∀ x∈p,x.block<W.heap.size:=fun x hx=>hW'.lt x (by simp [hx])
  subst hf
  have hcalls:=SoundAt.calls (C:=C) (hS dss hc) (g:=fn) (by rw [hP];exact hfn) hbody hname hg hbase (us:=args.toList) hr
  rw [hP] at hcalls
  have ha:(⟨args.toList⟩:Array Value)=args:=by cases args;rfl
  rw [ha] at hcalls
  refine hcalls.mono fun e W' ⟨he,hg⟩ => ?_
  subst he
  have hs2:s.fn H (ds++[]) = { results:=[.lit (.bool true)],args:=ds }:=by rw [List.append_nil];exact hsp
  have e2:fn.resultTypes.toList=[tb]:=by rw [hres]
  have e3:(Value.bool true).resultList fn.resultTypes.size=[.bool true]:=by rw [hres];rfl
  refine ⟨_,rfl,ds,[],p++[],[],p,[],hW',?_,?_,?_,hg.frame _,fun h=>by cases h⟩
  · rw [hs2,e2,e3]
    exact trodAll_mk1 (shut_bool hb true)
  · rw [hs2]
    exact args_shut hl hg fn.params.toList args.toList ds p hts hlt hA
  · rw [hs2,hvars]
    rfl
theorem confA_nil {dss:List (List D)}(h:ConfA [] dss):dss=[]:=by
  cases dss with
  | nil=>rfl
  | cons _ _=>exact h.elim
theorem confA_cons {s:Bool × List Sh}{ss:List (Bool × List Sh)}{dss:List (List D)}(h:ConfA (s::ss) dss):∃ ds r,dss=ds::r∧ConfC ds s.2∧ConfA ss r:=by
  cases dss with
  | nil=>exact h.elim
  | cons ds r=>exact ⟨ds,r,rfl,h.1,h.2⟩
theorem wf_i64 {n:Int}(h:(Lit.int .i64 n).wf=true) : -9223372036854775808≤n∧n<9223372036854775808:=by
  simp [Lit.wf,IntKind.min,IntKind.max,IntKind.signed,IntKind.bits] at h
  omega
theorem confA_int {ss:List (Bool × List Sh)}{dss:List (List D)}(h:ConfA ((false,[.int .i64])::ss) dss):∃ n r,dss=[.int .i64 n]::r∧(-9223372036854775808≤n∧n<9223372036854775808)∧ConfA ss r:=by
  obtain ⟨ds,r,rfl,h1,h2⟩:=confA_cons h
  obtain ⟨d,r',rfl,h3,h4⟩:=confC_cons h1
  obtain rfl:=confC_nil h4
  obtain ⟨n,rfl,hw⟩:=conf_int h3
  exact ⟨n,r,rfl,wf_i64 hw,h2⟩
theorem confA_str {ss:List (Bool × List Sh)}{dss:List (List D)}(h:ConfA ((false,[.str])::ss) dss):∃ s r,dss=[.str s]::r∧s.length≤maxLen∧ConfA ss r:=by
  obtain ⟨ds,r,rfl,h1,h2⟩:=confA_cons h
  obtain ⟨d,r',rfl,h3,h4⟩:=confC_cons h1
  obtain rfl:=confC_nil h4
  obtain ⟨s,rfl⟩:=conf_str h3
  exact ⟨s,r,rfl,h3,h2⟩
end Pay
end
/- Calls that are handed objects; ends with objects. -/
section
set_option linter.unusedSimpArgs false
set_option linter.unusedVariables false
namespace Pay
open Go
section
variable {C:Ctx}{I:Nat→Prop}{st:St}{dst:Option Nat}
def objsIn:List (Nat × Ob)→(Nat→Option Ob)→Prop
  | [],_=>True
  | (k,v)::l,o=>o k=some v∧objsIn l o
abbrev oL (l:List (Nat × Ob)):List (Nat × Option Ob):=l.map fun p=>(p.1,some p.2)
theorem objsIn_get:∀ {l:List (Nat × Ob)}{o:Nat→Option Ob},objsIn l o→∀ n x,looko (oL l) n=some x→o n=some x
  | [],_,_,n,x,h=>by simp [looko] at h
  | (k,v)::l,o,hs,n,x,h=>by
    simp only [oL,List.map_cons,looko] at h
    split at h
    · rename_i e;subst e;rw [← h];exact hs.1
    · exact objsIn_get hs.2 n x h
def updL (o:Nat→Option Ob):List (Nat × Ob)→Nat→Option Ob
  | []=>o
  | (k,v)::l=>upd (updL o l) k (some v)
theorem updL_get (o:Nat→Option Ob):∀ (l:List (Nat × Ob))(n:Nat),updL o l n=match looko (oL l) n with|some x=>some x|none=>o n
  | [],n=>rfl
  | (k,v)::l,n=>by
    simp only [updL,oL,List.map_cons,looko,upd]
    split
    · rfl
    · exact updL_get o l n
theorem objs_isSome {l l':List (Nat × Ob)}(h:l.map (·.1)=l'.map (·.1))(n:Nat):(looko (oL l) n).isSome=(looko (oL l') n).isSome:=by
  induction l generalizing l' with
  | nil=>cases l' with|nil=>rfl|cons _ _=>cases h
  | cons p l ih =>
    cases l' with
    | nil=>cases h
    | cons q l' =>
      simp only [List.map_cons,List.cons.injEq] at h
      simp only [oL,List.map_cons,looko,h.1]
      split
      · rfl
      · exact ih h.2
def refsIn (l:List (Nat × Ob)):Prop:=∀ p∈l,∀ m,p.2.refs m=true→(looko (oL l) m).isSome=true
theorem looko_memL:∀ {l:List (Nat × Ob)}{n:Nat}{x:Ob},looko (oL l) n=some x→∃ p∈l,p.2=x
  | [],n,x,h=>by simp [looko] at h
  | (k,v)::l,n,x,h=>by
    simp only [oL,List.map_cons,looko] at h
    split at h
    · injection h with h;exact ⟨_,List.mem_cons_self ..,h⟩
    · obtain ⟨p,hp,e⟩:=looko_memL h;exact ⟨p,List.mem_cons_of_mem _ hp,e⟩
theorem callKX_objs {f:Nat}{X:Nat→Prop}{xs:List V}{F:V→(Nat→Option Ob)→Prop}{r:V}(l l':List (Nat × Ob))(hlo:∀ n,X n→¬I n∧(∀ t,dst≠some t→V.refs n (st.s t)=false)∧∀ m x,(looko (oL l) m).isSome=false→st.o m=some x→x.refs n=false)(ho:objsIn l st.o)(hn:l.map (·.1)=l'.map (·.1))(hrf:refsIn l')
    (h:SoundX C f X ⟨xs,looko (oL l)⟩ ⟨r,looko (oL l')⟩) (hr:∀ n,V.refs n r=true→(looko (oL l') n).isSome=true) (hK:F r (updL st.o l')):callK C I st dst f xs F:=by
  have hs:=objs_isSome hn
  have e1:exO (fun n=>(looko (oL l) n).isSome) st.o=looko (oL l):=by
    funext n
    simp only [exO]
    split
    · rename_i h
      obtain ⟨x,hx⟩:=Option.isSome_iff_exists.1 h
      rw [hx,objsIn_get ho n x hx]
    · rename_i h
      rw [Option.not_isSome_iff_eq_none] at h
      exact h.symm
  have e2:mixO (fun n=>(looko (oL l) n).isSome) st.o (looko (oL l'))=updL st.o l':=by
    funext n
    rw [updL_get]
    simp only [mixO]
    have hs:=hs n
    cases hx:looko (oL l') n with
    | none =>
      rw [hx] at hs
      simp only [Option.isSome_none] at hs
      rw [Option.isSome_eq_false_iff,Option.isNone_iff_eq_none] at hs
      simp [hs]
    | some x=>rfl
  refine ⟨fun n=>(looko (oL l) n).isSome,X,⟨r,looko (oL l')⟩,by rw [e1];exact h,⟨fun n hn=>.inl ?_,fun n hn=>.inl ?_,fun n x hx m hm=>.inl ?_,fun n h1 h2 h3=>hlo n h1⟩,by rw [e2];exact hK⟩
  · have h1:(looko (oL l') n).isSome=true:=Option.isSome_iff_ne_none.2 hn
    have h2:=hs n
    rw [h1] at h2
    refine ⟨h2,?_⟩
    cases hx:looko (oL l) n with
    | none=>rw [hx] at h2;cases h2
    | some x=>rw [objsIn_get ho n x hx];simp
  · exact Option.isSome_iff_ne_none.1 (hr n hn)
  · obtain ⟨p,hp,rfl⟩:=looko_memL hx
    exact Option.isSome_iff_ne_none.1 (hrf p hp m hm)
theorem callK_objs {f:Nat}{xs:List V}{F:V→(Nat→Option Ob)→Prop}{r:V}(l l':List (Nat × Ob))(ho:objsIn l st.o)(hn:l.map (·.1)=l'.map (·.1))(hrf:refsIn l')
    (h:SoundAt C f ⟨xs,looko (oL l)⟩ ⟨r,looko (oL l')⟩) (hr:∀ n,V.refs n r=true→(looko (oL l') n).isSome=true) (hK:F r (updL st.o l')):callK C I st dst f xs F :=
  callKX_objs l l' (fun n h=>h.elim) ho hn hrf h hr hK
def freshOE (ns:List Nat)(nm:Nat):List (Nat × Option Ob)→Bool
  | []=>true
  | (k,none)::m=>freshOE ns nm m
  | (k,some x)::m=>(ns.contains k || !x.refs nm)&&freshOE ns nm m
theorem freshOE_get {ns:List Nat}{nm:Nat}:∀ {m:List (Nat × Option Ob)},freshOE ns nm m=true→∀ k x,ns.contains k=false→looko m k=some x→x.refs nm=false
  | [],_,k,x,_,h=>by simp [looko] at h
  | (j,none)::m,hf,k,x,hk,h=>by
    simp only [looko] at h
    split at h
    · cases h
    · exact freshOE_get (m:=m) hf k x hk h
  | (j,some y)::m,hf,k,x,hk,h=>by
    simp only [freshOE,Bool.and_eq_true,Bool.or_eq_true,Bool.not_eq_true'] at hf
    simp only [looko] at h
    split at h
    · rename_i e
      subst e
      injection h with h
      subst h
      rcases hf.1 with h|h
      · rw [hk] at h;cases h
      · exact h
    · exact freshOE_get hf.2 k x hk h
theorem oL_names:∀ (l:List (Nat × Ob))(n:Nat),(looko (oL l) n).isSome=(l.map (·.1)).contains n
  | [],n=>rfl
  | (k,v)::l,n=>by
    have ih:=oL_names l n
    simp only [oL,List.map_cons,looko,List.contains_cons] at ih ⊢
    split
    · rename_i e;subst e;simp
    · rename_i e
      rw [ih]
      simp [e]
theorem lo_lists {ls:List (Nat × V)}{m:List (Nat × Option Ob)}{l:List (Nat × Ob)}{n:Nat}(h1:freshS n dst ls=true)(h2:freshOE (l.map (·.1)) n m=true) :
    (∀ t,dst≠some t→V.refs n ((St.mk (look ls) (looko m)).s t)=false)∧∀ k x,(looko (oL l) k).isSome=false→(St.mk (look ls) (looko m)).o k=some x→x.refs n=false:=by
  refine ⟨(fresh_mk (m:=[]) (l:=ls) (nm:=n) (dst:=dst) h1 rfl).1,fun k x hk hx => ?_⟩
  rw [oL_names] at hk
  exact freshOE_get h2 k x hk hx
theorem freshOE_nil (ns:List Nat)(nm:Nat):freshOE ns nm []=true:=rfl
theorem freshOE_none (ns:List Nat)(nm k:Nat)(m:List (Nat × Option Ob)):freshOE ns nm ((k,none)::m)=freshOE ns nm m:=rfl
theorem freshOE_some (ns:List Nat)(nm k:Nat)(x:Ob)(m:List (Nat × Option Ob)):freshOE ns nm ((k,some x)::m)=((ns.contains k || !x.refs nm)&&freshOE ns nm m):=rfl
theorem SoundX.of_run {C:Ctx}{fn:AFn}{f N:Nat}{res:List ARes}{own:List (Nat × Nat × Nat)}{frz:List Nat}{code:ACode}(hk:okFn C.P C.φ f fn=true)(hfn:fn=⟨N,res,own,frz,code⟩){cin:CS}{cout:RS}{X:Nat→Prop}(I:Nat→Prop)(hX:∀ n,cin.o n≠none→¬X n→I n)
    (h:∀ Q:Ex→St→Prop,(∀ st,EndsA I own frz res st cout→Q .ret st)→(∀ st,EndsA I own frz res st cout→Q .normal st)→wpB C I code cin.entry Q):SoundX C f X cin cout:=by
  subst hfn
  exact SoundX.of_code hk hX (wpB_A (h _ (fun _ h=>⟨.inl rfl,h⟩) (fun _ h=>⟨.inr rfl,h⟩)))
theorem SoundX.mono {C:Ctx}{f:Nat}{X X':Nat→Prop}{cin:CS}{cout:RS}(h:SoundX C f X cin cout)(hX:∀ n,X n→X' n):SoundX C f X' cin cout:=by
  intro w S M γ us hp
  exact Enters.mono (h w S M γ us hp) (fun v w' ⟨γ',q⟩=>⟨γ',⟨q.res,q.objs,q.sep,q.muts,q.fram,fun n h1 h2=>q.hdr n h1 (fun h=>h2 (hX n h))⟩⟩)
theorem SoundX.freeze {C:Ctx} {f:Nat} {X:Nat→Prop} {cin:CS} {m sz:Nat} {es:List (List D)} (h:SoundX C f X cin ⟨.own m,looko [(m,some (.row sz es))]⟩):SoundX C f X cin ⟨.d (.sl es),looko []⟩:=by
  intro w S M γ us hp
  refine Enters.mono (h w S M γ us hp) ?_
  rintro v w' ⟨γ',hq⟩
  have hm:looko [(m,some (Ob.row sz es))] m=some (.row sz es):=by simp [looko]
  have hok:∀ g,okOf w S γ' (looko [(m,some (.row sz es))]) w' g→w'.heap[g]? = w'.heap[g]? ∧ okOf w S γ' (looko []) w' g:=fun g hg=>⟨rfl,hg.1,hg.2.1,fun n x hx=>by simp [looko] at hx⟩
  have hrep:RepD w' (okOf w S γ' (looko []) w') (.sl es) (γ' m):=by
    have hblt:∀ g,blk (γ' m)=some g→okOf w S γ' (looko []) w' g:=fun g hg =>
      ⟨by
        rcases hq.muts m _ g hm hg with h|h
        · exact .inl (hp.env.ms g h)
        · exact .inr h,blk_lt (hq.objs m _ hm) hg,fun n x hx=>by simp [looko] at hx⟩
    rcases hq.objs m _ hm with ⟨rfl,A,h⟩|⟨g,cap,us,bt,h,hcp,hg,hlc,hcm,hul,hes,hrc,hone⟩
    · rw [h]
      exact ⟨A,0,0,rfl,Nat.le_refl _,by simp,fun h=>absurd rfl h⟩
    · have hb:=hblt g (by rw [h];simp [blk];omega)
      rw [h]
      exact new_sl hg hb hlc hes (hrc.mono hok)
  refine ⟨γ',⟨?_,fun n x hx=>by simp [looko] at hx,fun n m x y g hx=>by simp [looko] at hx,fun n x g hx=>by simp [looko] at hx,hq.fram,hq.hdr⟩⟩
  obtain ⟨h1,_⟩:=hq.res
  rw [h1]
  exact hrep
theorem SoundX.own_cell {C:Ctx} {f:Nat} {X:Nat→Prop} {vs:List V} {o:Nat→Option Ob} {cout:RS} {n k nm sz:Nat} {cs:List V} (hbox:o n=some (.box cs)) (hk:cs[k]? = some .cap0) (hnm:o nm=none)
    (hv:V.refsL nm vs=false) (ho:∀ m x,o m=some x→x.refs nm=false)
    (h:SoundX C f X ⟨vs,upd (upd o n (some (.box (cs.set k (.own nm))))) nm (some (.row sz []))⟩ cout):SoundX C f X ⟨vs,o⟩ cout:=by
  intro w S M γ us hp
  have hne:n≠nm:=fun e=>by rw [← e,hbox] at hnm;cases hnm
  obtain ⟨g,bs,ty,e1,e2,e3,e4⟩:=hp.objs n _ hbox
  obtain ⟨u,hu,A,rfl⟩:∃ u,bs[k]? = some u∧∃ A,u = .slice A 0 0:=by
    obtain ⟨u,hu,hr⟩:=e3.get k _ hk
    exact ⟨u,hu,hr⟩
  have hγ:∀ m,m≠nm→upd γ nm (.slice A 0 0) m=γ m:=fun m hm=>upd_other _ _ hm
  have hob:∀ m x,upd (upd o n (some (.box (cs.set k (.own nm))))) nm (some (.row sz [])) m=some x→(m=nm∧x = .row sz [])∨(m=n∧x = .box (cs.set k (.own nm)))∨(m≠nm∧m≠n∧o m=some x):=by
    intro m x hx
    by_cases h1:m=nm
    · subst h1;rw [upd_same] at hx;injection hx with hx;exact .inl ⟨rfl,hx.symm⟩
    · rw [upd_other _ _ h1] at hx
      by_cases h2:m=n
      · subst h2;rw [upd_same] at hx;injection hx with hx;exact .inr (.inl ⟨rfl,hx.symm⟩)
      · rw [upd_other _ _ h2] at hx;exact .inr (.inr ⟨h1,h2,hx⟩)
  have hblk:blk (upd γ nm (.slice A 0 0) nm)=none:=by rw [upd_same];cases A <;> rfl
  have hok:∀ g,okOf w S γ o w g→w.heap[g]? = w.heap[g]? ∧ okOf w S (upd γ nm (.slice A 0 0)) (upd (upd o n (some (.box (cs.set k (.own nm))))) nm (some (.row sz []))) w g:=by
    intro g hg
    refine ⟨rfl,hg.1,hg.2.1,fun m x hx => ?_⟩
    rcases hob m x hx with ⟨rfl,_⟩|⟨rfl,_⟩|⟨h1,h2,h3⟩
    · rw [hblk];simp
    · rw [hγ _ hne];exact hg.2.2 m _ hbox
    · rw [hγ _ h1];exact hg.2.2 m x h3
  have hset:∀ (ok:Nat→Prop) (γ':Nat→Value) (cs:List V) (bs:List Value) (k:Nat),RepVs C w ok γ' cs bs→γ' nm = .slice A 0 0→bs[k]? = some (.slice A 0 0)→RepVs C w ok γ' (cs.set k (.own nm)) bs:=by
    intro ok γ' cs
    induction cs with
    | nil=>intro bs k h _ _;exact h
    | cons c cs ih =>
      intro bs k h hn hb
      obtain ⟨u,us,rfl,r1,r2⟩:=h
      cases k with
      | zero =>
        simp only [List.getElem?_cons_zero,Option.some.injEq] at hb
        subst hb
        exact ⟨_,us,rfl,⟨hn.symm,rfl⟩,r2⟩
      | succ k=>exact ⟨u,us,rfl,r1,ih us k r2 hn (by simpa using hb)⟩
  have hpre:Pre C w S M (upd γ nm (.slice A 0 0)) ⟨vs,upd (upd o n (some (.box (cs.set k (.own nm))))) nm (some (.row sz []))⟩ us:=by
    refine ⟨hp.env,RepVs.mono hok _ _ (fun m hm=>hγ m (fun e=>by rw [e,hv] at hm;cases hm)) hp.args,fun m x hx => ?_,fun m m' x y g hx hy hm hm' => ?_,fun m x g hx hg => ?_⟩
    · rcases hob m x hx with ⟨rfl,rfl⟩|⟨rfl,rfl⟩|⟨h1,h2,h3⟩
      · exact .inl ⟨rfl,A,upd_same _ _ _⟩
      · have:=ho m _ hbox
        simp only [Ob.refs] at this
        rw [hγ _ hne]
        refine ⟨g,bs,ty,e1,e2,hset _ _ cs bs k (RepVs.mono hok _ _ (fun j hj=>hγ j (fun e=>by rw [e,this] at hj;cases hj)) e3) (upd_same _ _ _) hu,e4⟩
      · rw [hγ _ h1]
        exact RepO.mono hok (fun j hj=>hγ j (fun e=>by rw [e,ho m x h3] at hj;cases hj)) (fun _ _=>rfl) (hp.objs m x h3)
    · have key:∀ m x,upd (upd o n (some (.box (cs.set k (.own nm))))) nm (some (.row sz [])) m=some x→blk (upd γ nm (.slice A 0 0) m)=some g→m≠nm∧(∃ x,o m=some x)∧blk (γ m)=some g:=by
        intro m x hx hm
        have h1:m≠nm:=fun e=>by rw [e,hblk] at hm;cases hm
        rw [hγ _ h1] at hm
        rcases hob m x hx with ⟨h,_⟩|⟨rfl,_⟩|⟨_,_,h3⟩
        · exact absurd h h1
        · exact ⟨h1,⟨_,hbox⟩,hm⟩
        · exact ⟨h1,⟨_,h3⟩,hm⟩
      obtain ⟨_,⟨x',hx'⟩,k1⟩:=key m x hx hm
      obtain ⟨_,⟨y',hy'⟩,k2⟩:=key m' y hy hm'
      exact hp.sep m m' x' y' g hx' hy' k1 k2
    · have h1:m≠nm:=fun e=>by rw [e,hblk] at hg;cases hg
      rw [hγ _ h1] at hg
      rcases hob m x hx with ⟨h,_⟩|⟨rfl,_⟩|⟨_,_,h3⟩
      · exact absurd h h1
      · exact hp.muts m _ g hbox hg
      · exact hp.muts m x g h3 hg
  refine Enters.mono (h w S M _ us hpre) ?_
  rintro v w' ⟨γ',q⟩
  refine ⟨γ',⟨q.res,q.objs,q.sep,q.muts,q.fram,fun m hm hx => ?_⟩⟩
  have h1:m≠nm:=fun e=>hm (by rw [e];exact hnm)
  rw [q.hdr m (by
    show upd (upd o n (some (.box (cs.set k (.own nm))))) nm (some (.row sz [])) m≠none
    rw [upd_other _ _ h1]
    by_cases h2:m=n
    · subst h2;rw [upd_same];simp
    · rw [upd_other _ _ h2];exact hm) hx,hγ _ h1]
theorem callKX_new {C:Ctx} {I:Nat→Prop} {st:St} {dst:Option Nat} {f:Nat} {X:Nat→Prop} {xs:List V} {F:V→(Nat→Option Ob)→Prop} {r:V} (l l':List (Nat × Ob)) (hlo:∀ n,X n→(looko (oL l) n).isSome=true→¬I n∧(∀ t,dst≠some t→V.refs n (st.s t)=false)∧∀ m x,(looko (oL l) m).isSome=false→st.o m=some x→x.refs n=false) (ho:objsIn l st.o)
    (hsub:∀ n,(looko (oL l) n).isSome=true→(looko (oL l') n).isSome=true) (hnew:∀ n,(looko (oL l') n).isSome=true→(looko (oL l) n).isSome=false→¬I n∧Fresh st n dst) (hrf:refsIn l')
    (h:SoundX C f X ⟨xs,looko (oL l)⟩ ⟨r,looko (oL l')⟩) (hr:∀ n,V.refs n r=true→(looko (oL l') n).isSome=true) (hK:F r (updL st.o l')):callK C I st dst f xs F:=by
  have e1:exO (fun n=>(looko (oL l) n).isSome) st.o=looko (oL l):=by
    funext n
    simp only [exO]
    split
    · rename_i h
      obtain ⟨x,hx⟩:=Option.isSome_iff_exists.1 h
      rw [hx,objsIn_get ho n x hx]
    · rename_i h
      rw [Option.not_isSome_iff_eq_none] at h
      exact h.symm
  have e2:mixO (fun n=>(looko (oL l) n).isSome) st.o (looko (oL l'))=updL st.o l':=by
    funext n
    rw [updL_get]
    simp only [mixO]
    cases hx:looko (oL l') n with
    | none =>
      have hs:(looko (oL l) n).isSome=false:=by
        cases hy:(looko (oL l) n).isSome with
        | false=>rfl
        | true=>have:=hsub n hy;rw [hx] at this;cases this
      rw [Option.isSome_eq_false_iff,Option.isNone_iff_eq_none] at hs
      simp [hs]
    | some x=>rfl
  have hst:∀ n,(looko (oL l) n).isSome=true→st.o n≠none:=fun n hn=>by
    obtain ⟨x,hx⟩:=Option.isSome_iff_exists.1 hn
    rw [objsIn_get ho n x hx];simp
  refine ⟨fun n=>(looko (oL l) n).isSome,X,⟨r,looko (oL l')⟩,by rw [e1];exact h,⟨fun n hn => ?_,fun n hn=>.inl ?_,fun n x hx m hm=>.inl ?_,fun n h1 h2 h3=>hlo n h1 h2⟩,by rw [e2];exact hK⟩
  · have h1:(looko (oL l') n).isSome=true:=Option.isSome_iff_ne_none.2 hn
    cases hy:(looko (oL l) n).isSome with
    | true=>exact .inl ⟨rfl,hst n hy⟩
    | false=>exact .inr (hnew n h1 hy)
  · exact Option.isSome_iff_ne_none.1 (hr n hn)
  · obtain ⟨p,hp,rfl⟩:=looko_memL hx
    exact Option.isSome_iff_ne_none.1 (hrf p hp m hm)
theorem ends_objs {frz:List Nat}{res:List ARes}{r:V}{l:List (Nat × Ob)}(h:frzK st frz (fun st=>lstK (resVs st res) (fun vs=>r=tupV vs∧objsIn l st.o))):EndsA I [] frz res st ⟨r,looko (oL l)⟩:=by
  have h:lstK (resVs (st.frz frz) res) (fun vs=>r=tupV vs∧objsIn l (st.frz frz).o):=h
  rw [← lst_ex] at h
  obtain ⟨vs,h1,h2,h3⟩:=h
  exact ⟨vs,h1,h2,objsIn_get h3⟩
theorem objsIn_nil (o:Nat→Option Ob):objsIn [] o=True:=rfl
theorem objsIn_cons (k:Nat)(v:Ob)(l:List (Nat × Ob))(o:Nat→Option Ob):objsIn ((k,v)::l) o=(o k=some v∧objsIn l o):=rfl
theorem updL_nil (o:Nat→Option Ob):updL o []=o:=rfl
theorem updL_cons (o:Nat→Option Ob)(k:Nat)(v:Ob)(l:List (Nat × Ob)):updL o ((k,v)::l)=upd (updL o l) k (some v):=rfl
theorem thawO_eq (n:Nat)(es:List (List D))(k:Nat)(x:Option Ob):thawO n es (k,x)=(k,if k=n then none else x.map (Ob.thaw n es)):=rfl
end
attribute [go_sem] thawO_eq freshOE_nil freshOE_none freshOE_some List.contains_cons List.contains_nil objsIn_nil objsIn_cons updL_nil updL_cons
end Pay
end
/- Walking a drawn region in which a row grows: its state stays written as lists. -/
section
set_option linter.unusedSimpArgs false
set_option linter.unusedVariables false
namespace Pay
open Go
def NoR (k:Nat):List (Nat × Option Ob)→Prop
  | []=>True
  | (_,some x)::l=>x.refs k=false∧NoR k l
  | (_,none)::l=>NoR k l
theorem NoR.get {k:Nat}:∀ {l:List (Nat × Option Ob)},NoR k l→∀ (n:Nat)(ob:Ob),looko l n=some ob→ob.refs k=false
  | [],_,n,ob,h=>by simp [looko] at h
  | (a,x)::l,hn,n,ob,h=>by
    simp only [looko] at h
    have hl:NoR k l:=by
      cases x with
      | none=>exact hn
      | some x=>exact hn.2
    split at h
    · subst h
      exact hn.1
    · exact hl.get n ob h
theorem noR_nil (k:Nat):NoR k []=True:=eq_true trivial
theorem noR_some (k n:Nat)(x:Ob)(l:List (Nat × Option Ob)):NoR k ((n,some x)::l)=(x.refs k=false∧NoR k l):=rfl
theorem noR_none (k n:Nat)(l:List (Nat × Option Ob)):NoR k ((n,none)::l)=NoR k l:=rfl
def NoRv (v:V)(l:List (Nat × Option Ob)):Prop:=∀ m,v = .own m→∀ n ob,looko l n=some ob→ob.refs m=false
theorem noR_fold (v:V)(l:List (Nat × Option Ob)):(∀ m,v=V.own m→∀ n ob,looko l n=some ob→ob.refs m=false)=NoRv v l:=rfl
theorem noRv_cap0 {l:List (Nat × Option Ob)}:NoRv .cap0 l=True:=eq_true fun m hm=>by cases hm
theorem noRv_of {k:Nat}{l:List (Nat × Option Ob)}(h:NoR k l):NoRv (.own k) l:=fun m hm n ob hx=>by injection hm with hm;subst hm;exact h.get n ob hx
attribute [go_sem ↓] noR_fold
attribute [go_sem] noRv_cap0 noR_nil noR_some noR_none
end Pay
end
/- A string put at the end of a builder's bytes: what comes of it, and what has turned. -/
section
set_option linter.unusedSimpArgs false
set_option linter.unusedVariables false
namespace Pay
open Go
theorem alloc_keep (w:World)(o:Obj)(i:Nat)(h:i<w.heap.size):(w.alloc o).heap[i]? = w.heap[i]? := by
  simp only [World.alloc,Array.getElem?_push]
  rw [if_neg (by omega)]
def byteC (l:List UInt8):List Value:=l.map fun c=>Value.int .u8 c.toNat
theorem byteC_len (l:List UInt8):(byteC l).length=l.length:=by simp [byteC]
theorem byteC_app (l s:List UInt8):byteC (l++s)=byteC l++byteC s:=by simp [byteC]
theorem strCells_byteC (s:List UInt8):Lib.strCells ⟨s.toArray⟩=byteC s:=rfl
def BRow (w:World)(e:TypeId)(v:Value)(l:List UInt8):Prop :=
  (l=[]∧v = .slice none 0 0)∨∃ g cap us,v = .slice (some ⟨g,0,none⟩) l.length cap∧0<cap∧w.heap[g]? = some (.cells ⟨us⟩ e (0,0))∧l.length≤cap∧cap≤maxLen∧us.length=cap∧us.take l.length=byteC l
section
variable {P:Program}{w:World}
theorem run_app_str {t u ty e:TypeId} {i:TypeInfo} (ht:P.underlying t=some (.slice e)) (hu:P.underlying u=some .string) (hi:P.info? e=some i) (hz:i.zero=some (.int .u8 0)) (hsize:i.size=1) (hby:i.bytes=1)
    {v:Value} {l:List UInt8} (hv:BRow w e v l) (s:List UInt8) (hb:l.length+s.length≤140737488355328) :
    ∃ v' w',(Builtin.append_ #[t,u] ty #[v,.string ⟨s.toArray⟩]).run P w = .ok v' w'∧Turn w w' (blk v)∧(∀ g,blk v'=some g→blk v=some g∨w.heap.size≤g)∧BRow w' e v' (l++s):=by
  have hsz:(⟨s.toArray⟩:ByteArray).size=s.length:=by simp [ByteArray.size]
  have hm:l.length+s.length≤maxLen:=by unfold maxLen;omega
  have grown:∀ (old:Nat),0<l.length+s.length →
      BRow (w.drew.alloc (.cells ((byteC l).toArray++(byteC s).toArray++Builtin.zeroCells (Value.int .u8 0).cells (grownCap w (l.length+s.length) old e-(l.length+s.length))) e)) e (.slice (some ⟨w.heap.size,0,none⟩) (l.length+s.length) (grownCap w (l.length+s.length) old e)) (l++s):=by
    intro old hpos
    have hge:=grownCap_ge w (l.length+s.length) old e
    have hcm:grownCap w (l.length+s.length) old e≤maxLen:=grownCap_le_maxLen w (l.length+s.length) old e hm
    refine .inr ⟨w.heap.size,grownCap w (l.length+s.length) old e,byteC l++byteC s++(Builtin.zeroCells (Value.int .u8 0).cells (grownCap w (l.length+s.length) old e-(l.length+s.length))).toList,by rw [List.length_append],by omega,?_,by rw [List.length_append];exact hge,hcm,?_,?_⟩
    · have:(w.drew.alloc (.cells ((byteC l).toArray++(byteC s).toArray++Builtin.zeroCells (Value.int .u8 0).cells (grownCap w (l.length+s.length) old e-(l.length+s.length))) e)).heap[w.heap.size]? = some _:=heap_alloc_new w.drew _
      rw [this]
      congr 2
      apply Array.ext'
      simp
    · have hz1:(Value.int IntKind.u8 0).cells.size=1:=rfl
      simp only [List.length_append,byteC_len,Array.length_toList,size_zeroCells,hz1]
      omega
    · rw [byteC_app]
      refine List.take_left' ?_
      simp [byteC_len]
  have turn:∀ (o:Obj) (b:Option Nat),Turn w (w.drew.alloc o) b:=fun o b=>⟨rfl,rfl,rfl,by simp,fun g hg _=>alloc_keep w.drew _ g hg⟩
  have newb:∀ n c,∀ g,blk (.slice (some ⟨w.heap.size,0,none⟩) n c)=some g→blk v=some g∨w.heap.size≤g:=fun n c g hg=>by
    simp only [blk] at hg
    split at hg
    · cases hg
    · injection hg with hg
      exact .inr (by omega)
  rcases hv with ⟨rfl,rfl⟩|⟨g,cap,us,rfl,hcp,hg,hnc,hcm,hul,htk⟩
  · by_cases h0:s.length=0
    · have hs:s=[]:=List.eq_nil_of_length_eq_zero h0
      subst hs
      refine ⟨.slice none 0 0,w,?_,⟨rfl,rfl,rfl,Nat.le_refl _,fun _ _ _=>rfl⟩,fun g hg=>.inl hg,.inl ⟨rfl,rfl⟩⟩
      have hf:=Lib.run_firstCells_string (P:=P) w 1 (⟨([]:List UInt8).toArray⟩:ByteArray)
      rw [show (⟨([]:List UInt8).toArray⟩:ByteArray).size=0 from rfl] at hf
      simp [Builtin.append_,run_underlying ht,run_underlying hu,Go.sizeOf,typeInfo,hi,hsize,Builtin.lenOf,hf,ByteArray.size]
    · have hr:=run_append_nil_string (P:=P) w t u ty e i (.int .u8 0) ht hu hi hz ⟨s.toArray⟩ (by rw [hsz];omega) (by rw [hsz];simp only [List.length_nil] at hb;omega) (by rw [hby,hsz];simp only [List.length_nil] at hb;omega)
      have hgr:=grown 0 (by simp;omega)
      simp only [List.length_nil,Nat.zero_add,List.nil_append,byteC,List.map_nil,Array.empty_append] at hgr ⊢
      have e1:((⟨s.toArray⟩:ByteArray).data.map fun b=>Value.int .u8 b.toNat)=(s.map fun c=>Value.int .u8 c.toNat).toArray:=by
        apply Array.ext'
        simp
      rw [e1,hsz] at hr
      exact ⟨_,_,hr,turn _ _,newb _ _,hgr⟩
  · by_cases hroom:l.length+s.length≤cap
    · have hr:=Lib.run_append_room_string (P:=P) w t u ty e i ht hu hi hsize g l.length cap ⟨us⟩ hg ⟨s.toArray⟩ (by rw [hsz];exact hroom) (by rw [hsz];simp;omega)
      rw [hsz] at hr
      refine ⟨_,_,hr,⟨rfl,rfl,rfl,by simp,fun k hk hne=>setRow_other w g k _ (fun e=>hne (by simp [blk,e];omega))⟩,fun g' hg'=>.inl (by simpa [blk] using hg'),.inr ⟨g,cap,us.take l.length++byteC s++us.drop (l.length+s.length),by rw [List.length_append],hcp,setRow_heap w g ⟨us⟩ _ e _ hg,by rw [List.length_append];exact hroom,hcm,?_,?_⟩⟩
      · simp only [List.length_append,List.length_take,List.length_drop,byteC_len]
        omega
      · rw [htk,← byteC_app]
        refine List.take_left' ?_
        rw [byteC_len]
    · have holds:∀ j u,(byteC l)[j]? = some u→w.cell? ((⟨g,0,none⟩:Addr).add j)=some u:=by
        intro j u hj
        rw [add_lit,cell_of_row w g _ _ _ _ hg]
        rw [← htk,List.getElem?_take] at hj
        split at hj
        · simpa using hj
        · cases hj
      have hr:=Lib.run_append_grow_string (P:=P) w t u ty e i (.int .u8 0) ht hu hi hz ⟨g,0,none⟩ l.length cap (byteC l) (by rw [hsize,byteC_len];omega) holds ⟨s.toArray⟩ (by rw [hsz];omega) (by rw [hsz];omega) (by rw [hby,hsz];exact growslice_fits (by omega) (by omega))
      rw [hsz,strCells_byteC] at hr
      exact ⟨_,_,hr,turn _ _,newb _ _,grown cap (by omega)⟩
theorem wpList_app_str {ops:Array Oper}{rest:List Oper}{o:Oper}{a:Act}{Q:Exit→Act→World→Prop}(hgd:o.guard=none)(sl x:Operand)(t u:TypeId)
    (ho:o.op = .call { callee:=.builtin .append,args := #[sl,x],argTypes := #[t,u] }) {e:TypeId} {i:TypeInfo} (ht:P.underlying t=some (.slice e)) (hu:P.underlying u=some .string) (hi:P.info? e=some i) (hz:i.zero=some (.int .u8 0)) (hsize:i.size=1) (hby:i.bytes=1)
    (v:Value) (l:List UInt8) (hs:a.eval sl=v) (hv:BRow w e v l) (s:List UInt8) (hx:a.eval x = .string ⟨s.toArray⟩) (hb:l.length+s.length≤140737488355328)
    (h:∀ v' w',Turn w w' (blk v)→(∀ g,blk v'=some g→blk v=some g∨w.heap.size≤g)→BRow w' e v' (l++s)→wpList P ops Q rest (a.put o.dst v') w'):wpList P ops Q (o::rest) a w:=by
  refine wpList_plain hgd fun K hK => ?_
  obtain ⟨v',w',hr,h2,h3,h4⟩:=run_app_str (P:=P) (w:=w) (ty:=o.type) ht hu hi hz hsize hby hv s hb
  unfold Oper.wp execOp
  simp only [ho,resolve,invoke,builtin,Sem.run_bind,Sem.run_pure,Result.andThen_ok,List.map_toArray,List.map_cons,List.map_nil,hs,hx,hr]
  exact hK _ _ (h v' w' h2 h3 h4)
end
end Pay
end
/- A strings.Builder, at this program: what is put to it, and what it holds. -/
section
set_option linter.unusedVariables false
namespace Go.Proofs.YtmglkghngkbioaaGreatDoor.payce
open Go.RowKit
set_option maxHeartbeats 1000000 in
set_option maxRecDepth 100000 in
theorem ccUsed (b:Nat)(w:World)(h0:w.cell? ⟨b,0,none⟩=some (.pointer (some ⟨b,0,none⟩))) :
    Calls Tryz.prog 97 #[.pointer (some ⟨b,0,none⟩)] w fun e w'=>e = .returned (.tuple #[])∧w'=w:=by
  obtain ⟨j,hj⟩:∃ j,Tryz.prog.info? 135=some j:=⟨_,rfl⟩
  go_enter Tryz.func97,Tryz.ntmps97
  go_wp2
  rw [Lib.run_neq_ptr_same w _ Tryz.underlying132 hj]
  go_wp2
  go_end0
  exact ⟨rfl,rfl⟩
set_option maxHeartbeats 1000000 in
set_option maxRecDepth 100000 in
theorem ccFresh (b:Nat)(w:World)(h0:w.cell? ⟨b,0,none⟩=some (.pointer none))(hsh:w.shape? b=some (135,2))(hfz:w.frozen? ⟨b,0,none⟩=false) :
    Calls Tryz.prog 97 #[.pointer (some ⟨b,0,none⟩)] w fun e w'=>e = .returned (.tuple #[])∧w'=w.setCell ⟨b,0,none⟩ (.pointer (some ⟨b,0,none⟩)):=by
  obtain ⟨j,hj,hjs⟩:∃ j,Tryz.prog.info? 135=some j∧j.size≠0:=⟨_,rfl,by decide⟩
  have hlies:liesAt Tryz.prog Tryz.prog.depth 135 (2 / Tryz.prog.cellsOf 135) 0 135 1=true:=by kernel_rfl
  go_enter Tryz.func97,Tryz.ntmps97
  go_wp2
  rw [Lib.run_to_unsafe w ⟨b,0,none⟩ Tryz.underlying132 Tryz.underlying156 hj hjs hsh (Nat.zero_lt_succ 1)]
  simp only [Result.andThen]
  rw [Oper.upon_value]
  go_wp2
  rw [run_callFunc_extern Tryz.func105 (by kernel_rfl) (by kernel_rfl) (by kernel_rfl) (e:=Extern.AbiNoEscape.same) (by kernel_rfl)]
  rw [Lib.run_noEscape]
  simp only [Result.andThen]
  rw [Oper.upon_value]
  go_wp2
  rw [Lib.run_from_unsafe w ⟨b,0,none⟩ Tryz.underlying156 Tryz.underlying132 hj hsh hlies]
  simp only [Result.andThen]
  rw [Oper.upon_value]
  go_wp2
  go_end0
  exact ⟨rfl,rfl⟩
abbrev Bld (w:World) (b:Nat) (p v:Value):Prop:=w.heap[b]? = some (.cells #[p,v] 135 (0,0))
theorem bdCheck (b:Nat)(p v:Value)(w:World)(hbk:Bld w b p v)(hp:p = .pointer none∨p = .pointer (some ⟨b,0,none⟩)) :
    Calls Tryz.prog 97 #[.pointer (some ⟨b,0,none⟩)] w fun e w'=>e = .returned (.tuple #[])∧Bld w' b (.pointer (some ⟨b,0,none⟩)) v∧Pay.Turn w w' (some b):=by
  have c0:w.cell? ⟨b,0,none⟩=some p:=by rw [Lib.cell_of_heap hbk];rfl
  rcases hp with rfl|rfl
  · refine (ccFresh b w c0 (by simp [World.shape?,hbk]) (Lib.frozen_of_heap hbk 0)).mono ?_
    rintro e w' ⟨rfl,rfl⟩
    refine ⟨rfl,by simp [Bld,World.setCell,Array.getElem?_modify,hbk],rfl,rfl,rfl,by simp [World.setCell],fun k _ hk => ?_⟩
    exact Below.heap_setCell _ _ _ _ (fun e=>hk (by rw [e]))
  · refine (ccUsed b w c0).mono ?_
    rintro e w' ⟨rfl,rfl⟩
    exact ⟨rfl,hbk,rfl,rfl,rfl,Nat.le_refl _,fun _ _ _=>rfl⟩
set_option maxHeartbeats 2000000 in
set_option maxRecDepth 100000 in
theorem bdWrite (b:Nat) (p v:Value) (l s:List UInt8) (w:World) (hbk:Bld w b p v) (hp:p = .pointer none∨p = .pointer (some ⟨b,0,none⟩)) (hv:Pay.BRow w 5 v l) (hne:Pay.blk v≠some b) (hlen:l.length+s.length≤140737488355328) :
    Calls Tryz.prog 77 #[.pointer (some ⟨b,0,none⟩),.string ⟨s.toArray⟩] w fun e w'=>e = .returned (.tuple #[.int .i64 s.length,.nilIface]) ∧
      ∃ v',Bld w' b (.pointer (some ⟨b,0,none⟩)) v'∧Pay.BRow w' 5 v' (l++s)∧(w'.os=w.os∧w'.tape=w.tape∧w'.output=w.output∧w.heap.size≤w'.heap.size) ∧
        (∀ k,k<w.heap.size→k≠b→Pay.blk v≠some k→w'.heap[k]? = w.heap[k]?)∧∀ g,Pay.blk v'=some g→Pay.blk v=some g∨w.heap.size≤g:=by
  obtain ⟨i0,hi,hz0,hz1,hz2⟩:∃ i,Tryz.prog.info? 5=some i∧i.zero=some (.int .u8 0)∧i.size=1∧i.bytes=1:=⟨_,rfl,rfl,rfl,rfl⟩
  have hsz:(⟨s.toArray⟩:ByteArray).size=s.length:=by simp [ByteArray.size]
  go_enter Tryz.func77,Tryz.ntmps77
  go_wp2_with (go_at_call 97;refine (bdCheck b p v _ hbk hp).mono ?_)
  rintro e w1 ⟨rfl,hb1,ht1⟩
  have c1:w1.cell? ⟨b,1,none⟩=some v:=by rw [Lib.cell_of_heap hb1];rfl
  have hv1:Pay.BRow w1 5 v l:=by
    rcases hv with h|⟨g,cap,us,rfl,h2,h3,h4⟩
    · exact .inl h
    · refine .inr ⟨g,cap,us,rfl,h2,?_,h4⟩
      have hlt:g<w.heap.size:=(Array.getElem?_eq_some_iff.1 h3).1
      rw [ht1.block g hlt (fun e=>hne (by simp only [Pay.blk];rw [if_neg (by omega)];exact e.symm))]
      exact h3
  go_wp2_with (at_builtin;refine Pay.wpList_app_str rfl _ _ 133 9 rfl Tryz.underlying133 Tryz.underlying9 hi hz0 hz1 hz2 _ l rfl hv1 s rfl hlen ?_)
  intro v' w2 ht2 hblk hv2
  have hlt1:b<w1.heap.size:=(Array.getElem?_eq_some_iff.1 hb1).1
  have hb2:Bld w2 b (.pointer (some ⟨b,0,none⟩)) v:=by
    unfold Bld
    rw [ht2.block b hlt1 hne];exact hb1
  have d0:w2.cell? ⟨b,0,none⟩=some (.pointer (some ⟨b,0,none⟩)):=by rw [Lib.cell_of_heap hb2];rfl
  have d1:w2.cell? ⟨b,1,none⟩=some v:=by rw [Lib.cell_of_heap hb2];rfl
  have f1:w2.frozen? ⟨b,1,none⟩=false:=Lib.frozen_of_heap hb2 1
  have hvb:Pay.blk v'≠some b:=fun e=>by
    rcases hblk b e with h|h
    · exact hne h
    · omega
  obtain ⟨ao,n',cap,rfl⟩:∃ ao n' cap,v' = .slice ao n' cap:=by
    rcases hv2 with ⟨_,rfl⟩|⟨g,cap,us,rfl,_⟩ <;> exact ⟨_,_,_,rfl⟩
  go_wp2
  go_ret2
  refine ⟨?_,.slice ao n' cap,?_,?_,⟨?_,?_,?_,?_⟩,?_,?_⟩
  · rfl
  · simp [Bld,World.setCell,Array.getElem?_modify,hb2]
  · rcases hv2 with h|⟨g,cap',us,e,h2,h3,h4⟩
    · exact .inl h
    · refine .inr ⟨g,cap',us,e,h2,?_,h4⟩
      rw [Below.heap_setCell _ _ _ _ (fun e2=>hvb (by rw [e];simp only [Pay.blk];rw [if_neg (by omega),e2]))]
      exact h3
  · exact ht2.os.trans ht1.os
  · exact ht2.tape.trans ht1.tape
  · exact ht2.output.trans ht1.output
  · have h1:=ht1.size;have h2:=ht2.size;simp [World.setCell];omega
  · intro k hk hkb hkv
    rw [Below.heap_setCell _ _ _ _ (fun e=>hkb e),ht2.block k (Nat.lt_of_lt_of_le hk ht1.size) hkv,ht1.block k hk (fun e=>hkb (Option.some.inj e).symm)]
  · intro g hg
    rcases hblk g hg with h|h
    · exact .inl h
    · exact .inr (Nat.le_trans ht1.size h)
end Go.Proofs.YtmglkghngkbioaaGreatDoor.payce
end
/- A strings.Builder: what a call puts to it, and what it is read as. -/
section
set_option linter.unusedSimpArgs false
set_option linter.unusedVariables false
namespace Pay
open Go
def BdW (C:Ctx):Prop:=∀ (b:Nat) (p v:Value) (l s:List UInt8) (w:World),w.heap[b]? = some (.cells #[p,v] (C.φ 999999) (0,0))→(p = .pointer none∨p = .pointer (some ⟨b,0,none⟩))→BRow w (C.φ 999998) v l→blk v≠some b→l.length+s.length≤140737488355328 →
  Enters C.P (C.φ 128) ⟨[.pointer (some ⟨b,0,none⟩),.string ⟨s.toArray⟩]⟩ w (fun u w'=>u = .tuple #[.int .i64 s.length,.nilIface] ∧
    ∃ v',w'.heap[b]? = some (.cells #[.pointer (some ⟨b,0,none⟩),v'] (C.φ 999999) (0,0))∧BRow w' (C.φ 999998) v' (l++s)∧(w'.os=w.os∧w'.tape=w.tape∧w'.output=w.output∧w.heap.size≤w'.heap.size) ∧
      (∀ k,k<w.heap.size→k≠b→blk v≠some k→w'.heap[k]? = w.heap[k]?)∧∀ g,blk v'=some g→blk v=some g∨w.heap.size≤g)
def BdS (C:Ctx):Prop:=∀ (b:Nat)(p v:Value)(l:List UInt8)(w:World),w.heap[b]? = some (.cells #[p,v] (C.φ 999999) (0,0))→BRow w (C.φ 999998) v l →
  Enters C.P (C.φ 130) ⟨[.pointer (some ⟨b,0,none⟩)]⟩ w (fun u w'=>u = .string ⟨l.toArray⟩∧Turn w w' (blk v))
def bL (n k:Nat)(l:List UInt8):List (Nat × Ob):=[(n,.bld k),(k,.brow l)]
theorem bL_n {n k:Nat}{l:List UInt8}:looko (oL (bL n k l)) n=some (.bld k):=by simp [bL,oL,looko]
theorem bL_k {n k:Nat}(h:n≠k){l:List UInt8}:looko (oL (bL n k l)) k=some (.brow l):=by simp [bL,oL,looko,h];intro e;exact absurd e.symm h
theorem bL_or {n k j:Nat}{l:List UInt8}{x:Ob}(h:looko (oL (bL n k l)) j=some x):(j=n∧x = .bld k)∨(j≠n∧j=k∧x = .brow l):=by
  simp only [bL,oL,List.map_cons,List.map_nil,looko] at h
  split at h
  · rename_i e
    simp at h
    exact .inl ⟨by simpa [eq_comm] using e,h.symm⟩
  · rename_i e
    split at h
    · rename_i e2
      simp at h
      exact .inr ⟨fun h=>by subst h;simp at e,by simpa [eq_comm] using e2,h.symm⟩
    · simp at h
theorem brow_one {w:World}{e:TypeId}{v:Value}{l:List UInt8}(h:BRow w e v l):v.oneCell'=true:=by
  rcases h with ⟨_,rfl⟩|⟨_,_,_,rfl,_⟩ <;> rfl
theorem bdW_at {C:Ctx}(H:BdW C){n k:Nat}(hnk:n≠k){l s:List UInt8}(hlen:l.length+s.length≤140737488355328) :
    SoundX C 128 (fun j=>j=k) ⟨[.ptr n 0,.d (.str s)],looko (oL (bL n k l))⟩ ⟨.tup [.d (.int .i64 s.length),.d (.err true)],looko (oL (bL n k (l++s)))⟩:=by
  intro w S M γ us hp
  obtain ⟨u1,us1,rfl,⟨g,hg1,rfl⟩,u2,us2,rfl,hu2,rfl⟩:=hp.args
  obtain ⟨g',p,e1,hb,hpp,hone⟩:=hp.objs n _ bL_n
  have hbr:BRow w (C.φ 999998) (γ k) l:=hp.objs k _ (bL_k hnk)
  have hgg:g=g':=by
    rw [hg1] at e1
    injection e1 with e1;injection e1 with e1;injection e1
  subst hgg
  have hne:blk (γ k)≠some g:=fun e=>hnk (hp.sep n k _ _ g bL_n (bL_k hnk) (by rw [hg1];rfl) e)
  have hu2:u2 = .string ⟨s.toArray⟩:=hu2
  subst hu2
  refine Enters.mono (H g p (γ k) l s w hb (by rwa [hg1] at hpp) hbr hne hlen) ?_
  rintro v w' ⟨rfl,v',hb',hv',⟨ho,ht,hout,hsz⟩,hblk,hnew⟩
  have un:upd γ k v' n=γ n:=by simp [upd,hnk]
  have uk:upd γ k v' k=v':=by simp [upd]
  have bn:blk (γ n)=some g:=by rw [hg1];rfl
  have hsz1:g<w.heap.size:=(Array.getElem?_eq_some_iff.1 hb).1
  have dif:∀ q,blk (γ n)=some q→blk v'=some q→False:=fun q h1 h2=>by
    rw [bn] at h1
    injection h1 with h1
    subst h1
    rcases hnew _ h2 with h|h
    · exact hne h
    · omega
  refine ⟨upd γ k v',?_,?_,?_,?_,⟨ho,ht,hout,hsz,fun q hq hM=>hblk q hq (fun e=>hM (e▸hp.muts n _ g bL_n bn)) (fun e=>hM (hp.muts k _ q (bL_k hnk) e))⟩,?_⟩
  · exact ⟨_,rfl,_,_,rfl,rfl,_,_,rfl,rfl,rfl⟩
  · intro j x hx
    rcases bL_or hx with ⟨rfl,rfl⟩|⟨hj,rfl,rfl⟩
    · rw [un]
      exact ⟨g,.pointer (some ⟨g,0,none⟩),hg1,by rw [uk];exact hb',.inr hg1.symm,by rw [uk];exact brow_one hv'⟩
    · rw [uk];exact hv'
  · intro i j x y q hx hy h1 h2
    rcases bL_or hx with ⟨rfl,rfl⟩|⟨hj,rfl,rfl⟩ <;> rcases bL_or hy with ⟨rfl,rfl⟩|⟨hj',rfl,rfl⟩
    · rfl
    · rw [un] at h1;rw [uk] at h2;exact (dif q h1 h2).elim
    · rw [un] at h2;rw [uk] at h1;exact (dif q h2 h1).elim
    · rfl
  · intro j x q hx hq
    rcases bL_or hx with ⟨rfl,rfl⟩|⟨hj,rfl,rfl⟩
    · rw [un] at hq;exact .inl (hp.muts _ _ q bL_n hq)
    · rw [uk] at hq
      rcases hnew q hq with h|h
      · exact .inl (hp.muts _ _ q (bL_k hnk) h)
      · exact .inr h
  · intro j hj hX
    have:j≠k:=hX
    simp [upd,this]
theorem bdS_at {C:Ctx}(H:BdS C){n k:Nat}(hnk:n≠k){l:List UInt8} :
    SoundX C 130 (fun _=>False) ⟨[.ptr n 0],looko (oL (bL n k l))⟩ ⟨.d (.str l),looko []⟩:=by
  intro w S M γ us hp
  obtain ⟨u1,us1,rfl,⟨g,hg1,rfl⟩,rfl⟩:=hp.args
  obtain ⟨g',p,e1,hb,hpp,hone⟩:=hp.objs n _ bL_n
  have hbr:BRow w (C.φ 999998) (γ k) l:=hp.objs k _ (bL_k hnk)
  have hgg:g=g':=by
    rw [hg1] at e1
    injection e1 with e1;injection e1 with e1;injection e1
  subst hgg
  refine Enters.mono (H g p (γ k) l w hb hbr) ?_
  rintro v w' ⟨rfl,ht⟩
  refine ⟨γ,rfl,?_,?_,?_,⟨ht.os,ht.tape,ht.output,ht.size,fun q hq hM=>ht.block q hq (fun e=>hM (hp.muts k _ q (bL_k hnk) e))⟩,fun _ _ _=>rfl⟩
  · intro n x hx;simp [looko] at hx
  · intro n m x y q hx;simp [looko] at hx
  · intro n x q hx;simp [looko] at hx
variable {C:Ctx}{I:Nat→Prop}{dst:Option Nat}
theorem callK_bw (H:BdW C) {n k:Nat} {l s:List UInt8} {ls:List (Nat × V)} {m:List (Nat × Option Ob)} {F:V→(Nat→Option Ob)→Prop} (hlen:l.length+s.length≤140737488355328)
    (hs:n≠k∧¬I k∧freshS k dst ls=true∧freshOE [n,k] k m=true∧objsIn (bL n k l) (looko m)) (hK:F (.tup [.d (.int .i64 s.length),.d (.err true)]) (updL (looko m) (bL n k (l++s)))):callK C I (St.mk (look ls) (looko m)) dst 128 [.ptr n 0,.d (.str s)] F :=
  callKX_objs (bL n k l) (bL n k (l++s)) (fun j hj=>by subst hj;exact ⟨hs.2.1,lo_lists hs.2.2.1 hs.2.2.2.1⟩) hs.2.2.2.2 rfl
    (fun p hp i hi=>by
      simp only [bL,List.mem_cons,List.not_mem_nil,or_false] at hp
      rcases hp with rfl|rfl
      · have:k=i:=by simpa [Ob.refs] using hi
        subst this
        rw [bL_k hs.1];rfl
      · simp [Ob.refs] at hi) (bdW_at H hs.1 hlen) (fun j hj=>by simp [V.refs,V.refsL] at hj) hK
theorem callK_bs (H:BdS C) {n k:Nat} {l:List UInt8} {st:St} {F:V→(Nat→Option Ob)→Prop}
    (hs:n≠k∧objsIn (bL n k l) st.o) (hK:F (.d (.str l)) (upd (upd st.o n none) k none)):callK C I st dst 130 [.ptr n 0] F:=by
  have e1:exO (fun j=>(looko (oL (bL n k l)) j).isSome) st.o=looko (oL (bL n k l)):=by
    funext j
    simp only [exO]
    split
    · rename_i h
      obtain ⟨x,hx⟩:=Option.isSome_iff_exists.1 h
      rw [hx,objsIn_get hs.2 j x hx]
    · rename_i h
      rw [Option.not_isSome_iff_eq_none] at h
      exact h.symm
  refine ⟨fun j=>(looko (oL (bL n k l)) j).isSome,fun _=>False,⟨.d (.str l),looko []⟩,by rw [e1];exact bdS_at H hs.1,⟨fun j hj=>by simp [looko] at hj,fun j hj=>by simp [V.refs] at hj,fun j x hx=>by simp [looko] at hx,fun j hj=>hj.elim⟩,?_⟩
  have e2 : mixO (fun j=>(looko (oL (bL n k l)) j).isSome) st.o (looko [])=upd (upd st.o n none) k none:=by
    funext j
    simp only [mixO,looko,upd]
    by_cases h1:j=k
    · subst h1
      have h3:(looko (oL (bL n j l)) j).isSome=true:=by rw [bL_k hs.1];rfl
      simp [h3]
    · by_cases h2:j=n
      · subst h2
        have h3:(looko (oL (bL j k l)) j).isSome=true:=by rw [bL_n];rfl
        simp [h1,h3]
      · have:looko (oL (bL n k l)) j=none:=by
          cases h:looko (oL (bL n k l)) j with
          | none=>rfl
          | some x=>rcases bL_or h with ⟨e,_⟩|⟨_,e,_⟩ <;> contradiction
        simp [h1,h2,this]
  show F (.d (.str l)) (mixO _ st.o (looko []))
  rw [e2];exact hK
theorem SoundX.rename {C:Ctx}{f:Nat}{vs:List V}{m sz:Nat}{es:List (List D)}(h:SoundAt C f ⟨vs,looko []⟩ ⟨.own m,looko [(m,some (.row sz es))]⟩)(k:Nat):SoundAt C f ⟨vs,looko []⟩ ⟨.own k,looko [(k,some (.row sz es))]⟩:=by
  intro w S M γ us hp
  refine Enters.mono (h w S M γ us hp) ?_
  rintro v w' ⟨γ',hq⟩
  have hm:looko [(m,some (Ob.row sz es))] m=some (.row sz es):=by simp [looko]
  have only:∀ (q:Nat) n x,looko [(q,some (Ob.row sz es))] n=some x→n=q∧x = .row sz es:=by
    intro q n x hx
    simp only [looko] at hx
    split at hx
    · rename_i e
      exact ⟨by simpa [eq_comm] using e,by simpa [eq_comm] using hx⟩
    · cases hx
  have uk:upd γ' k (γ' m) k=γ' m:=by simp [upd]
  have hok:∀ g,okOf w S γ' (looko [(m,some (Ob.row sz es))]) w' g→w'.heap[g]? = w'.heap[g]? ∧ okOf w S (upd γ' k (γ' m)) (looko [(k,some (Ob.row sz es))]) w' g:=fun g hg=>⟨rfl,hg.1,hg.2.1,fun n x hx=>by
    obtain ⟨rfl,rfl⟩:=only _ n x hx
    rw [uk]
    exact hg.2.2 m _ hm⟩
  refine ⟨upd γ' k (γ' m),⟨?_,?_⟩,?_,?_,?_,hq.fram,fun n h1 _ => ?_⟩
  · rw [uk];exact hq.res.1
  · exact hq.res.2
  · intro n x hx
    obtain ⟨rfl,rfl⟩:=only _ n x hx
    rw [uk]
    exact RepO.mono hok (fun q hq=>by simp [Ob.refs] at hq) (fun _ _=>rfl) (hq.objs m _ hm)
  · intro a b x y g hx hy _ _
    rw [(only _ a x hx).1,(only _ b y hy).1]
  · intro n x g hx hg
    obtain ⟨rfl,rfl⟩:=only _ n x hx
    rw [uk] at hg
    exact hq.muts m _ g hm hg
  · simp [looko] at h1
theorem Enters.of_calls {P : Program} {f : FuncId} {g : Func} (hg : P.funcs[f]? = some g) (hbody : g.body.isSome = true) (hname : (g.name != "runtime.NumGoroutine") = true) {us : Array Value} {w : World} {R : Value → World → Prop}
    (h:Calls P f us w (fun e w'=>∃ v,e = .returned v∧R v w')):Enters P f us w R:=by
  obtain ⟨c,hbody⟩:=Option.isSome_iff_exists.1 hbody
  have hrun:(callFunc f us).run P w = .ok (.enter f us) w:=by
    simp only [bne_iff_ne,ne_eq] at hname
    simp [callFunc,hg,hname,hbody]
  unfold Enters
  rw [hrun]
  refine Calls.mono h ?_
  rintro e w' ⟨v,rfl,hv⟩
  exact hv
end Pay
end

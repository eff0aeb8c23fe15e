/-
  Parts of the proof: Shelf8 Shelf3 Shelf6 Shelf2 Shelf9 Lspec Rspec. By an AI agent.
-/
import Derived.Test.YtcoiialmdncpfaaGreatDoorProg
import Derived.Test.YtcoiialmdncpfaaGreatDoorJ00
import Derived.Ground.NamesProg
import Derived.Shelf.Lays
import Derived.Shelf.LaysM
import Derived.Shelf.LaysC
import Derived.Shelf.Strconv.AtoiAll
import Derived.Shelf.Strconv.Itoa3
import Derived.Shelf.Slices.Turned
import Derived.Shelf.Unicode.DecodeAny
import Derived.Shelf.Strings.OnBuilder
import Derived.Shelf.Strings.Cut
import Derived.Shelf.Strings.Prefix
import Derived.Shelf.Strings.LastIndex
import Derived.Shelf.Strings.SlTrimAscii
import Derived.Shelf.Strings.FieldsFuncGrows
import Derived.Shelf.Small.Strs
import Derived.Shelf.Small.Utf8
import Derived.Shelf.Small.Wraps
import Derived.Shelf.Strconv.Atoi
import Derived.Ground.Names7Prog
import Derived.Shelf.Lays7
import Derived.Shelf.SlGeneric
import Derived.Ground.SlsfProg
import Derived.Ground.SlgfProg
import Derived.Shelf.SlSortCmp.NoneTotal
import Derived.Shelf.SlSortCmp.InsertionK
open Go.Proofs.Tryz
namespace Go.Proofs
section
open Go.Shelf
def Tryz.laysAtoiC_ren:Go.Shelf.Ren:=⟨fun|172=>36|244=>60|245=>61|247=>108|279=>109|280=>110|281=>111|282=>112|287=>154|316=>155|171=>37|205=>156|321=>220|322=>221|243=>62|246=>113|283=>157|284=>158|285=>159|286=>160|129=>217|317=>222|318=>223|319=>224|320=>225|337=>274|338=>275|n=>n,fun|9=>9|3=>3|75=>96|76=>97|4=>4|5=>5|167=>176|37=>22|0=>0|85=>177|2=>2|168=>179|53=>206|175=>207|46=>183|210=>211|127=>253|145=>256|143=>254|21=>21|171=>213|173=>216|212=>258|51=>245|20=>20|213=>259|232=>298|233=>299|80=>164|n=>n,fun|15=>1|16=>2|17=>5|18=>6|19=>7|n=>n⟩
theorem Tryz.laysAtoiC:Go.Proofs.LaysC.n172 prog Tryz.laysAtoiC_ren:={
 mixed:=by kernel_rfl
 f129:=func217.trans (congrArg some (by kernel_rfl))
 f171:=func37.trans (congrArg some (by kernel_rfl))
 f172:=func36.trans (congrArg some (by kernel_rfl))
 f205:=func156.trans (congrArg some (by kernel_rfl))
 f243:=func62.trans (congrArg some (by kernel_rfl))
 f244:=func60.trans (congrArg some (by kernel_rfl))
 f245:=func61.trans (congrArg some (by kernel_rfl))
 f246:=func113.trans (congrArg some (by kernel_rfl))
 f247:=func108.trans (congrArg some (by kernel_rfl))
 f279:=func109.trans (congrArg some (by kernel_rfl))
 f280:=func110.trans (congrArg some (by kernel_rfl))
 f281:=func111.trans (congrArg some (by kernel_rfl))
 f282:=func112.trans (congrArg some (by kernel_rfl))
 f283:=func157.trans (congrArg some (by kernel_rfl))
 f284:=func158.trans (congrArg some (by kernel_rfl))
 f285:=func159.trans (congrArg some (by kernel_rfl))
 f286:=func160.trans (congrArg some (by kernel_rfl))
 f287:=func154.trans (congrArg some (by kernel_rfl))
 f316:=func155.trans (congrArg some (by kernel_rfl))
 f317:=func222.trans (congrArg some (by kernel_rfl))
 f318:=func223.trans (congrArg some (by kernel_rfl))
 f319:=func224.trans (congrArg some (by kernel_rfl))
 f320:=func225.trans (congrArg some (by kernel_rfl))
 f321:=func220.trans (congrArg some (by kernel_rfl))
 f322:=func221.trans (congrArg some (by kernel_rfl))
 f337:=func274.trans (congrArg some (by kernel_rfl))
 f338:=func275.trans (congrArg some (by kernel_rfl))
 t0:=underlying0
 a0:=isAgg0
 z0:=sizeOf0
 v0:=zeroValue0
 t2:=underlying2
 a2:=isAgg2
 z2:=sizeOf2
 v2:=zeroValue2
 t3:=underlying3
 a3:=isAgg3
 z3:=sizeOf3
 v3:=zeroValue3
 t4:=underlying4
 a4:=isAgg4
 z4:=sizeOf4
 v4:=zeroValue4
 t5:=underlying5
 a5:=isAgg5
 z5:=sizeOf5
 v5:=zeroValue5
 t9:=underlying9
 a9:=isAgg9
 z9:=sizeOf9
 v9:=zeroValue9
 t20:=underlying20
 a20:=isAgg20
 z20:=sizeOf20
 v20:=zeroValue20
 t21:=underlying21
 a21:=isAgg21
 z21:=sizeOf21
 v21:=zeroValue21
 t37:=underlying22
 a37:=isAgg22
 z37:=sizeOf22
 v37:=zeroValue22
 t46:=underlying183
 a46:=isAgg183
 z46:=sizeOf183
 v46:=zeroValue183
 t51:=underlying245
 a51:=isAgg245
 z51:=sizeOf245
 v51:=zeroValue245
 t53:=underlying206
 a53:=isAgg206
 z53:=sizeOf206
 v53:=zeroValue206
 t75:=underlying96
 a75:=isAgg96
 z75:=sizeOf96
 v75:=zeroValue96
 t76:=underlying97
 a76:=isAgg97
 z76:=sizeOf97
 v76:=zeroValue97
 t85:=underlying177
 a85:=isAgg177
 z85:=sizeOf177
 v85:=zeroValue177
 t127:=underlying253
 a127:=isAgg253
 z127:=sizeOf253
 v127:=zeroValue253
 t143:=underlying254
 a143:=isAgg254
 z143:=sizeOf254
 v143:=zeroValue254
 t145:=underlying256
 a145:=isAgg256
 z145:=sizeOf256
 v145:=zeroValue256
 t167:=underlying176
 a167:=isAgg176
 z167:=sizeOf176
 v167:=zeroValue176
 t168:=underlying179
 a168:=isAgg179
 z168:=sizeOf179
 v168:=zeroValue179
 t171:=underlying213
 a171:=isAgg213
 z171:=sizeOf213
 v171:=zeroValue213
 t173:=underlying216
 a173:=isAgg216
 z173:=sizeOf216
 v173:=zeroValue216
 t175:=underlying207
 a175:=isAgg207
 z175:=sizeOf207
 v175:=zeroValue207
 t210:=underlying211
 a210:=isAgg211
 z210:=sizeOf211
 v210:=zeroValue211
 t212:=underlying258
 a212:=isAgg258
 z212:=sizeOf258
 v212:=zeroValue258
 t213:=underlying259
 a213:=isAgg259
 z213:=sizeOf259
 t232:=underlying298
 a232:=isAgg298
 z232:=sizeOf298
 v232:=zeroValue298
 t233:=underlying299
 a233:=isAgg299
 z233:=sizeOf299
 v233:=zeroValue299
 g15:=by kernel_rfl
 g16:=by kernel_rfl
 g17:=by kernel_rfl
 g18:=by kernel_rfl
 g19:=by kernel_rfl
 t80:=underlying164
 a80:=isAgg164
 z80:=sizeOf164
 v80:=zeroValue164
 i0:=by kernel_rfl
 i2:=by kernel_rfl
 i3:=by kernel_rfl
 i4:=by kernel_rfl
 i5:=by kernel_rfl
 i9:=by kernel_rfl
 i20:=by kernel_rfl
 i21:=by kernel_rfl
 i37:=by kernel_rfl
 i46:=by kernel_rfl
 i51:=by kernel_rfl
 i53:=by kernel_rfl
 i75:=by kernel_rfl
 i76:=by kernel_rfl
 i80:=by kernel_rfl
 i85:=by kernel_rfl
 i127:=by kernel_rfl
 i143:=by kernel_rfl
 i145:=by kernel_rfl
 i167:=by kernel_rfl
 i168:=by kernel_rfl
 i171:=by kernel_rfl
 i173:=by kernel_rfl
 i175:=by kernel_rfl
 i210:=by kernel_rfl
 i212:=by kernel_rfl
 i232:=by kernel_rfl
 i233:=by kernel_rfl
 m15:=by kernel_rfl
 m16:=by kernel_rfl
 m17:=by kernel_rfl
 m18:=by kernel_rfl
 m19:=by kernel_rfl
 c0:=by kernel_rfl
 c2:=by kernel_rfl
 c3:=by kernel_rfl
 c4:=by kernel_rfl
 c5:=by kernel_rfl
 c9:=by kernel_rfl
 c20:=by kernel_rfl
 c21:=by kernel_rfl
 c37:=by kernel_rfl
 c46:=by kernel_rfl
 c51:=by kernel_rfl
 c53:=by kernel_rfl
 c75:=by kernel_rfl
 c76:=by kernel_rfl
 c80:=by kernel_rfl
 c85:=by kernel_rfl
 c127:=by kernel_rfl
 c143:=by kernel_rfl
 c145:=by kernel_rfl
 c167:=by kernel_rfl
 c168:=by kernel_rfl
 c171:=by kernel_rfl
 c173:=by kernel_rfl
 c175:=by kernel_rfl
 c210:=by kernel_rfl
 c212:=by kernel_rfl
 c213:=by kernel_rfl
 c232:=by kernel_rfl
 c233:=by kernel_rfl }
def Tryz.laysItoaM_ren:Go.Shelf.Ren:=⟨fun|171=>37|243=>62|246=>113|283=>157|284=>158|285=>159|286=>160|129=>217|317=>222|318=>223|319=>224|320=>225|337=>274|338=>275|n=>n,fun|3=>3|9=>9|2=>2|4=>4|171=>213|0=>0|53=>206|37=>22|5=>5|173=>216|212=>258|51=>245|20=>20|213=>259|46=>183|232=>298|233=>299|n=>n,fun|17=>5|18=>6|19=>7|n=>n⟩
theorem Tryz.laysItoaM:Go.Proofs.LaysM.n171 prog Tryz.laysItoaM_ren:={
 mixed:=by kernel_rfl
 f129:=func217.trans (congrArg some (by kernel_rfl))
 f171:=func37.trans (congrArg some (by kernel_rfl))
 f243:=func62.trans (congrArg some (by kernel_rfl))
 f246:=func113.trans (congrArg some (by kernel_rfl))
 f283:=func157.trans (congrArg some (by kernel_rfl))
 f284:=func158.trans (congrArg some (by kernel_rfl))
 f285:=func159.trans (congrArg some (by kernel_rfl))
 f286:=func160.trans (congrArg some (by kernel_rfl))
 f317:=func222.trans (congrArg some (by kernel_rfl))
 f318:=func223.trans (congrArg some (by kernel_rfl))
 f319:=func224.trans (congrArg some (by kernel_rfl))
 f320:=func225.trans (congrArg some (by kernel_rfl))
 f337:=func274.trans (congrArg some (by kernel_rfl))
 f338:=func275.trans (congrArg some (by kernel_rfl))
 t0:=underlying0
 a0:=isAgg0
 z0:=sizeOf0
 v0:=zeroValue0
 t2:=underlying2
 a2:=isAgg2
 z2:=sizeOf2
 v2:=zeroValue2
 t3:=underlying3
 a3:=isAgg3
 z3:=sizeOf3
 v3:=zeroValue3
 t4:=underlying4
 a4:=isAgg4
 z4:=sizeOf4
 v4:=zeroValue4
 t5:=underlying5
 a5:=isAgg5
 z5:=sizeOf5
 v5:=zeroValue5
 t9:=underlying9
 a9:=isAgg9
 z9:=sizeOf9
 v9:=zeroValue9
 t20:=underlying20
 a20:=isAgg20
 z20:=sizeOf20
 v20:=zeroValue20
 t37:=underlying22
 a37:=isAgg22
 z37:=sizeOf22
 v37:=zeroValue22
 t46:=underlying183
 a46:=isAgg183
 z46:=sizeOf183
 v46:=zeroValue183
 t51:=underlying245
 a51:=isAgg245
 z51:=sizeOf245
 v51:=zeroValue245
 t53:=underlying206
 a53:=isAgg206
 z53:=sizeOf206
 v53:=zeroValue206
 t171:=underlying213
 a171:=isAgg213
 z171:=sizeOf213
 v171:=zeroValue213
 t173:=underlying216
 a173:=isAgg216
 z173:=sizeOf216
 v173:=zeroValue216
 t212:=underlying258
 a212:=isAgg258
 z212:=sizeOf258
 v212:=zeroValue258
 t213:=underlying259
 a213:=isAgg259
 z213:=sizeOf259
 t232:=underlying298
 a232:=isAgg298
 z232:=sizeOf298
 v232:=zeroValue298
 t233:=underlying299
 a233:=isAgg299
 z233:=sizeOf299
 v233:=zeroValue299
 g17:=by kernel_rfl
 g18:=by kernel_rfl
 g19:=by kernel_rfl
 i0:=by kernel_rfl
 i2:=by kernel_rfl
 i3:=by kernel_rfl
 i4:=by kernel_rfl
 i5:=by kernel_rfl
 i9:=by kernel_rfl
 i20:=by kernel_rfl
 i37:=by kernel_rfl
 i46:=by kernel_rfl
 i51:=by kernel_rfl
 i53:=by kernel_rfl
 i171:=by kernel_rfl
 i173:=by kernel_rfl
 i212:=by kernel_rfl
 i232:=by kernel_rfl
 i233:=by kernel_rfl
 m17:=by kernel_rfl
 m18:=by kernel_rfl
 m19:=by kernel_rfl }
def Tryz.laysMax_ren:Go.Shelf.Ren:=⟨fun|113=>83|n=>n,fun|28=>152|3=>3|4=>4|9=>9|20=>20|0=>0|n=>n,fun|n=>n⟩
theorem Tryz.laysMax:Go.Proofs.Lays.n113 prog Tryz.laysMax_ren:={
 mixed:=by kernel_rfl
 f113:=func83.trans (congrArg some (by kernel_rfl))
 t0:=underlying0
 a0:=isAgg0
 z0:=sizeOf0
 v0:=zeroValue0
 t3:=underlying3
 a3:=isAgg3
 z3:=sizeOf3
 v3:=zeroValue3
 t4:=underlying4
 a4:=isAgg4
 z4:=sizeOf4
 v4:=zeroValue4
 t9:=underlying9
 a9:=isAgg9
 z9:=sizeOf9
 v9:=zeroValue9
 t20:=underlying20
 a20:=isAgg20
 z20:=sizeOf20
 v20:=zeroValue20
 t28:=underlying152
 a28:=isAgg152
 z28:=sizeOf152
 v28:=zeroValue152 }
def Tryz.laysMin_ren:Go.Shelf.Ren:=⟨fun|114=>84|n=>n,fun|28=>152|3=>3|4=>4|9=>9|20=>20|0=>0|n=>n,fun|n=>n⟩
theorem Tryz.laysMin:Go.Proofs.Lays.n114 prog Tryz.laysMin_ren:={
 mixed:=by kernel_rfl
 f114:=func84.trans (congrArg some (by kernel_rfl))
 t0:=underlying0
 a0:=isAgg0
 z0:=sizeOf0
 v0:=zeroValue0
 t3:=underlying3
 a3:=isAgg3
 z3:=sizeOf3
 v3:=zeroValue3
 t4:=underlying4
 a4:=isAgg4
 z4:=sizeOf4
 v4:=zeroValue4
 t9:=underlying9
 a9:=isAgg9
 z9:=sizeOf9
 v9:=zeroValue9
 t20:=underlying20
 a20:=isAgg20
 z20:=sizeOf20
 v20:=zeroValue20
 t28:=underlying152
 a28:=isAgg152
 z28:=sizeOf152
 v28:=zeroValue152 }
def Tryz.laysDecS_ren:Go.Shelf.Ren:=⟨fun|197=>104|260=>149|n=>n,fun|9=>9|21=>21|3=>3|4=>4|5=>5|105=>171|119=>246|0=>0|46=>183|139=>249|138=>248|n=>n,fun|3=>3|4=>4|n=>n⟩
theorem Tryz.laysDecS:Go.Proofs.Lays.n197 prog Tryz.laysDecS_ren:={
 mixed:=by kernel_rfl
 f197:=func104.trans (congrArg some (by kernel_rfl))
 f260:=func149.trans (congrArg some (by kernel_rfl))
 t0:=underlying0
 a0:=isAgg0
 z0:=sizeOf0
 v0:=zeroValue0
 t3:=underlying3
 a3:=isAgg3
 z3:=sizeOf3
 v3:=zeroValue3
 t4:=underlying4
 a4:=isAgg4
 z4:=sizeOf4
 v4:=zeroValue4
 t5:=underlying5
 a5:=isAgg5
 z5:=sizeOf5
 v5:=zeroValue5
 t9:=underlying9
 a9:=isAgg9
 z9:=sizeOf9
 v9:=zeroValue9
 t21:=underlying21
 a21:=isAgg21
 z21:=sizeOf21
 v21:=zeroValue21
 t46:=underlying183
 a46:=isAgg183
 z46:=sizeOf183
 v46:=zeroValue183
 t105:=underlying171
 a105:=isAgg171
 z105:=sizeOf171
 v105:=zeroValue171
 t119:=underlying246
 a119:=isAgg246
 z119:=sizeOf246
 t138:=underlying248
 a138:=isAgg248
 z138:=sizeOf248
 v138:=zeroValue248
 t139:=underlying249
 a139:=isAgg249
 z139:=sizeOf249
 v139:=zeroValue249
 g3:=by kernel_rfl
 g4:=by kernel_rfl }
def Tryz.laysJoin_ren:Go.Shelf.Ren:=⟨fun|156=>308|165=>280|166=>231|169=>233|240=>278|241=>306|276=>303|277=>313|n=>n,fun|31=>24|9=>9|3=>3|4=>4|0=>0|20=>20|72=>264|76=>97|70=>262|37=>22|75=>96|127=>253|164=>300|5=>5|80=>164|n=>n,fun|n=>n⟩
theorem Tryz.laysJoin:Go.Proofs.Lays.n156 prog Tryz.laysJoin_ren:={
 mixed:=by kernel_rfl
 f156:=func308.trans (congrArg some (by kernel_rfl))
 f165:=func280.trans (congrArg some (by kernel_rfl))
 f166:=func231.trans (congrArg some (by kernel_rfl))
 f169:=func233.trans (congrArg some (by kernel_rfl))
 f240:=func278.trans (congrArg some (by kernel_rfl))
 f241:=func306.trans (congrArg some (by kernel_rfl))
 f276:=func303.trans (congrArg some (by kernel_rfl))
 f277:=func313.trans (congrArg some (by kernel_rfl))
 t0:=underlying0
 a0:=isAgg0
 z0:=sizeOf0
 v0:=zeroValue0
 t3:=underlying3
 a3:=isAgg3
 z3:=sizeOf3
 v3:=zeroValue3
 t4:=underlying4
 a4:=isAgg4
 z4:=sizeOf4
 v4:=zeroValue4
 t9:=underlying9
 a9:=isAgg9
 z9:=sizeOf9
 v9:=zeroValue9
 t20:=underlying20
 a20:=isAgg20
 z20:=sizeOf20
 v20:=zeroValue20
 t31:=underlying24
 a31:=isAgg24
 z31:=sizeOf24
 v31:=zeroValue24
 t37:=underlying22
 a37:=isAgg22
 z37:=sizeOf22
 v37:=zeroValue22
 t70:=underlying262
 a70:=isAgg262
 z70:=sizeOf262
 v70:=zeroValue262
 t72:=underlying264
 a72:=isAgg264
 z72:=sizeOf264
 v72:=zeroValue264
 t75:=underlying96
 a75:=isAgg96
 z75:=sizeOf96
 v75:=zeroValue96
 t76:=underlying97
 a76:=isAgg97
 z76:=sizeOf97
 v76:=zeroValue97
 t127:=underlying253
 a127:=isAgg253
 z127:=sizeOf253
 v127:=zeroValue253
 t164:=underlying300
 a164:=isAgg300
 z164:=sizeOf300
 v164:=zeroValue300 }
theorem Tryz.joinX:Builder.Extra prog Tryz.laysJoin_ren:={
 sizeBuilder:=by kernel_rfl
 liesBuilder:=by kernel_rfl
 t5:=underlying5
 a5:=isAgg5
 z5:=sizeOf5
 v5:=zeroValue5
 infoByte:=by kernel_rfl
 cellsByte:=by kernel_rfl
 sizeByte:=by kernel_rfl
 neB5:=by decide }
def Tryz.laysCutP_ren:Go.Shelf.Ren:=⟨fun|103=>34|210=>58|206=>106|n=>n,fun|9=>9|4=>4|24=>68|3=>3|n=>n,fun|n=>n⟩
theorem Tryz.laysCutP:Go.Proofs.Lays.n103 prog Tryz.laysCutP_ren:={
 mixed:=by kernel_rfl
 f103:=func34.trans (congrArg some (by kernel_rfl))
 f206:=func106.trans (congrArg some (by kernel_rfl))
 f210:=func58.trans (congrArg some (by kernel_rfl))
 t3:=underlying3
 a3:=isAgg3
 z3:=sizeOf3
 v3:=zeroValue3
 t4:=underlying4
 a4:=isAgg4
 z4:=sizeOf4
 v4:=zeroValue4
 t9:=underlying9
 a9:=isAgg9
 z9:=sizeOf9
 v9:=zeroValue9
 t24:=underlying68
 a24:=isAgg68
 z24:=sizeOf68
 v24:=zeroValue68 }
def Tryz.laysCutS_ren:Go.Shelf.Ren:=⟨fun|104=>20|211=>40|207=>65|n=>n,fun|9=>9|4=>4|24=>68|3=>3|n=>n,fun|n=>n⟩
theorem Tryz.laysCutS:Go.Proofs.Lays.n104 prog Tryz.laysCutS_ren:={
 mixed:=by kernel_rfl
 f104:=func20.trans (congrArg some (by kernel_rfl))
 f207:=func65.trans (congrArg some (by kernel_rfl))
 f211:=func40.trans (congrArg some (by kernel_rfl))
 t3:=underlying3
 a3:=isAgg3
 z3:=sizeOf3
 v3:=zeroValue3
 t4:=underlying4
 a4:=isAgg4
 z4:=sizeOf4
 v4:=zeroValue4
 t9:=underlying9
 a9:=isAgg9
 z9:=sizeOf9
 v9:=zeroValue9
 t24:=underlying68
 a24:=isAgg68
 z24:=sizeOf68
 v24:=zeroValue68 }
def Tryz.laysLastB_ren:Go.Shelf.Ren:=⟨fun|149=>67|222=>119|n=>n,fun|9=>9|5=>5|3=>3|4=>4|n=>n,fun|n=>n⟩
theorem Tryz.laysLastB:Go.Proofs.Lays.n149 prog Tryz.laysLastB_ren:={
 mixed:=by kernel_rfl
 f149:=func67.trans (congrArg some (by kernel_rfl))
 f222:=func119.trans (congrArg some (by kernel_rfl))
 t3:=underlying3
 a3:=isAgg3
 z3:=sizeOf3
 v3:=zeroValue3
 t4:=underlying4
 a4:=isAgg4
 z4:=sizeOf4
 v4:=zeroValue4
 t5:=underlying5
 a5:=isAgg5
 z5:=sizeOf5
 v5:=zeroValue5
 t9:=underlying9
 a9:=isAgg9
 z9:=sizeOf9
 v9:=zeroValue9 }
def Tryz.laysTrimL_ren:Go.Shelf.Ren:=⟨fun|161=>68|231=>120|227=>74|233=>121|235=>122|228=>126|197=>104|151=>128|260=>149|152=>177|137=>184|119=>229|224=>152|225=>151|217=>150|266=>218|n=>n,fun|9=>9|4=>4|3=>3|5=>5|117=>144|116=>143|0=>0|124=>147|105=>171|21=>21|119=>246|46=>183|139=>249|138=>248|n=>n,fun|3=>3|4=>4|n=>n⟩
theorem Tryz.laysTrimL:Go.Proofs.Lays.n161 prog Tryz.laysTrimL_ren:={
 mixed:=by kernel_rfl
 f119:=func229.trans (congrArg some (by kernel_rfl))
 f137:=func184.trans (congrArg some (by kernel_rfl))
 f151:=func128.trans (congrArg some (by kernel_rfl))
 f152:=func177.trans (congrArg some (by kernel_rfl))
 f161:=func68.trans (congrArg some (by kernel_rfl))
 f197:=func104.trans (congrArg some (by kernel_rfl))
 f217:=func150.trans (congrArg some (by kernel_rfl))
 f224:=func152.trans (congrArg some (by kernel_rfl))
 f225:=func151.trans (congrArg some (by kernel_rfl))
 f227:=func74.trans (congrArg some (by kernel_rfl))
 f228:=func126.trans (congrArg some (by kernel_rfl))
 f231:=func120.trans (congrArg some (by kernel_rfl))
 f233:=func121.trans (congrArg some (by kernel_rfl))
 f235:=func122.trans (congrArg some (by kernel_rfl))
 f260:=func149.trans (congrArg some (by kernel_rfl))
 f266:=func218.trans (congrArg some (by kernel_rfl))
 t0:=underlying0
 a0:=isAgg0
 z0:=sizeOf0
 v0:=zeroValue0
 t3:=underlying3
 a3:=isAgg3
 z3:=sizeOf3
 v3:=zeroValue3
 t4:=underlying4
 a4:=isAgg4
 z4:=sizeOf4
 v4:=zeroValue4
 t5:=underlying5
 a5:=isAgg5
 z5:=sizeOf5
 v5:=zeroValue5
 t9:=underlying9
 a9:=isAgg9
 z9:=sizeOf9
 v9:=zeroValue9
 t21:=underlying21
 a21:=isAgg21
 z21:=sizeOf21
 v21:=zeroValue21
 t46:=underlying183
 a46:=isAgg183
 z46:=sizeOf183
 v46:=zeroValue183
 t105:=underlying171
 a105:=isAgg171
 z105:=sizeOf171
 v105:=zeroValue171
 t116:=underlying143
 a116:=isAgg143
 z116:=sizeOf143
 t117:=underlying144
 a117:=isAgg144
 z117:=sizeOf144
 v117:=zeroValue144
 t119:=underlying246
 a119:=isAgg246
 z119:=sizeOf246
 t124:=underlying147
 a124:=isAgg147
 z124:=sizeOf147
 v124:=zeroValue147
 t138:=underlying248
 a138:=isAgg248
 z138:=sizeOf248
 v138:=zeroValue248
 t139:=underlying249
 a139:=isAgg249
 z139:=sizeOf249
 v139:=zeroValue249
 g3:=by kernel_rfl
 g4:=by kernel_rfl }
def Tryz.laysTrimR_ren:Go.Shelf.Ren:=⟨fun|162=>45|232=>73|227=>74|234=>75|236=>76|228=>126|271=>127|151=>128|120=>176|197=>104|152=>177|260=>149|137=>184|119=>229|224=>152|225=>151|217=>150|266=>218|n=>n,fun|9=>9|4=>4|3=>3|5=>5|117=>144|116=>143|0=>0|124=>147|21=>21|105=>171|46=>183|119=>246|139=>249|138=>248|n=>n,fun|3=>3|4=>4|n=>n⟩
theorem Tryz.laysTrimR:Go.Proofs.Lays.n162 prog Tryz.laysTrimR_ren:={
 mixed:=by kernel_rfl
 f119:=func229.trans (congrArg some (by kernel_rfl))
 f120:=func176.trans (congrArg some (by kernel_rfl))
 f137:=func184.trans (congrArg some (by kernel_rfl))
 f151:=func128.trans (congrArg some (by kernel_rfl))
 f152:=func177.trans (congrArg some (by kernel_rfl))
 f162:=func45.trans (congrArg some (by kernel_rfl))
 f197:=func104.trans (congrArg some (by kernel_rfl))
 f217:=func150.trans (congrArg some (by kernel_rfl))
 f224:=func152.trans (congrArg some (by kernel_rfl))
 f225:=func151.trans (congrArg some (by kernel_rfl))
 f227:=func74.trans (congrArg some (by kernel_rfl))
 f228:=func126.trans (congrArg some (by kernel_rfl))
 f232:=func73.trans (congrArg some (by kernel_rfl))
 f234:=func75.trans (congrArg some (by kernel_rfl))
 f236:=func76.trans (congrArg some (by kernel_rfl))
 f260:=func149.trans (congrArg some (by kernel_rfl))
 f266:=func218.trans (congrArg some (by kernel_rfl))
 f271:=func127.trans (congrArg some (by kernel_rfl))
 t0:=underlying0
 a0:=isAgg0
 z0:=sizeOf0
 v0:=zeroValue0
 t3:=underlying3
 a3:=isAgg3
 z3:=sizeOf3
 v3:=zeroValue3
 t4:=underlying4
 a4:=isAgg4
 z4:=sizeOf4
 v4:=zeroValue4
 t5:=underlying5
 a5:=isAgg5
 z5:=sizeOf5
 v5:=zeroValue5
 t9:=underlying9
 a9:=isAgg9
 z9:=sizeOf9
 v9:=zeroValue9
 t21:=underlying21
 a21:=isAgg21
 z21:=sizeOf21
 v21:=zeroValue21
 t46:=underlying183
 a46:=isAgg183
 z46:=sizeOf183
 v46:=zeroValue183
 t105:=underlying171
 a105:=isAgg171
 z105:=sizeOf171
 v105:=zeroValue171
 t116:=underlying143
 a116:=isAgg143
 z116:=sizeOf143
 t117:=underlying144
 a117:=isAgg144
 z117:=sizeOf144
 v117:=zeroValue144
 t119:=underlying246
 a119:=isAgg246
 z119:=sizeOf246
 t124:=underlying147
 a124:=isAgg147
 z124:=sizeOf147
 v124:=zeroValue147
 t138:=underlying248
 a138:=isAgg248
 z138:=sizeOf248
 v138:=zeroValue248
 t139:=underlying249
 a139:=isAgg249
 z139:=sizeOf249
 v139:=zeroValue249
 g3:=by kernel_rfl
 g4:=by kernel_rfl }
def Tryz.laysFields_ren:Go.Shelf.Ren:=⟨fun|229=>56|n=>n,fun|9=>9|40=>90|31=>24|152=>173|3=>3|0=>0|4=>4|21=>21|154=>175|n=>n,fun|n=>n⟩
theorem Tryz.laysFields:Go.Proofs.Lays.n229 prog Tryz.laysFields_ren:={
 mixed:=by kernel_rfl
 f229:=func56.trans (congrArg some (by kernel_rfl))
 t0:=underlying0
 a0:=isAgg0
 z0:=sizeOf0
 v0:=zeroValue0
 t3:=underlying3
 a3:=isAgg3
 z3:=sizeOf3
 v3:=zeroValue3
 t4:=underlying4
 a4:=isAgg4
 z4:=sizeOf4
 v4:=zeroValue4
 t9:=underlying9
 a9:=isAgg9
 z9:=sizeOf9
 v9:=zeroValue9
 t21:=underlying21
 a21:=isAgg21
 z21:=sizeOf21
 v21:=zeroValue21
 t31:=underlying24
 a31:=isAgg24
 z31:=sizeOf24
 v31:=zeroValue24
 t40:=underlying90
 a40:=isAgg90
 z40:=sizeOf90
 v40:=zeroValue90
 t152:=underlying173
 a152:=isAgg173
 z152:=sizeOf173
 v152:=zeroValue173
 t154:=underlying175
 a154:=isAgg175
 z154:=sizeOf175
 v154:=zeroValue175 }
def Tryz.sortF_ren:Go.Shelf.Ren:=⟨fun|6=>97|15=>147|14=>146|28=>216|29=>217|20=>208|21=>209|22=>210|23=>211|24=>212|25=>213|26=>214|27=>215|46=>269|47=>270|48=>271|49=>272|50=>273|57=>302|n=>n,fun|22=>117|24=>82|25=>168|3=>3|39=>183|0=>0|53=>245|55=>206|4=>4|46=>238|45=>237|50=>242|5=>5|9=>9|66=>275|70=>279|76=>295|77=>296|n=>n,fun|n=>n⟩
theorem Tryz.sortF:Go.Proofs.SlLaysF0.n6 prog Tryz.sortF_ren:={
 mixed:=by kernel_rfl
 f6:=⟨Tryz.f97.name,by decide,func97.trans (congrArg some (by kernel_rfl))⟩
 f14:=⟨Tryz.f146.name,by decide,func146.trans (congrArg some (by kernel_rfl))⟩
 f15:=func147.trans (congrArg some (by kernel_rfl))
 f20:=⟨Tryz.f208.name,by decide,func208.trans (congrArg some (by kernel_rfl))⟩
 f21:=⟨Tryz.f209.name,by decide,func209.trans (congrArg some (by kernel_rfl))⟩
 f22:=⟨Tryz.f210.name,by decide,func210.trans (congrArg some (by kernel_rfl))⟩
 f23:=⟨Tryz.f211.name,by decide,func211.trans (congrArg some (by kernel_rfl))⟩
 f24:=⟨Tryz.f212.name,by decide,func212.trans (congrArg some (by kernel_rfl))⟩
 f25:=⟨Tryz.f213.name,by decide,func213.trans (congrArg some (by kernel_rfl))⟩
 f26:=⟨Tryz.f214.name,by decide,func214.trans (congrArg some (by kernel_rfl))⟩
 f27:=⟨Tryz.f215.name,by decide,func215.trans (congrArg some (by kernel_rfl))⟩
 f28:=func216.trans (congrArg some (by kernel_rfl))
 f29:=func217.trans (congrArg some (by kernel_rfl))
 f46:=⟨Tryz.f269.name,by decide,func269.trans (congrArg some (by kernel_rfl))⟩
 f47:=func270.trans (congrArg some (by kernel_rfl))
 f48:=func271.trans (congrArg some (by kernel_rfl))
 f49:=⟨Tryz.f272.name,by decide,func272.trans (congrArg some (by kernel_rfl))⟩
 f50:=⟨Tryz.f273.name,by decide,func273.trans (congrArg some (by kernel_rfl))⟩
 f57:=⟨Tryz.f302.name,by decide,func302.trans (congrArg some (by kernel_rfl))⟩
 t0:=underlying0
 a0:=isAgg0
 z0:=sizeOf0
 v0:=zeroValue0
 t3:=underlying3
 a3:=isAgg3
 z3:=sizeOf3
 v3:=zeroValue3
 t4:=underlying4
 a4:=isAgg4
 z4:=sizeOf4
 v4:=zeroValue4
 t5:=underlying5
 a5:=isAgg5
 z5:=sizeOf5
 v5:=zeroValue5
 t9:=underlying9
 a9:=isAgg9
 z9:=sizeOf9
 v9:=zeroValue9
 t22:=underlying117
 a22:=isAgg117
 z22:=sizeOf117
 v22:=zeroValue117
 t25:=underlying168
 a25:=isAgg168
 z25:=sizeOf168
 v25:=zeroValue168
 t39:=underlying183
 a39:=isAgg183
 z39:=sizeOf183
 v39:=zeroValue183
 t45:=underlying237
 a45:=isAgg237
 z45:=sizeOf237
 v45:=zeroValue237
 t46:=underlying238
 a46:=isAgg238
 z46:=sizeOf238
 v46:=zeroValue238
 t50:=underlying242
 a50:=isAgg242
 z50:=sizeOf242
 v50:=zeroValue242
 t53:=underlying245
 a53:=isAgg245
 z53:=sizeOf245
 v53:=zeroValue245
 t55:=underlying206
 a55:=isAgg206
 z55:=sizeOf206
 v55:=zeroValue206
 t66:=underlying275
 a66:=isAgg275
 z66:=sizeOf275
 v66:=zeroValue275
 t70:=underlying279
 a70:=isAgg279
 z70:=sizeOf279
 v70:=zeroValue279
 t76:=underlying295
 a76:=isAgg295
 z76:=sizeOf295
 v76:=zeroValue295
 t77:=underlying296
 a77:=isAgg296
 z77:=sizeOf296
 v77:=zeroValue296 }
def Tryz.insS_ren:Go.Shelf.Ren:=⟨fun|20=>63|n=>n,fun|24=>46|22=>35|3=>3|25=>67|4=>4|0=>0|n=>n,fun|n=>n⟩
theorem Tryz.insS:Go.Proofs.SlLaysF0.n20 prog Tryz.insS_ren:={
 mixed:=by kernel_rfl
 f20:=⟨Tryz.f63.name,by decide,func63.trans (congrArg some (by kernel_rfl))⟩
 t0:=underlying0
 a0:=isAgg0
 z0:=sizeOf0
 v0:=zeroValue0
 t3:=underlying3
 a3:=isAgg3
 z3:=sizeOf3
 v3:=zeroValue3
 t4:=underlying4
 a4:=isAgg4
 z4:=sizeOf4
 v4:=zeroValue4
 t22:=underlying35
 a22:=isAgg35
 z22:=sizeOf35
 v22:=zeroValue35
 t25:=underlying67
 a25:=isAgg67
 z25:=sizeOf67
 v25:=zeroValue67 }
end
end Go.Proofs
namespace Go.Proofs.YtcoiialmdncpfaaGreatDoor
section
def dg(c:Nat):Option Nat:=
 if 48<=c/\c<=57 then some (c-48)else if 97<=c/\c<=102 then some (c-87)else if 65<=c/\c<=70 then some (c-55)else none
def ug:List UInt8->Nat×List UInt8
 |[]=>(10,[])
 |[a]=>(10,[a])
 | a::b::r=>
  if a.toNat=48 then
   if b.toNat=120\/b.toNat=88 then(16,r)
   else if b.toNat=98\/b.toNat=66 then(2,r)
   else if b.toNat=111\/b.toNat=79 then(8,r)
   else(8,b::r)
  else(10,a::b::r)
def fE(m:Nat):List Nat:=if m=0 then[]else if m<10 then[m]else[m%10,m/10]
def dR(f:Nat):List Nat->Nat->List Nat
 |[],m=>fE m
 |x::r,m=>(x*f+m)%10::dR f r ((x*f+m)/10)
def eX(radix:Nat):List UInt8->List Nat->Bool->Nat->Option (List Nat×Bool×Nat)
 |[],v,line,many=>some (v,line,many)
 | c::r,v,line,many=>
  if c.toNat=95/\line=false then eX radix r v true many
  else match dg c.toNat with
   |none=>none
   |some d=>if d<radix then eX radix r (dR radix v d) false (many+1)else none
def lW(v:List Nat):ByteArray:=⟨((if v=[]then[0]else v.reverse).map fun d=>UInt8.ofNat (48+d)).toArray⟩
def lX(s:ByteArray):Option ByteArray:=
 if 200<s.size then none else
 let b:=ug s.data.toList
 if b.1=10/\(b.2=[]\/(b.2.headD 0).toNat=95)then none else
 match eX b.1 b.2 [] false 0 with
 |none=>none
 |some (v,line,many)=>if line=true\/many=0\/(b.1=10/\1<many/\(b.2.headD 0).toNat=48)then none else some (lW v)
def iy(s:ByteArray):Nat->Nat->Option Nat
 |0,_=>none
 | g+1,i=>
  if i<s.size then
   if(Utf8.decode s i).1=0\/((Utf8.decode s i).1=65533/\(Utf8.decode s i).2=1)\/((Utf8.decode s i).1=65279/\0<i)then some i
   else iy s g (i+(Utf8.decode s i).2)
  else none
def mT(s:ByteArray):Option Nat:=iy s s.size 0
def fg(radix:Nat):List UInt8->Nat->Option Nat
 |[],v=>some v
 | c::r,v=>match dg c.toNat with
   |none=>none
   |some d=>if d<radix then fg radix r (v*radix+d)else none
def bS(s:List UInt8)(n radix:Nat):Option Nat:=if n<=s.length then fg radix (s.take n) 0 else none
def eq(c:Nat):Option Nat:=
 if c=97 then some 7 else if c=98 then some 8 else if c=102 then some 12 else if c=110 then some 10 else if c=114 then some 13
 else if c=116 then some 9 else if c=118 then some 11 else if c=92 then some 92 else if c=34 then some 34 else none
def i7:List UInt8->Option (List UInt8×Nat)
 |[]=>none
 | c::r=>
  match eq c.toNat with
  |some v=>some ([UInt8.ofNat v],1)
  |none=>
   if c.toNat=120 then(bS r 2 16).map fun v=>([UInt8.ofNat v],3)
   else if c.toNat=117 then(bS r 4 16).bind fun v=>if Utf8.valid (v:Int)=true then some ((Utf8.encode (v:Int)).data.toList,5)else none
   else if c.toNat=85 then(bS r 8 16).bind fun v=>if Utf8.valid (v:Int)=true then some ((Utf8.encode (v:Int)).data.toList,9)else none
   else(bS (c::r) 3 8).bind fun v=>if v<=255 then some ([UInt8.ofNat v],3)else none
def cY:Nat->List UInt8->Option (List UInt8)
 |0,_=>none
 |_+1,[]=>some []
 |g+1,c::r=>
  if c.toNat=92 then(i7 r).bind fun p=>(cY g (r.drop p.2)).map fun t=>p.1++t
  else if c.toNat=34\/c.toNat=10 then none
  else(cY g r).map fun t=>c::t
def ed(s:ByteArray):Option ByteArray:=
 if 65536<s.size then none
 else if s.size<2\/s.data.toList.head? ≠ s.data.toList.getLast? then none
 else if mT s≠none then none
 else if(s.data.toList.headD 0).toNat=34 then(cY (s.size+1) (s.data.toList.extract 1 (s.size-1))).map fun l=>⟨l.toArray⟩
 else if(s.data.toList.headD 0).toNat=96 then
  if(s.data.toList.extract 1 (s.size-1)).any (fun c=>c.toNat==96)then none
  else some ⟨((s.data.toList.extract 1 (s.size-1)).filter fun c=>c.toNat != 13).toArray⟩
 else none
structure cz where
 kind:Int
 text:ByteArray
 pos:Int
structure Cx where
 toks:List cz
 fin:Int
structure St where
 at_:Nat
 head:Bool
 part:Int
inductive d5(α:Type)where
 |ok (a:α) (s:St)
 |fail (p:Int)
 |out
def R(α:Type):=Cx->St->d5 α
def d5.bind{α β:Type}(r:d5 α)(f:α->St->d5 β):d5 β:=
 match r with
 | .ok a s=>f a s
 | .fail p=>.fail p
 | .out=>.out
@[simp] theorem d5.bind_ok {α β:Type} (a:α) (s:St) (f:α->St->d5 β):(d5.ok a s).bind f=f a s:=rfl
@[simp] theorem d5.bind_fail {α β:Type} (p:Int) (f:α->St->d5 β):(d5.fail p:d5 α).bind f=.fail p:=rfl
@[simp] theorem d5.bind_out {α β:Type} (f:α->St->d5 β):(d5.out:d5 α).bind f=.out:=rfl
def aj(c:Cx)(i:Nat):cz:=
 match c.toks[i]? with
 |some t=>t
 |none=>⟨0,⟨#[]⟩,c.fin⟩
def NV(t:cz)(x:ByteArray):Bool:=(t.kind==2||t.kind==6)&&decide (t.text=x)
def aR(c:Cx)(s:St)(x:ByteArray):Bool:=NV (aj c s.at_) x
def am(s:St):St:={ s with at_:=s.at_+1 }
def ar(c:Cx)(s:St):Int:=(aj c s.at_).pos
def need(x:ByteArray):R Unit:=fun c s=>if aR c s x then .ok () (am s)else .fail (ar c s)
def bV:R ByteArray:=fun c s=>if(aj c s.at_).kind=1 then .ok (aj c s.at_).text (am s)else .fail (ar c s)
def dK(c:Cx)(s:St):Bool:=aR c s ⟨#[59]⟩||aR c s ⟨#[10]⟩
def dL(c:Cx)(s:St):St:=if dK c s then am s else s
def dG(c:Cx)(s:St):Bool:=aR c s ⟨#[91]⟩&&(match c.toks[s.at_+1]? with|some t=>t.kind==6&&decide (t.text=(⟨#[93]⟩:BA))|none=>false)
def aU(part:R Nd)(en:ByteArray):Nat->List Nd->R (List Nd)
 |0,_=>fun _ _=>.out
 |g+1,acc=>fun c s=>
  if aR c s en then .ok acc (am s)else
  (part c s).bind fun n s1=>
  if aR c s1 en then .ok (acc++[n]) (am s1)else
  (need ⟨#[44]⟩ c s1).bind fun _ s2=>aU part en g (acc++[n]) c s2
def bZ{α:Type}(part:R α):R α:=fun c s=>(part c { s with head:=false }).bind fun a s1=>.ok a { s1 with head:=s.head }
def cV{α:Type}(part:R α):R α:=fun c s=>(part c { s with head:=true }).bind fun a s1=>.ok a { s1 with head:=s.head }
def AC(c:Cx)(s:St):Bool:=(aj c s.at_).kind==1||(aR c s ⟨#[91]⟩||(aR c s ⟨#[40]⟩||aR c s ⟨#[102,117,110,99]⟩))
structure eQ where
 g:Nat
 typ:R Nd
 expr:R Nd
 unary:R Nd
 stmt:R Nd
 ifS:R Nd
section
variable (F:eQ)
def dm:R Nd:=fun c s=>if AC c s then F.typ c s else .ok cj s
def mb:R Nd:=fun c s=>(F.typ c s).bind fun t s1=>.ok (.mk 8 ⟨#[]⟩ [t] (ar c s)) s1
def cN(p:Int):R Nd:=fun c s=>
 (need ⟨#[40]⟩ c s).bind fun _ s1=>(aU (mb F) ⟨#[41]⟩ F.g [] c s1).bind fun l s2=>
 (dm F c s2).bind fun r s3=>.ok (.mk 12 ⟨#[]⟩ [.mk 6 ⟨#[]⟩ l (ar c s),r] p) s3
def eI:R Nd:=fun c s=>(bV c s).bind fun x s1=>(F.typ c s1).bind fun t s2=>.ok (.mk 8 x [t] (ar c s)) s2
def nX(p:Int):R Nd:=fun c s=>
 (need ⟨#[40]⟩ c s).bind fun _ s1=>(aU (eI F) ⟨#[41]⟩ F.g [] c s1).bind fun l s2=>
 (dm F c s2).bind fun r s3=>.ok (.mk 12 ⟨#[]⟩ [.mk 6 ⟨#[]⟩ l (ar c s),r] p) s3
def AD:R Nd:=fun c s=>
 if aR c s ⟨#[40]⟩then(F.typ c (am s)).bind fun t s1=>(need ⟨#[41]⟩ c s1).bind fun _ s2=>.ok t s2
 else if aR c s ⟨#[91]⟩then(need ⟨#[93]⟩ c (am s)).bind fun _ s1=>(F.typ c s1).bind fun t s2=>.ok (.mk 11 ⟨#[]⟩ [t] (ar c s)) s2
 else if aR c s ⟨#[102,117,110,99]⟩then cN F (ar c s) c (am s)
 else(bV c s).bind fun x s1=>
  if aR c s1 ⟨#[91]⟩ && !dG c s1 then
   (aU F.typ ⟨#[93]⟩ F.g [] c (am s1)).bind fun l s2=>if l.length=0 then .fail (ar c s2)else .ok (.mk 10 x l (ar c s)) s2
  else .ok (.mk 10 x [] (ar c s)) s1
def lH:R Nd:=fun c s=>
 if aR c s ⟨#[126]⟩then(F.typ c (am s)).bind fun t s1=>.ok (.mk 15 ⟨#[126]⟩ [t] (ar c s)) s1
 else(F.typ c s).bind fun t s1=>.ok (.mk 15 ⟨#[]⟩ [t] (ar c s)) s1
def et(p:Int):Nat->List Nd->R Nd
 |0,_=>fun _ _=>.out
 |g+1,acc=>fun c s=>
  if aR c s ⟨#[124]⟩then(lH F c (am s)).bind fun t s1=>et p g (acc++[t]) c s1
  else .ok (.mk 14 ⟨#[]⟩ acc p) s
def dS(p:Int):R Nd:=fun c s=>(lH F c s).bind fun t s1=>et F p F.g [t] c s1
def fl(p:Int):R Nd:=fun c s=>
 (need ⟨#[123]⟩ c s).bind fun _ s1=>(dS F p c s1).bind fun n s2=>(need ⟨#[125]⟩ c (dL c s2)).bind fun _ s3=>.ok n s3
def rb(n:Nd):Option Nd:=
 match n.kids with
 | [t]=>match t.kids with
   |k::_=>if t.text=(⟨#[]⟩:BA)/\k.kind=10 then some k else none
   |[]=>none
 |_=>none
def dv:R Nd:=fun c s=>
 if aR c s ⟨#[105,110,116,101,114,102,97,99,101]⟩then fl F (ar c s) c (am s)
 else(dS F (ar c s) c s).bind fun n s1=>.ok ((rb n).getD n) s1
def de:R Nd:=fun c s=>(bV c s).bind fun x s1=>(dv F c s1).bind fun t s2=>.ok (.mk 7 x [t] (ar c s)) s2
def d6:R Nd:=fun c s=>
 if aR c s ⟨#[91]⟩ && !dG c s then
  (aU (de F) ⟨#[93]⟩ F.g [] c (am s)).bind fun l s1=>if l.length=0 then .fail (ar c s1)else .ok (.mk 6 ⟨#[]⟩ l (ar c s)) s1
 else .ok (.mk 6 ⟨#[]⟩ [] 0) s
def cw(p:Int):Nat->List Nd->R Nd
 |0,_=>fun _ _=>.out
 |g+1,acc=>fun c s=>
  if aR c s ⟨#[125]⟩then .ok (.mk 13 ⟨#[]⟩ acc p) (am s)else
  (bV c s).bind fun x s1=>(F.typ c s1).bind fun t s2=>
  if dK c s2 then cw p g (acc++[.mk 9 x [t] (ar c s)]) c (am s2)
  else if aR c s2 ⟨#[125]⟩then cw p g (acc++[.mk 9 x [t] (ar c s)]) c s2
  else .fail (ar c s2)
def fF(p:Int):R Nd:=fun c s=>(need ⟨#[123]⟩ c s).bind fun _ s1=>cw F p F.g [] c s1
def dT:R Nd:=fun c s=>
 (need ⟨#[118,97,114]⟩ c s).bind fun _ s1=>(bV c s1).bind fun x s2=>
 if aR c s2 ⟨#[61]⟩then(F.expr c (am s2)).bind fun v s3=>.ok (.mk 5 x [cj,v] (ar c s)) s3
 else(F.typ c s2).bind fun t s3=>
  if aR c s3 ⟨#[61]⟩then(F.expr c (am s3)).bind fun v s4=>.ok (.mk 5 x [t,v] (ar c s)) s4
  else .ok (.mk 5 x [t,cj] (ar c s)) s3
def ig(p:Int):R Nd:=fun c s=>
 (bV c s).bind fun x s1=>(d6 F c s1).bind fun ps s2=>
 if aR c s2 ⟨#[61]⟩then(F.typ c (am s2)).bind fun t s3=>.ok (.mk 4 x [ps,t] p) s3
 else if aR c s2 ⟨#[115,116,114,117,99,116]⟩then(fF F (ar c s2) c (am s2)).bind fun t s3=>.ok (.mk 3 x [ps,t] p) s3
 else if aR c s2 ⟨#[105,110,116,101,114,102,97,99,101]⟩then(fl F (ar c s2) c (am s2)).bind fun t s3=>.ok (.mk 3 x [ps,t] p) s3
 else(F.typ c s2).bind fun t s3=>.ok (.mk 3 x [ps,t] p) s3
def cE(p:Int):Nat->List Nd->R Nd
 |0,_=>fun _ _=>.out
 | g+1,acc=>fun c s=>
  if aR c s ⟨#[125]⟩then .ok (.mk 36 ⟨#[]⟩ acc p) (am s)
  else if dK c s then cE p g acc c (am s)
  else(F.stmt c s).bind fun n s1=>
   if dK c s1 then cE p g (acc++[n]) c (am s1)
   else if aR c s1 ⟨#[125]⟩then cE p g (acc++[n]) c s1
   else .fail (ar c s1)
def lY:R Nd:=fun c s=>(need ⟨#[123]⟩ c s).bind fun _ s1=>cE F (ar c s) F.g [] c s1
def be:R Nd:=bZ (lY F)
def nY:R Nd:=fun c s=>
 if aR c s ⟨#[102,117,110,99]⟩then
  (bV c (am s)).bind fun x s1=>(d6 F c s1).bind fun ps s2=>(nX F (ar c s) c s2).bind fun sg s3=>(be F c s3).bind fun b s4=>.ok (.mk 2 x [ps,sg,b] (ar c s)) s4
 else if aR c s ⟨#[116,121,112,101]⟩then ig F (ar c s) c (am s)
 else dT F c s
def ia(p:Int)(x:Nd):R Nd:=fun c s=>
 if x.kind=18/\x.text≠(⟨#[95]⟩:BA)/\aR c s ⟨#[58,61]⟩=true then(F.expr c (am s)).bind fun v s1=>.ok (.mk 26 x.text [v] p) s1
 else if aR c s ⟨#[61]⟩then(F.expr c (am s)).bind fun v s1=>.ok (.mk 27 ⟨#[]⟩ [x,v] p) s1
 else if aR c s ⟨#[43,43]⟩then .ok (.mk 28 ⟨#[43,43]⟩ [x] p) (am s)
 else if aR c s ⟨#[45,45]⟩then .ok (.mk 28 ⟨#[45,45]⟩ [x] p) (am s)
 else if x.kind=21 then .ok (.mk 29 ⟨#[]⟩ [x] p) s
 else .fail (ar c s)
def iz:R Nd:=fun c s=>(F.expr c s).bind fun x s1=>ia F (ar c s) x c s1
def Mu:R Nd:=fun c s=>
 (need ⟨#[105,102]⟩ c s).bind fun _ s1=>(cV F.expr c s1).bind fun x s2=>(be F c s2).bind fun b s3=>
 if aR c s3 ⟨#[101,108,115,101]⟩then
  if aR c (am s3) ⟨#[105,102]⟩then(F.ifS c (am s3)).bind fun o s4=>.ok (.mk 30 ⟨#[]⟩ [x,b,o] (ar c s)) s4
  else(be F c (am s3)).bind fun o s4=>.ok (.mk 30 ⟨#[]⟩ [x,b,o] (ar c s)) s4
 else .ok (.mk 30 ⟨#[]⟩ [x,b,cj] (ar c s)) s3
def dU(l:List cz):ByteArray:=
 if l.any (fun t=>t.kind==5)then(⟨#[]⟩:BA)else
 match l with
 |[]=>(⟨#[]⟩:BA)
 |t::r=>r.foldl (fun a u=>a++(⟨#[32]⟩:BA)++u.text) t.text
def cO(c:Cx)(s:St):Option (ByteArray×St):=
 let l:=c.toks.drop s.at_
 if aR c s ⟨#[114,97,110,103,101]⟩then some ((⟨#[]⟩:BA),am s)else
 match l with
 |a::b::d::_=>
  if a.kind=1/\a.text≠(⟨#[95]⟩:BA)/\dU [a,b,d]=a.text++(⟨#[32,58,61,32,114,97,110,103,101]⟩:BA)then some (a.text,{ s with at_:=s.at_+3 })
  else if a.kind=1/\d.kind=1/\d.text≠(⟨#[95]⟩:BA)/\dU (l.take 5)=a.text++(⟨#[32,44,32]⟩:BA)++d.text++(⟨#[32,58,61,32,114,97,110,103,101]⟩:BA)then some (a.text++(⟨#[44]⟩:BA)++d.text,{ s with at_:=s.at_+5 })
  else none
 |_=>none
def fH:R Nd:=fun c s=>(F.expr c s).bind fun x s1=>if aR c s1 ⟨#[123]⟩then .ok x s1 else ia F (ar c s) x c s1
def mz:R Nd:=fun c s=>(iz F c s).bind fun x s1=>if x.kind=26 then .fail (aj c (s.at_+1)).pos else .ok x s1
def nK:R (Nd×Nd×Nd):=fun c s=>
 let tail:Nd->R (Nd×Nd×Nd):=fun a c s=>
  (need ⟨#[59]⟩ c s).bind fun _ s1=>
  (if aR c s1 ⟨#[59]⟩then .ok cj s1 else cV F.expr c s1).bind fun b s2=>
  (need ⟨#[59]⟩ c s2).bind fun _ s3=>
  (if aR c s3 ⟨#[123]⟩then .ok cj s3 else cV (mz F) c s3).bind fun d s4=>.ok (a,b,d) s4
 if aR c s ⟨#[59]⟩then tail cj c s else
 (cV (fH F) c s).bind fun x s1=>
 if x.kind=29 then .fail (ar c s1)
 else if x.kind<26 then .ok (cj,x,cj) s1
 else tail x c s1
def AE:R Nd:=fun c s=>
 (need ⟨#[102,111,114]⟩ c s).bind fun _ s1=>
 match cO c s1 with
 |some (x,s2)=>(cV F.expr c s2).bind fun e s3=>(be F c s3).bind fun b s4=>.ok (.mk 32 x [e,b] (ar c s)) s4
 |none=>
  (if aR c s1 ⟨#[123]⟩then .ok (cj,cj,cj) s1 else nK F c s1).bind fun h s2=>
  (be F c s2).bind fun b s3=>.ok (.mk 31 ⟨#[]⟩ [h.1,h.2.1,h.2.2,b] (ar c s)) s3
def By:R Nd:=fun c s=>
 if aR c s ⟨#[118,97,114]⟩then dT F c s
 else if aR c s ⟨#[105,102]⟩then Mu F c s
 else if aR c s ⟨#[102,111,114]⟩then AE F c s
 else if aR c s ⟨#[123]⟩then be F c s
 else if aR c s ⟨#[114,101,116,117,114,110]⟩then
  if dK c (am s)||aR c (am s) ⟨#[125]⟩then .ok (.mk 33 ⟨#[]⟩ [cj] (ar c s)) (am s)
  else(F.expr c (am s)).bind fun x s1=>.ok (.mk 33 ⟨#[]⟩ [x] (ar c s)) s1
 else if aR c s ⟨#[98,114,101,97,107]⟩then .ok (.mk 34 ⟨#[]⟩ [] (ar c s)) (am s)
 else if aR c s ⟨#[99,111,110,116,105,110,117,101]⟩then .ok (.mk 35 ⟨#[]⟩ [] (ar c s)) (am s)
 else iz F c s
def iG(c:Cx)(s:St):Bool:=aR c s ⟨#[44]⟩||aR c s ⟨#[93]⟩
def iV(c:Cx)(s:St):Bool:=
 decide (s.at_+2<c.toks.length)&&((aj c (s.at_+1)).kind==1 &&
  ((aj c (s.at_+2)).kind==1||(aR c { s with at_:=s.at_+2 } (⟨#[102,117,110,99]⟩:BA)||(aR c { s with at_:=s.at_+2 } (⟨#[40]⟩:BA)||dG c { s with at_:=s.at_+2 }))))
def dV(p:Int)(types:Bool):R Nd:=fun c s=>
 if types=true/\iV c s=false/\s.at_+1<c.toks.length/\(aj c (s.at_+1)).text≠(⟨#[41]⟩:BA)then
  (cN F p c s).bind fun t s1=>if iG c s1 then .ok t s1 else .fail (ar c s1)
 else(nX F p c s).bind fun sg s1=>
  if types=true/\(sg.kids.headD cj).kids.length=0/\iG c s1=true then .ok sg s1
  else(be F c s1).bind fun b s2=>.ok (.mk 25 ⟨#[]⟩ [sg,b] p) s2
def cI(t:Nd):R Nd:=fun c s=>
 (need ⟨#[123]⟩ c s).bind fun _ s1=>(bZ (aU F.expr ⟨#[125]⟩ F.g []) c s1).bind fun l s2=>.ok (.mk 24 ⟨#[]⟩ (t::l) t.pos) s2
def iA(types:Bool):R Nd:=fun c s=>
 (F.typ c s).bind fun t s1=>if types&&iG c s1 then .ok t s1 else cI F t c s1
def cP:R Nd:=fun c s=>F.expr c { s with part:=s.at_ }
mutual
def cR:Nd->Option Nd
 | .mk k t l a=>
  if k=10\/k=11\/k=12 then some (.mk k t l a)
  else if k=18 then some (.mk 10 t [] a)
  else if k=22 then
   match l with
   |[]=>none
   | x::r=>match cR x with
     |some (.mk k2 t2 l2 a2)=>if k2=10/\l2.length=0 then(dw r).map fun r'=>.mk k2 t2 r' a2 else none
     |none=>none
  else none
def dw:List Nd->Option (List Nd)
 |[]=>some []
 | x::r=>match cR x with
   |some y=>(dw r).map fun r'=>y::r'
   |none=>none
end
def mU(s:ByteArray):ByteArray:=(lX s).getD ⟨#[]⟩
def lf(s:ByteArray):ByteArray:=(ed s).getD ⟨#[]⟩
def dW:R (Nd×Bool):=fun c s=>
 let t:=aj c s.at_
 let types:Bool:=decide (s.part=(s.at_:Int))
 let s0:St:={ s with part :=-1 }
 if t.kind=1 then .ok (.mk 18 t.text [] t.pos,true) (am s0)
 else if t.kind=4 then .ok (.mk 16 (mU t.text) [] t.pos,false) (am s0)
 else if t.kind=5 then .ok (.mk 17 (lf t.text) [] t.pos,false) (am s0)
 else if aR c s0 ⟨#[40]⟩then(bZ F.expr c (am s0)).bind fun x s1=>(need ⟨#[41]⟩ c s1).bind fun _ s2=>.ok (x,false) s2
 else if aR c s0 ⟨#[102,117,110,99]⟩then(dV F t.pos types c (am s0)).bind fun x s1=>.ok (x,false) s1
 else if dG c s0 then(iA F types c s0).bind fun x s1=>.ok (x,false) s1
 else .fail t.pos
def aV:Nat->Nd->Bool->R Nd
 |0,_,_=>fun _ _=>.out
 | g+1,out,bare=>fun c s=>
  if aR c s ⟨#[40]⟩then(bZ (aU F.expr ⟨#[41]⟩ F.g []) c (am s)).bind fun l s1=>aV g (.mk 21 ⟨#[]⟩ (out::l) out.pos) false c s1
  else if aR c s ⟨#[91]⟩then(bZ (aU (cP F) ⟨#[93]⟩ F.g []) c (am s)).bind fun l s1=>
   if l.length=0 then .fail (aj c (s1.at_-1)).pos else aV g (.mk 22 ⟨#[]⟩ (out::l) out.pos) bare c s1
  else if aR c s ⟨#[46]⟩then(bV c (am s)).bind fun x s1=>aV g (.mk 23 x [out] out.pos) false c s1
  else if aR c s ⟨#[123]⟩&&(bare && !s.head)then
   match cR out with
   |none=>.ok out s
   |some t=>(cI F t c s).bind fun n s1=>aV g n false c s1
  else .ok out s
def eY:R Nd:=fun c s=>(dW F c s).bind fun x s1=>aV F F.g x.1 x.2 c s1
def lI:R Nd:=fun c s=>
 if aR c s ⟨#[45]⟩||aR c s ⟨#[33]⟩then(F.unary c (am s)).bind fun x s1=>.ok (.mk 19 (aj c s.at_).text [x] (ar c s)) s1
 else eY F c s
def Dt:Nat->List ByteArray
 |5=>[(⟨#[124,124]⟩:BA)]
 |4=>[(⟨#[38,38]⟩:BA)]
 |3=>[(⟨#[61,61]⟩:BA),(⟨#[33,61]⟩:BA),(⟨#[60]⟩:BA),(⟨#[60,61]⟩:BA),(⟨#[62]⟩:BA),(⟨#[62,61]⟩:BA)]
 |2=>[(⟨#[43]⟩:BA),(⟨#[45]⟩:BA)]
 |_=>[(⟨#[42]⟩:BA),(⟨#[47]⟩:BA),(⟨#[37]⟩:BA)]
def Pr(k:Nat)(t:cz):Bool:=t.kind==6&&(Dt k).any fun x=>decide (t.text=x)
def pd(k:Nat)(below:R Nd):Nat->Nd->R Nd
 |0,_=>fun _ _=>.out
 |g+1,out=>fun c s=>
  if Pr k (aj c s.at_)then(below c (am s)).bind fun y s1=>pd k below g (.mk 20 (aj c s.at_).text [out,y] out.pos) c s1
  else .ok out s
def lg:Nat->R Nd
 |0=>lI F
 |k+1=>fun c s=>(lg k c s).bind fun x s1=>pd (k+1) (lg k) F.g x c s1
def GX:R Nd:=lg F 5
def fI(p:Int)(x:ByteArray):Nat->List Nd->R Nd
 |0,_=>fun _ _=>.out
 | g+1,acc=>fun c s=>
  if dK c s then
   if s.at_+1=c.toks.length then .ok (.mk 1 x acc p) (am s)
   else if aR c (am s) ⟨#[102,117,110,99]⟩||(aR c (am s) ⟨#[116,121,112,101]⟩||aR c (am s) ⟨#[118,97,114]⟩)then(nY F c (am s)).bind fun d s1=>fI p x g (acc++[d]) c s1
   else .fail (ar c (am s))
  else .fail (ar c s)
def fu:R Nd:=fun c s=>(need ⟨#[112,97,99,107,97,103,101]⟩ c s).bind fun _ s1=>(bV c s1).bind fun x s2=>fI F (ar c s) x F.g [] c s2
end
def tI:Nat->eQ
 |0=>⟨0,fun _ _=>.out,fun _ _=>.out,fun _ _=>.out,fun _ _=>.out,fun _ _=>.out⟩
 |g+1=>⟨g+1,AD (tI g),GX (tI g),lI (tI g),By (tI g),Mu (tI g)⟩
end
end Go.Proofs.YtcoiialmdncpfaaGreatDoor

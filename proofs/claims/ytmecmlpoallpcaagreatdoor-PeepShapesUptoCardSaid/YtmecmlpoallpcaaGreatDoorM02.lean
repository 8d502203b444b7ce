/- Parts of the proof: Shelf Base WalkA Ints Seek WalkB InsRow WalkC InsOwn WalkD -/
import Derived.Shelf.Strings.OnBuilder
import Derived.Shelf.Small.Strs
import Derived.Shelf.LaysM
import Derived.Shelf.Strconv.Itoa3
import Derived.Shelf.Strconv.Itoa4
import Derived.Shelf.LaysC
import Derived.Shelf.Strconv.ToError
import Derived.Shelf.Strconv.Lower
import Derived.Shelf.Strconv.ToErrorRange
import Derived.Shelf.Strconv.AtoiAll
import Derived.Shelf.Strconv.ParseIntPublic10
import Derived.Shelf.Strings.Cut
import Derived.Shelf.Strings.Split
import Derived.Shelf.Strings.Fields
import Derived.Shelf.Unicode.CaseTo
import Derived.Shelf.Slices.Turned
import Derived.Shelf.Slices.Equal
import Derived.Shelf.Slices.Clone
import Derived.Shelf.SlicesE.Clone
import Derived.Test.YtmecmlpoallpcaaGreatDoorChecked
import Derived.Below
import Derived.Laws.OwnMore
import Derived.Deep.AppendLies
import Derived.Deep.Draws
import Derived.Laws.Rows
import Derived.OwnWalk
import Derived.Laws.AppendOwn
import Derived.Laws.MakeOwn
import Derived.Laws.Entries
import Derived.Laws.CopyOwn
import Derived.Lib.Hide
import Derived.Handy
import Derived.WalkKit
import Derived.Test.YtmecmlpoallpcaaGreatDoorRows
import Derived.Test.YtmecmlpoallpcaaGreatDoorM01
import Derived.Laws.Tables
set_option linter.all false
set_option maxHeartbeats 8000000
namespace Go.Proofs
open Go.Proofs.Tryz
section
open Go.Shelf
def mb:Go.Shelf.Ren:=⟨λ|159=>141|165=>171|166=>172|167=>173|169=>174|230=>175|204=>176|240=>207|241=>208|197=>203|118=>209|168=>210|270=>211|262=>212|276=>223|277=>224|260=>222|242=>225|313=>226|278=>230|274=>231|275=>232|n=>n,λ|9=>9|4=>4|3=>3|5=>5|72=>228|0=>0|76=>37|75=>34|107=>232|70=>226|20=>20|37=>113|127=>269|21=>21|105=>266|164=>283|162=>289|203=>287|119=>182|46=>192|139=>298|138=>297|51=>216|160=>299|208=>305|206=>303|80=>230|n=>n,λ|13=>8|3=>11|4=>12|n=>n⟩
def AB:Go.Proofs.Lays.n159 prog mb:={
 mixed:=by kernel_rfl
 f118:=func209.trans (zp some (by kernel_rfl))
 f159:=func141.trans (zp some (by kernel_rfl))
 f165:=func171.trans (zp some (by kernel_rfl))
 f166:=func172.trans (zp some (by kernel_rfl))
 f167:=func173.trans (zp some (by kernel_rfl))
 f168:=func210.trans (zp some (by kernel_rfl))
 f169:=func174.trans (zp some (by kernel_rfl))
 f197:=func203.trans (zp some (by kernel_rfl))
 f204:=func176.trans (zp some (by kernel_rfl))
 f230:=func175.trans (zp some (by kernel_rfl))
 f240:=func207.trans (zp some (by kernel_rfl))
 f241:=func208.trans (zp some (by kernel_rfl))
 f242:=func225.trans (zp some (by kernel_rfl))
 f260:=func222.trans (zp some (by kernel_rfl))
 f262:=func212.trans (zp some (by kernel_rfl))
 f270:=func211.trans (zp some (by kernel_rfl))
 f274:=func231.trans (zp some (by kernel_rfl))
 f275:=func232.trans (zp some (by kernel_rfl))
 f276:=func223.trans (zp some (by kernel_rfl))
 f277:=func224.trans (zp some (by kernel_rfl))
 f278:=func230.trans (zp some (by kernel_rfl))
 f313:=func226.trans (zp some (by kernel_rfl))
 t0:=underlying0
 a0:=isAgg0
 z0:=sizeOf0
 v0:=zeroValue0
 t3:=underlying3
 a3:=isAgg3
 z3:=sizeOf3
 v3:=zeroValue3
 t4:=underlying4
 a4:=isAgg4
 z4:=sizeOf4
 v4:=zeroValue4
 t5:=underlying5
 a5:=isAgg5
 z5:=sizeOf5
 v5:=zeroValue5
 t9:=underlying9
 a9:=isAgg9
 z9:=sizeOf9
 v9:=zeroValue9
 t20:=underlying20
 a20:=isAgg20
 z20:=sizeOf20
 v20:=zeroValue20
 t21:=underlying21
 a21:=isAgg21
 z21:=sizeOf21
 v21:=zeroValue21
 t37:=underlying113
 a37:=isAgg113
 z37:=sizeOf113
 v37:=zeroValue113
 t46:=underlying192
 a46:=isAgg192
 z46:=sizeOf192
 v46:=zeroValue192
 t51:=underlying216
 a51:=isAgg216
 z51:=sizeOf216
 v51:=zeroValue216
 t70:=underlying226
 a70:=isAgg226
 z70:=sizeOf226
 v70:=zeroValue226
 t72:=underlying228
 a72:=isAgg228
 z72:=sizeOf228
 v72:=zeroValue228
 t75:=underlying34
 a75:=isAgg34
 z75:=sizeOf34
 v75:=zeroValue34
 t76:=underlying37
 a76:=isAgg37
 z76:=sizeOf37
 v76:=zeroValue37
 t105:=underlying266
 a105:=isAgg266
 z105:=sizeOf266
 v105:=zeroValue266
 t107:=underlying232
 a107:=isAgg232
 z107:=sizeOf232
 v107:=zeroValue232
 t119:=underlying182
 a119:=isAgg182
 z119:=sizeOf182
 t127:=underlying269
 a127:=isAgg269
 z127:=sizeOf269
 v127:=zeroValue269
 t138:=underlying297
 a138:=isAgg297
 z138:=sizeOf297
 v138:=zeroValue297
 t139:=underlying298
 a139:=isAgg298
 z139:=sizeOf298
 v139:=zeroValue298
 t160:=underlying299
 a160:=isAgg299
 z160:=sizeOf299
 v160:=zeroValue299
 t162:=underlying289
 a162:=isAgg289
 z162:=sizeOf289
 v162:=zeroValue289
 t164:=underlying283
 a164:=isAgg283
 z164:=sizeOf283
 v164:=zeroValue283
 t203:=underlying287
 a203:=isAgg287
 z203:=sizeOf287
 v203:=zeroValue287
 t206:=underlying303
 a206:=isAgg303
 z206:=sizeOf303
 v206:=zeroValue303
 t208:=underlying305
 a208:=isAgg305
 z208:=sizeOf305
 v208:=zeroValue305
 g3:=by kernel_rfl
 g4:=by kernel_rfl
 g13:=by kernel_rfl}
def mJ:Builder.Extra prog mb:={
 sizeBuilder:=by kernel_rfl
 liesBuilder:=by kernel_rfl
 t5:=underlying5
 a5:=isAgg5
 z5:=sizeOf5
 v5:=zeroValue5
 infoByte:=by kernel_rfl
 cellsByte:=by kernel_rfl
 sizeByte:=by kernel_rfl
 neB5:=by decide}
open Go.RowKit in
def kJ(s:ByteArray)(w:World)(a:s.size<=140737488355328)(c:∀(j:Nat) (b:UInt8),s.data.toList[j]?=some b->b.toNat<128):
 Calls prog 141 #[.string s] w λe w'=>e= .returned (.string ⟨(Lib.toLowerA s.data.toList).toArray⟩)∧zz w w':=Any.strings_ToLower_ascii AB mJ s w a c
def mc:Go.Shelf.Ren:=⟨λ|156=>185|165=>171|166=>172|169=>174|240=>207|241=>208|276=>223|277=>224|n=>n,λ|31=>23|9=>9|3=>3|4=>4|0=>0|20=>20|72=>228|76=>37|70=>226|37=>113|75=>34|127=>269|164=>283|5=>5|80=>230|n=>n,λ|n=>n⟩
def Ay:Go.Proofs.Lays.n156 prog mc:={
 mixed:=by kernel_rfl
 f156:=func185.trans (zp some (by kernel_rfl))
 f165:=func171.trans (zp some (by kernel_rfl))
 f166:=func172.trans (zp some (by kernel_rfl))
 f169:=func174.trans (zp some (by kernel_rfl))
 f240:=func207.trans (zp some (by kernel_rfl))
 f241:=func208.trans (zp some (by kernel_rfl))
 f276:=func223.trans (zp some (by kernel_rfl))
 f277:=func224.trans (zp some (by kernel_rfl))
 t0:=underlying0
 a0:=isAgg0
 z0:=sizeOf0
 v0:=zeroValue0
 t3:=underlying3
 a3:=isAgg3
 z3:=sizeOf3
 v3:=zeroValue3
 t4:=underlying4
 a4:=isAgg4
 z4:=sizeOf4
 v4:=zeroValue4
 t9:=underlying9
 a9:=isAgg9
 z9:=sizeOf9
 v9:=zeroValue9
 t20:=underlying20
 a20:=isAgg20
 z20:=sizeOf20
 v20:=zeroValue20
 t31:=underlying23
 a31:=isAgg23
 z31:=sizeOf23
 v31:=zeroValue23
 t37:=underlying113
 a37:=isAgg113
 z37:=sizeOf113
 v37:=zeroValue113
 t70:=underlying226
 a70:=isAgg226
 z70:=sizeOf226
 v70:=zeroValue226
 t72:=underlying228
 a72:=isAgg228
 z72:=sizeOf228
 v72:=zeroValue228
 t75:=underlying34
 a75:=isAgg34
 z75:=sizeOf34
 v75:=zeroValue34
 t76:=underlying37
 a76:=isAgg37
 z76:=sizeOf37
 v76:=zeroValue37
 t127:=underlying269
 a127:=isAgg269
 z127:=sizeOf269
 v127:=zeroValue269
 t164:=underlying283
 a164:=isAgg283
 z164:=sizeOf283
 v164:=zeroValue283}
def mI:Builder.Extra prog mc:={
 sizeBuilder:=by kernel_rfl
 liesBuilder:=by kernel_rfl
 t5:=underlying5
 a5:=isAgg5
 z5:=sizeOf5
 v5:=zeroValue5
 infoByte:=by kernel_rfl
 cellsByte:=by kernel_rfl
 sizeByte:=by kernel_rfl
 neB5:=by decide}
open Go.RowKit in
def lm(d o c:Nat)(a:List ByteArray)(b:ByteArray)(w:World)(g:∀(j:Nat) x,a[j]?=some x->w.cell? ⟨d,o+j,none⟩=some (.string x))(i:d<w.heap.size)(k:a.length<=140737488355328)(h:a.length<=c)(f:(Lib.join (a.map (·.data.toList)) b.data.toList).length<=140737488355328):
 Calls prog 185 #[.slice (some ⟨d,o,none⟩) a.length c,.string b] w λe w'=>e= .returned (.string ⟨(Lib.join (a.map (·.data.toList)) b.data.toList).toArray⟩)∧zz w w':=Any.strings_Join Ay mI d o c a b w g i k h f
def sj:Go.Shelf.Ren:=⟨λ|137=>143|217=>177|266=>213|n=>n,λ|9=>9|5=>5|3=>3|n=>n,λ|n=>n⟩
def Av:Go.Proofs.Lays.n137 prog sj:={
 mixed:=by kernel_rfl
 f137:=func143.trans (zp some (by kernel_rfl))
 f217:=func177.trans (zp some (by kernel_rfl))
 f266:=func213.trans (zp some (by kernel_rfl))
 t3:=underlying3
 a3:=isAgg3
 z3:=sizeOf3
 v3:=zeroValue3
 t5:=underlying5
 a5:=isAgg5
 z5:=sizeOf5
 v5:=zeroValue5
 t9:=underlying9
 a9:=isAgg9
 z9:=sizeOf9
 v9:=zeroValue9}
open Go.RowKit in
def mK(s:ByteArray)(c:Int)(w:World):
 Calls prog 143 #[.string s,.int .u8 c] w λe w'=>e= .returned (.int .i64 (Lib.indexByte s.data.toList c.toNat.toUInt8))∧w'=w:=Any.strings_IndexByte Av s c w
def ru:Go.Shelf.Ren:=⟨λ|171=>66|243=>101|246=>135|283=>161|284=>162|285=>163|286=>164|129=>195|317=>194|318=>196|319=>197|320=>198|337=>219|338=>220|n=>n,λ|3=>3|9=>9|2=>2|4=>4|171=>219|0=>0|53=>126|37=>113|5=>5|173=>222|212=>262|51=>216|20=>20|213=>263|46=>192|232=>294|233=>295|n=>n,λ|17=>3|18=>9|19=>10|n=>n⟩
def wD:Go.Proofs.LaysM.n171 prog ru:={
 mixed:=by kernel_rfl
 f129:=func195.trans (zp some (by kernel_rfl))
 f171:=func66.trans (zp some (by kernel_rfl))
 f243:=func101.trans (zp some (by kernel_rfl))
 f246:=func135.trans (zp some (by kernel_rfl))
 f283:=func161.trans (zp some (by kernel_rfl))
 f284:=func162.trans (zp some (by kernel_rfl))
 f285:=func163.trans (zp some (by kernel_rfl))
 f286:=func164.trans (zp some (by kernel_rfl))
 f317:=func194.trans (zp some (by kernel_rfl))
 f318:=func196.trans (zp some (by kernel_rfl))
 f319:=func197.trans (zp some (by kernel_rfl))
 f320:=func198.trans (zp some (by kernel_rfl))
 f337:=func219.trans (zp some (by kernel_rfl))
 f338:=func220.trans (zp some (by kernel_rfl))
 t0:=underlying0
 a0:=isAgg0
 z0:=sizeOf0
 v0:=zeroValue0
 t2:=underlying2
 a2:=isAgg2
 z2:=sizeOf2
 v2:=zeroValue2
 t3:=underlying3
 a3:=isAgg3
 z3:=sizeOf3
 v3:=zeroValue3
 t4:=underlying4
 a4:=isAgg4
 z4:=sizeOf4
 v4:=zeroValue4
 t5:=underlying5
 a5:=isAgg5
 z5:=sizeOf5
 v5:=zeroValue5
 t9:=underlying9
 a9:=isAgg9
 z9:=sizeOf9
 v9:=zeroValue9
 t20:=underlying20
 a20:=isAgg20
 z20:=sizeOf20
 v20:=zeroValue20
 t37:=underlying113
 a37:=isAgg113
 z37:=sizeOf113
 v37:=zeroValue113
 t46:=underlying192
 a46:=isAgg192
 z46:=sizeOf192
 v46:=zeroValue192
 t51:=underlying216
 a51:=isAgg216
 z51:=sizeOf216
 v51:=zeroValue216
 t53:=underlying126
 a53:=isAgg126
 z53:=sizeOf126
 v53:=zeroValue126
 t171:=underlying219
 a171:=isAgg219
 z171:=sizeOf219
 v171:=zeroValue219
 t173:=underlying222
 a173:=isAgg222
 z173:=sizeOf222
 v173:=zeroValue222
 t212:=underlying262
 a212:=isAgg262
 z212:=sizeOf262
 v212:=zeroValue262
 t213:=underlying263
 a213:=isAgg263
 z213:=sizeOf263
 t232:=underlying294
 a232:=isAgg294
 z232:=sizeOf294
 v232:=zeroValue294
 t233:=underlying295
 a233:=isAgg295
 z233:=sizeOf295
 v233:=zeroValue295
 g17:=by kernel_rfl
 g18:=by kernel_rfl
 g19:=by kernel_rfl
 i0:=by kernel_rfl
 i2:=by kernel_rfl
 i3:=by kernel_rfl
 i4:=by kernel_rfl
 i5:=by kernel_rfl
 i9:=by kernel_rfl
 i20:=by kernel_rfl
 i37:=by kernel_rfl
 i46:=by kernel_rfl
 i51:=by kernel_rfl
 i53:=by kernel_rfl
 i171:=by kernel_rfl
 i173:=by kernel_rfl
 i212:=by kernel_rfl
 i232:=by kernel_rfl
 i233:=by kernel_rfl
 m17:=by kernel_rfl
 m18:=by kernel_rfl
 m19:=by kernel_rfl}
open Go.RowKit Go.Sort Go.Lib in
def fB(n:Int)(c: -9223372036854775808<=n)(b:n<=9223372036854775807)(w:World)(a:Lib.TabIs prog w "internal/strconv.uint64pow10" .u64 Lib.pow10Tab):
 Calls prog 66 #[.int .i64 n] w λe w'=>e= .returned (.string ⟨(Lib.itoa n).toArray⟩)∧∃k os,w'=grow (w.drewN k) os:=Any.strconv_Itoa wD n c b w a
def rt:Go.Shelf.Ren:=⟨λ|173=>139|246=>135|283=>161|284=>162|285=>163|286=>164|129=>195|317=>194|318=>196|319=>197|320=>198|337=>219|338=>220|n=>n,λ|2=>2|3=>3|9=>9|4=>4|171=>219|0=>0|53=>126|37=>113|5=>5|173=>222|212=>262|51=>216|20=>20|213=>263|46=>192|232=>294|233=>295|n=>n,λ|17=>3|18=>9|19=>10|n=>n⟩
def wC:Go.Proofs.LaysM.n173 prog rt:={
 mixed:=by kernel_rfl
 f129:=func195.trans (zp some (by kernel_rfl))
 f173:=func139.trans (zp some (by kernel_rfl))
 f246:=func135.trans (zp some (by kernel_rfl))
 f283:=func161.trans (zp some (by kernel_rfl))
 f284:=func162.trans (zp some (by kernel_rfl))
 f285:=func163.trans (zp some (by kernel_rfl))
 f286:=func164.trans (zp some (by kernel_rfl))
 f317:=func194.trans (zp some (by kernel_rfl))
 f318:=func196.trans (zp some (by kernel_rfl))
 f319:=func197.trans (zp some (by kernel_rfl))
 f320:=func198.trans (zp some (by kernel_rfl))
 f337:=func219.trans (zp some (by kernel_rfl))
 f338:=func220.trans (zp some (by kernel_rfl))
 t0:=underlying0
 a0:=isAgg0
 z0:=sizeOf0
 v0:=zeroValue0
 t2:=underlying2
 a2:=isAgg2
 z2:=sizeOf2
 v2:=zeroValue2
 t3:=underlying3
 a3:=isAgg3
 z3:=sizeOf3
 v3:=zeroValue3
 t4:=underlying4
 a4:=isAgg4
 z4:=sizeOf4
 v4:=zeroValue4
 t5:=underlying5
 a5:=isAgg5
 z5:=sizeOf5
 v5:=zeroValue5
 t9:=underlying9
 a9:=isAgg9
 z9:=sizeOf9
 v9:=zeroValue9
 t20:=underlying20
 a20:=isAgg20
 z20:=sizeOf20
 v20:=zeroValue20
 t37:=underlying113
 a37:=isAgg113
 z37:=sizeOf113
 v37:=zeroValue113
 t46:=underlying192
 a46:=isAgg192
 z46:=sizeOf192
 v46:=zeroValue192
 t51:=underlying216
 a51:=isAgg216
 z51:=sizeOf216
 v51:=zeroValue216
 t53:=underlying126
 a53:=isAgg126
 z53:=sizeOf126
 v53:=zeroValue126
 t171:=underlying219
 a171:=isAgg219
 z171:=sizeOf219
 v171:=zeroValue219
 t173:=underlying222
 a173:=isAgg222
 z173:=sizeOf222
 v173:=zeroValue222
 t212:=underlying262
 a212:=isAgg262
 z212:=sizeOf262
 v212:=zeroValue262
 t213:=underlying263
 a213:=isAgg263
 z213:=sizeOf263
 t232:=underlying294
 a232:=isAgg294
 z232:=sizeOf294
 v232:=zeroValue294
 t233:=underlying295
 a233:=isAgg295
 z233:=sizeOf295
 v233:=zeroValue295
 g17:=by kernel_rfl
 g18:=by kernel_rfl
 g19:=by kernel_rfl
 i0:=by kernel_rfl
 i2:=by kernel_rfl
 i3:=by kernel_rfl
 i4:=by kernel_rfl
 i5:=by kernel_rfl
 i9:=by kernel_rfl
 i20:=by kernel_rfl
 i37:=by kernel_rfl
 i46:=by kernel_rfl
 i51:=by kernel_rfl
 i53:=by kernel_rfl
 i171:=by kernel_rfl
 i173:=by kernel_rfl
 i212:=by kernel_rfl
 i232:=by kernel_rfl
 i233:=by kernel_rfl
 m17:=by kernel_rfl
 m18:=by kernel_rfl
 m19:=by kernel_rfl}
open Go.RowKit Go.Sort Go.Lib in
def kP(n:Int)(c: -9223372036854775808<=n)(b:n<=9223372036854775807)(w:World)(a:Lib.TabIs prog w "internal/strconv.uint64pow10" .u64 Lib.pow10Tab):
 Calls prog 139 #[.int .i64 n,.int .i64 10] w λe w'=>e= .returned (.string ⟨(Lib.itoa n).toArray⟩)∧∃k os,w'=grow (w.drewN k) os:=Any.strconv_FormatInt_10 wC n c b w a
def rp:Go.Shelf.Ren:=⟨λ|245=>146|279=>179|280=>180|281=>181|282=>182|316=>214|171=>66|205=>215|243=>101|246=>135|283=>161|284=>162|285=>163|286=>164|129=>195|317=>194|318=>196|319=>197|320=>198|337=>219|338=>220|n=>n,λ|9=>9|3=>3|75=>34|167=>235|4=>4|168=>236|210=>274|37=>113|0=>0|127=>269|145=>292|143=>290|2=>2|171=>219|53=>126|5=>5|173=>222|212=>262|51=>216|20=>20|213=>263|46=>192|232=>294|233=>295|80=>230|n=>n,λ|15=>5|16=>6|17=>3|18=>9|19=>10|n=>n⟩
def pb:Go.Proofs.LaysC.n245 prog rp:={
 mixed:=by kernel_rfl
 f129:=func195.trans (zp some (by kernel_rfl))
 f171:=func66.trans (zp some (by kernel_rfl))
 f205:=func215.trans (zp some (by kernel_rfl))
 f243:=func101.trans (zp some (by kernel_rfl))
 f245:=func146.trans (zp some (by kernel_rfl))
 f246:=func135.trans (zp some (by kernel_rfl))
 f279:=func179.trans (zp some (by kernel_rfl))
 f280:=func180.trans (zp some (by kernel_rfl))
 f281:=func181.trans (zp some (by kernel_rfl))
 f282:=func182.trans (zp some (by kernel_rfl))
 f283:=func161.trans (zp some (by kernel_rfl))
 f284:=func162.trans (zp some (by kernel_rfl))
 f285:=func163.trans (zp some (by kernel_rfl))
 f286:=func164.trans (zp some (by kernel_rfl))
 f316:=func214.trans (zp some (by kernel_rfl))
 f317:=func194.trans (zp some (by kernel_rfl))
 f318:=func196.trans (zp some (by kernel_rfl))
 f319:=func197.trans (zp some (by kernel_rfl))
 f320:=func198.trans (zp some (by kernel_rfl))
 f337:=func219.trans (zp some (by kernel_rfl))
 f338:=func220.trans (zp some (by kernel_rfl))
 t0:=underlying0
 a0:=isAgg0
 z0:=sizeOf0
 v0:=zeroValue0
 t2:=underlying2
 a2:=isAgg2
 z2:=sizeOf2
 v2:=zeroValue2
 t3:=underlying3
 a3:=isAgg3
 z3:=sizeOf3
 v3:=zeroValue3
 t4:=underlying4
 a4:=isAgg4
 z4:=sizeOf4
 v4:=zeroValue4
 t5:=underlying5
 a5:=isAgg5
 z5:=sizeOf5
 v5:=zeroValue5
 t9:=underlying9
 a9:=isAgg9
 z9:=sizeOf9
 v9:=zeroValue9
 t20:=underlying20
 a20:=isAgg20
 z20:=sizeOf20
 v20:=zeroValue20
 t37:=underlying113
 a37:=isAgg113
 z37:=sizeOf113
 v37:=zeroValue113
 t46:=underlying192
 a46:=isAgg192
 z46:=sizeOf192
 v46:=zeroValue192
 t51:=underlying216
 a51:=isAgg216
 z51:=sizeOf216
 v51:=zeroValue216
 t53:=underlying126
 a53:=isAgg126
 z53:=sizeOf126
 v53:=zeroValue126
 t75:=underlying34
 a75:=isAgg34
 z75:=sizeOf34
 v75:=zeroValue34
 t127:=underlying269
 a127:=isAgg269
 z127:=sizeOf269
 v127:=zeroValue269
 t143:=underlying290
 a143:=isAgg290
 z143:=sizeOf290
 v143:=zeroValue290
 t145:=underlying292
 a145:=isAgg292
 z145:=sizeOf292
 v145:=zeroValue292
 t167:=underlying235
 a167:=isAgg235
 z167:=sizeOf235
 v167:=zeroValue235
 t168:=underlying236
 a168:=isAgg236
 z168:=sizeOf236
 v168:=zeroValue236
 t171:=underlying219
 a171:=isAgg219
 z171:=sizeOf219
 v171:=zeroValue219
 t173:=underlying222
 a173:=isAgg222
 z173:=sizeOf222
 v173:=zeroValue222
 t210:=underlying274
 a210:=isAgg274
 z210:=sizeOf274
 v210:=zeroValue274
 t212:=underlying262
 a212:=isAgg262
 z212:=sizeOf262
 v212:=zeroValue262
 t213:=underlying263
 a213:=isAgg263
 z213:=sizeOf263
 t232:=underlying294
 a232:=isAgg294
 z232:=sizeOf294
 v232:=zeroValue294
 t233:=underlying295
 a233:=isAgg295
 z233:=sizeOf295
 v233:=zeroValue295
 g15:=by kernel_rfl
 g16:=by kernel_rfl
 g17:=by kernel_rfl
 g18:=by kernel_rfl
 g19:=by kernel_rfl
 t80:=underlying230
 a80:=isAgg230
 z80:=sizeOf230
 v80:=zeroValue230
 i0:=by kernel_rfl
 i2:=by kernel_rfl
 i3:=by kernel_rfl
 i4:=by kernel_rfl
 i5:=by kernel_rfl
 i9:=by kernel_rfl
 i20:=by kernel_rfl
 i37:=by kernel_rfl
 i46:=by kernel_rfl
 i51:=by kernel_rfl
 i53:=by kernel_rfl
 i75:=by kernel_rfl
 i80:=by kernel_rfl
 i127:=by kernel_rfl
 i143:=by kernel_rfl
 i145:=by kernel_rfl
 i167:=by kernel_rfl
 i168:=by kernel_rfl
 i171:=by kernel_rfl
 i173:=by kernel_rfl
 i210:=by kernel_rfl
 i212:=by kernel_rfl
 i232:=by kernel_rfl
 i233:=by kernel_rfl
 m15:=by kernel_rfl
 m16:=by kernel_rfl
 m17:=by kernel_rfl
 m18:=by kernel_rfl
 m19:=by kernel_rfl
 c0:=by kernel_rfl
 c2:=by kernel_rfl
 c3:=by kernel_rfl
 c4:=by kernel_rfl
 c5:=by kernel_rfl
 c9:=by kernel_rfl
 c20:=by kernel_rfl
 c37:=by kernel_rfl
 c46:=by kernel_rfl
 c51:=by kernel_rfl
 c53:=by kernel_rfl
 c75:=by kernel_rfl
 c80:=by kernel_rfl
 c127:=by kernel_rfl
 c143:=by kernel_rfl
 c145:=by kernel_rfl
 c167:=by kernel_rfl
 c168:=by kernel_rfl
 c171:=by kernel_rfl
 c173:=by kernel_rfl
 c210:=by kernel_rfl
 c212:=by kernel_rfl
 c213:=by kernel_rfl
 c232:=by kernel_rfl
 c233:=by kernel_rfl}
open Go.RowKit in
def jL(b s:ByteArray)(base c:Int)(a:Value)(w:World)(h:s.size<=281474976710656)(g:w.cell? ⟨5,0,none⟩=some a)(i:a= .nilIface∨∃d f,a= .iface d f):
 Calls prog 146 #[.string b,.string s,.int .i64 base,.int .i64 c,.iface 235 (.int .i64 2)] w λe w'=> ∃N,e= .returned (.iface 236 (.pointer (some ⟨N,0,none⟩)))∧w.heap.size<=N∧w'.heap[N]?=some (.cells #[.string b,.string s,a] 274 (0,0))∧zz w w':=Any.strconv_toError_syntax pb b s base c a w h g i
def si:Go.Shelf.Ren:=⟨λ|321=>205|n=>n,λ|5=>5|n=>n,λ|n=>n⟩
def AC:Go.Proofs.Lays.n321 prog si:={
 mixed:=by kernel_rfl
 f321:=func205.trans (zp some (by kernel_rfl))
 t5:=underlying5
 a5:=isAgg5
 z5:=sizeOf5
 v5:=zeroValue5}
open Go.RowKit in
def aD(c:Int)(w:World):
 Calls prog 205 #[.int .u8 c] w λe w'=>e= .returned (.int .u8 (bits .or .u8 c 32))∧w'=w:=Any.internal_strconv_lower AC c w
open Go.RowKit in
def kI(b s:ByteArray)(base c:Int)(a:Value)(w:World)(h:s.size<=281474976710656)(g:w.cell? ⟨6,0,none⟩=some a)(i:a= .nilIface∨∃d f,a= .iface d f):
 Calls prog 146 #[.string b,.string s,.int .i64 base,.int .i64 c,.iface 235 (.int .i64 1)] w λe w'=> ∃N,e= .returned (.iface 236 (.pointer (some ⟨N,0,none⟩)))∧w.heap.size<=N∧w'.heap[N]?=some (.cells #[.string b,.string s,a] 274 (0,0))∧zz w w':=Any.strconv_toError_range pb b s base c a w h g i
def rq:Go.Shelf.Ren:=⟨λ|172=>118|244=>145|245=>146|247=>169|279=>179|280=>180|281=>181|282=>182|287=>170|316=>214|171=>66|205=>215|321=>205|322=>206|243=>101|246=>135|283=>161|284=>162|285=>163|286=>164|129=>195|317=>194|318=>196|319=>197|320=>198|337=>219|338=>220|n=>n,λ|9=>9|3=>3|75=>34|76=>37|4=>4|5=>5|167=>235|37=>113|0=>0|85=>187|2=>2|168=>236|53=>126|175=>189|46=>192|210=>274|127=>269|145=>292|143=>290|21=>21|171=>219|173=>222|212=>262|51=>216|20=>20|213=>263|232=>294|233=>295|80=>230|n=>n,λ|15=>5|16=>6|17=>3|18=>9|19=>10|n=>n⟩
def wB:Go.Proofs.LaysC.n172 prog rq:={
 mixed:=by kernel_rfl
 f129:=func195.trans (zp some (by kernel_rfl))
 f171:=func66.trans (zp some (by kernel_rfl))
 f172:=func118.trans (zp some (by kernel_rfl))
 f205:=func215.trans (zp some (by kernel_rfl))
 f243:=func101.trans (zp some (by kernel_rfl))
 f244:=func145.trans (zp some (by kernel_rfl))
 f245:=func146.trans (zp some (by kernel_rfl))
 f246:=func135.trans (zp some (by kernel_rfl))
 f247:=func169.trans (zp some (by kernel_rfl))
 f279:=func179.trans (zp some (by kernel_rfl))
 f280:=func180.trans (zp some (by kernel_rfl))
 f281:=func181.trans (zp some (by kernel_rfl))
 f282:=func182.trans (zp some (by kernel_rfl))
 f283:=func161.trans (zp some (by kernel_rfl))
 f284:=func162.trans (zp some (by kernel_rfl))
 f285:=func163.trans (zp some (by kernel_rfl))
 f286:=func164.trans (zp some (by kernel_rfl))
 f287:=func170.trans (zp some (by kernel_rfl))
 f316:=func214.trans (zp some (by kernel_rfl))
 f317:=func194.trans (zp some (by kernel_rfl))
 f318:=func196.trans (zp some (by kernel_rfl))
 f319:=func197.trans (zp some (by kernel_rfl))
 f320:=func198.trans (zp some (by kernel_rfl))
 f321:=func205.trans (zp some (by kernel_rfl))
 f322:=func206.trans (zp some (by kernel_rfl))
 f337:=func219.trans (zp some (by kernel_rfl))
 f338:=func220.trans (zp some (by kernel_rfl))
 t0:=underlying0
 a0:=isAgg0
 z0:=sizeOf0
 v0:=zeroValue0
 t2:=underlying2
 a2:=isAgg2
 z2:=sizeOf2
 v2:=zeroValue2
 t3:=underlying3
 a3:=isAgg3
 z3:=sizeOf3
 v3:=zeroValue3
 t4:=underlying4
 a4:=isAgg4
 z4:=sizeOf4
 v4:=zeroValue4
 t5:=underlying5
 a5:=isAgg5
 z5:=sizeOf5
 v5:=zeroValue5
 t9:=underlying9
 a9:=isAgg9
 z9:=sizeOf9
 v9:=zeroValue9
 t20:=underlying20
 a20:=isAgg20
 z20:=sizeOf20
 v20:=zeroValue20
 t21:=underlying21
 a21:=isAgg21
 z21:=sizeOf21
 v21:=zeroValue21
 t37:=underlying113
 a37:=isAgg113
 z37:=sizeOf113
 v37:=zeroValue113
 t46:=underlying192
 a46:=isAgg192
 z46:=sizeOf192
 v46:=zeroValue192
 t51:=underlying216
 a51:=isAgg216
 z51:=sizeOf216
 v51:=zeroValue216
 t53:=underlying126
 a53:=isAgg126
 z53:=sizeOf126
 v53:=zeroValue126
 t75:=underlying34
 a75:=isAgg34
 z75:=sizeOf34
 v75:=zeroValue34
 t76:=underlying37
 a76:=isAgg37
 z76:=sizeOf37
 v76:=zeroValue37
 t85:=underlying187
 a85:=isAgg187
 z85:=sizeOf187
 v85:=zeroValue187
 t127:=underlying269
 a127:=isAgg269
 z127:=sizeOf269
 v127:=zeroValue269
 t143:=underlying290
 a143:=isAgg290
 z143:=sizeOf290
 v143:=zeroValue290
 t145:=underlying292
 a145:=isAgg292
 z145:=sizeOf292
 v145:=zeroValue292
 t167:=underlying235
 a167:=isAgg235
 z167:=sizeOf235
 v167:=zeroValue235
 t168:=underlying236
 a168:=isAgg236
 z168:=sizeOf236
 v168:=zeroValue236
 t171:=underlying219
 a171:=isAgg219
 z171:=sizeOf219
 v171:=zeroValue219
 t173:=underlying222
 a173:=isAgg222
 z173:=sizeOf222
 v173:=zeroValue222
 t175:=underlying189
 a175:=isAgg189
 z175:=sizeOf189
 v175:=zeroValue189
 t210:=underlying274
 a210:=isAgg274
 z210:=sizeOf274
 v210:=zeroValue274
 t212:=underlying262
 a212:=isAgg262
 z212:=sizeOf262
 v212:=zeroValue262
 t213:=underlying263
 a213:=isAgg263
 z213:=sizeOf263
 t232:=underlying294
 a232:=isAgg294
 z232:=sizeOf294
 v232:=zeroValue294
 t233:=underlying295
 a233:=isAgg295
 z233:=sizeOf295
 v233:=zeroValue295
 g15:=by kernel_rfl
 g16:=by kernel_rfl
 g17:=by kernel_rfl
 g18:=by kernel_rfl
 g19:=by kernel_rfl
 t80:=underlying230
 a80:=isAgg230
 z80:=sizeOf230
 v80:=zeroValue230
 i0:=by kernel_rfl
 i2:=by kernel_rfl
 i3:=by kernel_rfl
 i4:=by kernel_rfl
 i5:=by kernel_rfl
 i9:=by kernel_rfl
 i20:=by kernel_rfl
 i21:=by kernel_rfl
 i37:=by kernel_rfl
 i46:=by kernel_rfl
 i51:=by kernel_rfl
 i53:=by kernel_rfl
 i75:=by kernel_rfl
 i76:=by kernel_rfl
 i80:=by kernel_rfl
 i85:=by kernel_rfl
 i127:=by kernel_rfl
 i143:=by kernel_rfl
 i145:=by kernel_rfl
 i167:=by kernel_rfl
 i168:=by kernel_rfl
 i171:=by kernel_rfl
 i173:=by kernel_rfl
 i175:=by kernel_rfl
 i210:=by kernel_rfl
 i212:=by kernel_rfl
 i232:=by kernel_rfl
 i233:=by kernel_rfl
 m15:=by kernel_rfl
 m16:=by kernel_rfl
 m17:=by kernel_rfl
 m18:=by kernel_rfl
 m19:=by kernel_rfl
 c0:=by kernel_rfl
 c2:=by kernel_rfl
 c3:=by kernel_rfl
 c4:=by kernel_rfl
 c5:=by kernel_rfl
 c9:=by kernel_rfl
 c20:=by kernel_rfl
 c21:=by kernel_rfl
 c37:=by kernel_rfl
 c46:=by kernel_rfl
 c51:=by kernel_rfl
 c53:=by kernel_rfl
 c75:=by kernel_rfl
 c76:=by kernel_rfl
 c80:=by kernel_rfl
 c85:=by kernel_rfl
 c127:=by kernel_rfl
 c143:=by kernel_rfl
 c145:=by kernel_rfl
 c167:=by kernel_rfl
 c168:=by kernel_rfl
 c171:=by kernel_rfl
 c173:=by kernel_rfl
 c175:=by kernel_rfl
 c210:=by kernel_rfl
 c212:=by kernel_rfl
 c213:=by kernel_rfl
 c232:=by kernel_rfl
 c233:=by kernel_rfl}
open Go.RowKit in
def od(s:ByteArray)(b:s.size<=9223372036854775806)(a:Int)(c:Lib.atoiAll s.data.toList= .ok a)(w:World):
 Calls prog 118 #[.string s] w λe w'=>e= .returned (.tuple #[.int .i64 a,.nilIface])∧(w'=w∨∃t,w'=Lib.bytesWorld w 5 t):=Any.strconv_Atoi_ok wB s b a c w
def rr:Go.Shelf.Ren:=⟨λ|174=>138|247=>169|245=>146|287=>170|279=>179|280=>180|281=>181|282=>182|321=>205|322=>206|316=>214|171=>66|205=>215|243=>101|246=>135|283=>161|284=>162|285=>163|286=>164|129=>195|317=>194|318=>196|319=>197|320=>198|337=>219|338=>220|n=>n,λ|9=>9|3=>3|2=>2|75=>34|85=>187|4=>4|167=>235|5=>5|53=>126|175=>189|46=>192|168=>236|37=>113|0=>0|210=>274|21=>21|127=>269|145=>292|143=>290|171=>219|173=>222|212=>262|51=>216|20=>20|213=>263|232=>294|233=>295|80=>230|n=>n,λ|15=>5|16=>6|17=>3|18=>9|19=>10|n=>n⟩
def lA:Go.Proofs.LaysC.n174 prog rr:={
 mixed:=by kernel_rfl
 f129:=func195.trans (zp some (by kernel_rfl))
 f171:=func66.trans (zp some (by kernel_rfl))
 f174:=func138.trans (zp some (by kernel_rfl))
 f205:=func215.trans (zp some (by kernel_rfl))
 f243:=func101.trans (zp some (by kernel_rfl))
 f245:=func146.trans (zp some (by kernel_rfl))
 f246:=func135.trans (zp some (by kernel_rfl))
 f247:=func169.trans (zp some (by kernel_rfl))
 f279:=func179.trans (zp some (by kernel_rfl))
 f280:=func180.trans (zp some (by kernel_rfl))
 f281:=func181.trans (zp some (by kernel_rfl))
 f282:=func182.trans (zp some (by kernel_rfl))
 f283:=func161.trans (zp some (by kernel_rfl))
 f284:=func162.trans (zp some (by kernel_rfl))
 f285:=func163.trans (zp some (by kernel_rfl))
 f286:=func164.trans (zp some (by kernel_rfl))
 f287:=func170.trans (zp some (by kernel_rfl))
 f316:=func214.trans (zp some (by kernel_rfl))
 f317:=func194.trans (zp some (by kernel_rfl))
 f318:=func196.trans (zp some (by kernel_rfl))
 f319:=func197.trans (zp some (by kernel_rfl))
 f320:=func198.trans (zp some (by kernel_rfl))
 f321:=func205.trans (zp some (by kernel_rfl))
 f322:=func206.trans (zp some (by kernel_rfl))
 f337:=func219.trans (zp some (by kernel_rfl))
 f338:=func220.trans (zp some (by kernel_rfl))
 t0:=underlying0
 a0:=isAgg0
 z0:=sizeOf0
 v0:=zeroValue0
 t2:=underlying2
 a2:=isAgg2
 z2:=sizeOf2
 v2:=zeroValue2
 t3:=underlying3
 a3:=isAgg3
 z3:=sizeOf3
 v3:=zeroValue3
 t4:=underlying4
 a4:=isAgg4
 z4:=sizeOf4
 v4:=zeroValue4
 t5:=underlying5
 a5:=isAgg5
 z5:=sizeOf5
 v5:=zeroValue5
 t9:=underlying9
 a9:=isAgg9
 z9:=sizeOf9
 v9:=zeroValue9
 t20:=underlying20
 a20:=isAgg20
 z20:=sizeOf20
 v20:=zeroValue20
 t21:=underlying21
 a21:=isAgg21
 z21:=sizeOf21
 v21:=zeroValue21
 t37:=underlying113
 a37:=isAgg113
 z37:=sizeOf113
 v37:=zeroValue113
 t46:=underlying192
 a46:=isAgg192
 z46:=sizeOf192
 v46:=zeroValue192
 t51:=underlying216
 a51:=isAgg216
 z51:=sizeOf216
 v51:=zeroValue216
 t53:=underlying126
 a53:=isAgg126
 z53:=sizeOf126
 v53:=zeroValue126
 t75:=underlying34
 a75:=isAgg34
 z75:=sizeOf34
 v75:=zeroValue34
 t85:=underlying187
 a85:=isAgg187
 z85:=sizeOf187
 v85:=zeroValue187
 t127:=underlying269
 a127:=isAgg269
 z127:=sizeOf269
 v127:=zeroValue269
 t143:=underlying290
 a143:=isAgg290
 z143:=sizeOf290
 v143:=zeroValue290
 t145:=underlying292
 a145:=isAgg292
 z145:=sizeOf292
 v145:=zeroValue292
 t167:=underlying235
 a167:=isAgg235
 z167:=sizeOf235
 v167:=zeroValue235
 t168:=underlying236
 a168:=isAgg236
 z168:=sizeOf236
 v168:=zeroValue236
 t171:=underlying219
 a171:=isAgg219
 z171:=sizeOf219
 v171:=zeroValue219
 t173:=underlying222
 a173:=isAgg222
 z173:=sizeOf222
 v173:=zeroValue222
 t175:=underlying189
 a175:=isAgg189
 z175:=sizeOf189
 v175:=zeroValue189
 t210:=underlying274
 a210:=isAgg274
 z210:=sizeOf274
 v210:=zeroValue274
 t212:=underlying262
 a212:=isAgg262
 z212:=sizeOf262
 v212:=zeroValue262
 t213:=underlying263
 a213:=isAgg263
 z213:=sizeOf263
 t232:=underlying294
 a232:=isAgg294
 z232:=sizeOf294
 v232:=zeroValue294
 t233:=underlying295
 a233:=isAgg295
 z233:=sizeOf295
 v233:=zeroValue295
 g15:=by kernel_rfl
 g16:=by kernel_rfl
 g17:=by kernel_rfl
 g18:=by kernel_rfl
 g19:=by kernel_rfl
 t80:=underlying230
 a80:=isAgg230
 z80:=sizeOf230
 v80:=zeroValue230
 i0:=by kernel_rfl
 i2:=by kernel_rfl
 i3:=by kernel_rfl
 i4:=by kernel_rfl
 i5:=by kernel_rfl
 i9:=by kernel_rfl
 i20:=by kernel_rfl
 i21:=by kernel_rfl
 i37:=by kernel_rfl
 i46:=by kernel_rfl
 i51:=by kernel_rfl
 i53:=by kernel_rfl
 i75:=by kernel_rfl
 i80:=by kernel_rfl
 i85:=by kernel_rfl
 i127:=by kernel_rfl
 i143:=by kernel_rfl
 i145:=by kernel_rfl
 i167:=by kernel_rfl
 i168:=by kernel_rfl
 i171:=by kernel_rfl
 i173:=by kernel_rfl
 i175:=by kernel_rfl
 i210:=by kernel_rfl
 i212:=by kernel_rfl
 i232:=by kernel_rfl
 i233:=by kernel_rfl
 m15:=by kernel_rfl
 m16:=by kernel_rfl
 m17:=by kernel_rfl
 m18:=by kernel_rfl
 m19:=by kernel_rfl
 c0:=by kernel_rfl
 c2:=by kernel_rfl
 c3:=by kernel_rfl
 c4:=by kernel_rfl
 c5:=by kernel_rfl
 c9:=by kernel_rfl
 c20:=by kernel_rfl
 c21:=by kernel_rfl
 c37:=by kernel_rfl
 c46:=by kernel_rfl
 c51:=by kernel_rfl
 c53:=by kernel_rfl
 c75:=by kernel_rfl
 c80:=by kernel_rfl
 c85:=by kernel_rfl
 c127:=by kernel_rfl
 c143:=by kernel_rfl
 c145:=by kernel_rfl
 c167:=by kernel_rfl
 c168:=by kernel_rfl
 c171:=by kernel_rfl
 c173:=by kernel_rfl
 c175:=by kernel_rfl
 c210:=by kernel_rfl
 c212:=by kernel_rfl
 c213:=by kernel_rfl
 c232:=by kernel_rfl
 c233:=by kernel_rfl}
open Go.RowKit in
def iC(s:ByteArray)(b:s.size<=9223372036854775806)(a:Int)(c:Lib.parseIntB 64 s.data.toList= .ok a)(w:World):
 Calls prog 138 #[.string s,.int .i64 10,.int .i64 64] w λe w'=>e= .returned (.tuple #[.int .i64 a,.nilIface])∧(w'=w∨∃t,w'=Lib.bytesWorld w 5 t):=Any.strconv_ParseInt_10_at64_ok lA s b a c w
open Go.RowKit in
def gi(s:ByteArray)(f:s.size<=281474976710656)(h:Lib.parseIntB 64 s.data.toList= .range)(a:Value)(w:World)(d:w.cell? ⟨6,0,none⟩=some a)(g:a= .nilIface∨∃b c,a= .iface b c):
 Calls prog 138 #[.string s,.int .i64 10,.int .i64 64] w λe w'=> ∃N,e= .returned (.tuple #[.int .i64 (Lib.intSat 64 s.data.toList),.iface 236 (.pointer (some ⟨N,0,none⟩))])∧w.heap.size<=N∧w'.heap[N]?=some (.cells #[.string ⟨#[80,97,114,115,101,73,110,116]⟩,.string s,a] 274 (0,0))∧zz w w':=Any.strconv_ParseInt_10_at64_range lA s f h a w d g
def sk:Go.Shelf.Ren:=⟨λ|145=>102|220=>136|219=>165|217=>177|225=>199|224=>200|267=>201|266=>213|314=>221|n=>n,λ|9=>9|4=>4|59=>145|3=>3|5=>5|46=>192|146=>281|51=>216|n=>n,λ|1=>4|n=>n⟩
def Ax:Go.Proofs.Lays.n145 prog sk:={
 mixed:=by kernel_rfl
 f145:=func102.trans (zp some (by kernel_rfl))
 f217:=func177.trans (zp some (by kernel_rfl))
 f219:=func165.trans (zp some (by kernel_rfl))
 f220:=func136.trans (zp some (by kernel_rfl))
 f224:=func200.trans (zp some (by kernel_rfl))
 f225:=func199.trans (zp some (by kernel_rfl))
 f266:=func213.trans (zp some (by kernel_rfl))
 f267:=func201.trans (zp some (by kernel_rfl))
 f314:=func221.trans (zp some (by kernel_rfl))
 t3:=underlying3
 a3:=isAgg3
 z3:=sizeOf3
 v3:=zeroValue3
 t4:=underlying4
 a4:=isAgg4
 z4:=sizeOf4
 v4:=zeroValue4
 t5:=underlying5
 a5:=isAgg5
 z5:=sizeOf5
 v5:=zeroValue5
 t9:=underlying9
 a9:=isAgg9
 z9:=sizeOf9
 v9:=zeroValue9
 t46:=underlying192
 a46:=isAgg192
 z46:=sizeOf192
 v46:=zeroValue192
 t51:=underlying216
 a51:=isAgg216
 z51:=sizeOf216
 v51:=zeroValue216
 t59:=underlying145
 a59:=isAgg145
 z59:=sizeOf145
 v59:=zeroValue145
 t146:=underlying281
 a146:=isAgg281
 z146:=sizeOf281
 v146:=zeroValue281
 g1:=by kernel_rfl}
open Go.RowKit Go.Lib in
def sm(s a:ByteArray)(m:Int)(w:World)(b:s.size<4294967281)(c:w.cell? ⟨4,0,none⟩=some (.int .i64 m)):
 Calls prog 102 #[.string s,.string a] w λe w'=>e= .returned (.tuple #[.string ⟨(Lib.cut s.data.toList a.data.toList).1.toArray⟩,.string ⟨(Lib.cut s.data.toList a.data.toList).2.1.toArray⟩,.bool (Lib.cut s.data.toList a.data.toList).2.2])∧∃n,w'=w.drewN n:=Any.strings_Cut Ax s a m w b c
def sg:Go.Shelf.Ren:=⟨λ|146=>105|221=>137|268=>166|138=>167|143=>168|195=>202|197=>203|218=>204|219=>165|260=>222|217=>177|225=>199|224=>200|267=>201|266=>213|314=>221|n=>n,λ|9=>9|31=>23|3=>3|4=>4|0=>0|105=>266|21=>21|5=>5|46=>192|119=>182|139=>298|138=>297|146=>281|51=>216|n=>n,λ|1=>4|3=>11|4=>12|n=>n⟩
def Az:Go.Proofs.Lays.n146 prog sg:={
 mixed:=by kernel_rfl
 f138:=func167.trans (zp some (by kernel_rfl))
 f143:=func168.trans (zp some (by kernel_rfl))
 f146:=func105.trans (zp some (by kernel_rfl))
 f195:=func202.trans (zp some (by kernel_rfl))
 f197:=func203.trans (zp some (by kernel_rfl))
 f217:=func177.trans (zp some (by kernel_rfl))
 f218:=func204.trans (zp some (by kernel_rfl))
 f219:=func165.trans (zp some (by kernel_rfl))
 f221:=func137.trans (zp some (by kernel_rfl))
 f224:=func200.trans (zp some (by kernel_rfl))
 f225:=func199.trans (zp some (by kernel_rfl))
 f260:=func222.trans (zp some (by kernel_rfl))
 f266:=func213.trans (zp some (by kernel_rfl))
 f267:=func201.trans (zp some (by kernel_rfl))
 f268:=func166.trans (zp some (by kernel_rfl))
 f314:=func221.trans (zp some (by kernel_rfl))
 t0:=underlying0
 a0:=isAgg0
 z0:=sizeOf0
 v0:=zeroValue0
 t3:=underlying3
 a3:=isAgg3
 z3:=sizeOf3
 v3:=zeroValue3
 t4:=underlying4
 a4:=isAgg4
 z4:=sizeOf4
 v4:=zeroValue4
 t5:=underlying5
 a5:=isAgg5
 z5:=sizeOf5
 v5:=zeroValue5
 t9:=underlying9
 a9:=isAgg9
 z9:=sizeOf9
 v9:=zeroValue9
 t21:=underlying21
 a21:=isAgg21
 z21:=sizeOf21
 v21:=zeroValue21
 t31:=underlying23
 a31:=isAgg23
 z31:=sizeOf23
 v31:=zeroValue23
 t46:=underlying192
 a46:=isAgg192
 z46:=sizeOf192
 v46:=zeroValue192
 t51:=underlying216
 a51:=isAgg216
 z51:=sizeOf216
 v51:=zeroValue216
 t105:=underlying266
 a105:=isAgg266
 z105:=sizeOf266
 v105:=zeroValue266
 t119:=underlying182
 a119:=isAgg182
 z119:=sizeOf182
 t138:=underlying297
 a138:=isAgg297
 z138:=sizeOf297
 v138:=zeroValue297
 t139:=underlying298
 a139:=isAgg298
 z139:=sizeOf298
 v139:=zeroValue298
 t146:=underlying281
 a146:=isAgg281
 z146:=sizeOf281
 v146:=zeroValue281
 g1:=by kernel_rfl
 g3:=by kernel_rfl
 g4:=by kernel_rfl}
open Go.RowKit Go.Lib in
def pV(s a:ByteArray)(m:Int)(w:World)(b:s.size<4294967281)(c:w.cell? ⟨4,0,none⟩=some (.int .i64 m))(d:1<=a.size):
 Calls prog 105 #[.string s,.string a] w λe w'=>
  e= .returned (.slice (some ⟨w.heap.size,0,none⟩) (Lib.countB s a+1) (Lib.countB s a+1))∧w'=w.alloc (.cells ((Lib.splitB a 0 (Lib.countB s a) s).map Value.string).toArray 9):=Any.strings_Split Az (by kernel_rfl) s a m w b c d
def sh:Go.Shelf.Ren:=⟨λ|157=>100|229=>133|199=>134|261=>160|311=>192|312=>193|n=>n,λ|9=>9|31=>23|3=>3|5=>5|4=>4|119=>182|0=>0|40=>184|152=>213|21=>21|154=>215|51=>216|141=>218|196=>252|193=>249|198=>255|49=>253|194=>250|201=>258|226=>278|46=>192|227=>279|n=>n,λ|0=>0|6=>1|n=>n⟩
def AA:Go.Proofs.Lays.n157 prog sh:={
 mixed:=by kernel_rfl
 f157:=func100.trans (zp some (by kernel_rfl))
 f199:=func134.trans (zp some (by kernel_rfl))
 f229:=func133.trans (zp some (by kernel_rfl))
 f261:=func160.trans (zp some (by kernel_rfl))
 f311:=func192.trans (zp some (by kernel_rfl))
 f312:=func193.trans (zp some (by kernel_rfl))
 t0:=underlying0
 a0:=isAgg0
 z0:=sizeOf0
 v0:=zeroValue0
 t3:=underlying3
 a3:=isAgg3
 z3:=sizeOf3
 v3:=zeroValue3
 t4:=underlying4
 a4:=isAgg4
 z4:=sizeOf4
 v4:=zeroValue4
 t5:=underlying5
 a5:=isAgg5
 z5:=sizeOf5
 v5:=zeroValue5
 t9:=underlying9
 a9:=isAgg9
 z9:=sizeOf9
 v9:=zeroValue9
 t21:=underlying21
 a21:=isAgg21
 z21:=sizeOf21
 v21:=zeroValue21
 t31:=underlying23
 a31:=isAgg23
 z31:=sizeOf23
 v31:=zeroValue23
 t40:=underlying184
 a40:=isAgg184
 z40:=sizeOf184
 v40:=zeroValue184
 t46:=underlying192
 a46:=isAgg192
 z46:=sizeOf192
 v46:=zeroValue192
 t49:=underlying253
 a49:=isAgg253
 z49:=sizeOf253
 v49:=zeroValue253
 t51:=underlying216
 a51:=isAgg216
 z51:=sizeOf216
 v51:=zeroValue216
 t119:=underlying182
 a119:=isAgg182
 z119:=sizeOf182
 t141:=underlying218
 a141:=isAgg218
 z141:=sizeOf218
 v141:=zeroValue218
 t152:=underlying213
 a152:=isAgg213
 z152:=sizeOf213
 v152:=zeroValue213
 t154:=underlying215
 a154:=isAgg215
 z154:=sizeOf215
 v154:=zeroValue215
 t193:=underlying249
 a193:=isAgg249
 z193:=sizeOf249
 v193:=zeroValue249
 t194:=underlying250
 a194:=isAgg250
 z194:=sizeOf250
 v194:=zeroValue250
 t196:=underlying252
 a196:=isAgg252
 z196:=sizeOf252
 v196:=zeroValue252
 t198:=underlying255
 a198:=isAgg255
 z198:=sizeOf255
 v198:=zeroValue255
 t201:=underlying258
 a201:=isAgg258
 z201:=sizeOf258
 v201:=zeroValue258
 t226:=underlying278
 a226:=isAgg278
 z226:=sizeOf278
 v226:=zeroValue278
 t227:=underlying279
 a227:=isAgg279
 z227:=sizeOf279
 v227:=zeroValue279
 g0:=by kernel_rfl
 g6:=by kernel_rfl}
open Go.RowKit Go.Lib in
def oR(s:ByteArray)(w:World)(c:s.size<4294967281)(d:∀(j:Nat) b,s.data.toList[j]?=some b->b.toNat<128)(a:Lib.TabIs prog w "strings.asciiSpace" .u8 Lib.asciiSpaceTab):
 Calls prog 100 #[.string s] w λe w'=>
  e= .returned (.slice (some ⟨w.heap.size,0,none⟩) (Lib.fields s.data.toList).length (Lib.fields s.data.toList).length)∧w'=w.alloc (.cells ((Lib.fields s.data.toList).map λl=>Value.string ⟨l.toArray⟩).toArray 9):=Any.strings_Fields AA (by kernel_rfl) (by kernel_rfl) s w c d a
def sf:Go.Shelf.Ren:=⟨λ|110=>99|109=>132|n=>n,λ|31=>23|9=>9|4=>4|3=>3|0=>0|n=>n,λ|n=>n⟩
def Aw:Go.Proofs.Lays.n110 prog sf:={
 mixed:=by kernel_rfl
 f109:=func132.trans (zp some (by kernel_rfl))
 f110:=func99.trans (zp some (by kernel_rfl))
 t0:=underlying0
 a0:=isAgg0
 z0:=sizeOf0
 v0:=zeroValue0
 t3:=underlying3
 a3:=isAgg3
 z3:=sizeOf3
 v3:=zeroValue3
 t4:=underlying4
 a4:=isAgg4
 z4:=sizeOf4
 v4:=zeroValue4
 t9:=underlying9
 a9:=isAgg9
 z9:=sizeOf9
 v9:=zeroValue9
 t31:=underlying23
 a31:=isAgg23
 z31:=sizeOf23
 v31:=zeroValue23}
open Go.Lib in
def dJ(b d n c:Nat)(a:List ByteArray)(x:ByteArray)(w:World)(f:n<=a.length)(h:n<=9223372036854775807)(g:∀j,j<a.length->w.cell? ⟨b,d+j,none⟩=some (.string (a.getD j ByteArray.empty))):
 Calls prog 99 #[.slice (some ⟨b,d,none⟩) n c,.string x] w λe w'=>e= .returned (.bool (Lib.containsS (a.take n) x))∧w'=w:=Any.slices_Contains_string Aw b d n c a x w f h g
open Go.RowKit Go.Lib in
open Go.RowKit Go.Lib in
open Go.RowKit Go.Lib in
open Go.RowKit Go.Lib in
def pW:Go.Shelf.Ren:=⟨λ|15=>25|n=>n,λ|22=>44|3=>3|4=>4|n=>n,λ|n=>n⟩
def kL:Go.Proofs.Lays2.n15 prog pW:={
 mixed:=by kernel_rfl
 f15:=func25.trans (zp some (by kernel_rfl))
 t3:=underlying3
 a3:=isAgg3
 z3:=sizeOf3
 v3:=zeroValue3
 t4:=underlying4
 a4:=isAgg4
 z4:=sizeOf4
 v4:=zeroValue4
 t22:=underlying44
 a22:=isAgg44
 z22:=sizeOf44
 v22:=zeroValue44
 i3:=by kernel_rfl}
open Go.RowKit Go.Lib in
def mW(b f n c:Nat)(a:List Int)(w:World)(g:n<=a.length)(i:n * 8<=140737488355328)(h:∀j,j<a.length->w.cell? ⟨b,f+j,none⟩=some (.int .i64 (a.getD j 0))):
 Calls prog 25 #[.slice (some ⟨b,f,none⟩) n c] w λe w'=> ∃d,e= .returned d∧w'.ownsRow w.heap.size 3 1 d n ((a.take n).map (Value.int .i64))∧d≠ .slice none 0 0∧zz w w':=Any.slices_Clone_int kL b f n c a w g i h
open Go.RowKit Go.Lib in
def kQ(n c:Nat)(w:World):
 Calls prog 25 #[.slice none n c] w λe w'=>e= .returned (.slice none 0 0)∧w'=w:=Any.slices_Clone_int_nil kL n c w
def pX:Go.Shelf.Ren:=⟨λ|16=>24|n=>n,λ|24=>23|9=>9|4=>4|n=>n,λ|n=>n⟩
def kM:Go.Proofs.Lays2.n16 prog pX:={
 mixed:=by kernel_rfl
 f16:=func24.trans (zp some (by kernel_rfl))
 t4:=underlying4
 a4:=isAgg4
 z4:=sizeOf4
 v4:=zeroValue4
 t9:=underlying9
 a9:=isAgg9
 z9:=sizeOf9
 v9:=zeroValue9
 t24:=underlying23
 a24:=isAgg23
 z24:=sizeOf23
 v24:=zeroValue23
 i9:=by kernel_rfl}
open Go.RowKit Go.Lib in
def lB(b f n c:Nat)(a:List ByteArray)(w:World)(g:n<=a.length)(i:n * 16<=140737488355328)(h:∀j,j<a.length->w.cell? ⟨b,f+j,none⟩=some (.string (a.getD j ByteArray.empty))):
 Calls prog 24 #[.slice (some ⟨b,f,none⟩) n c] w λe w'=> ∃d,e= .returned d∧w'.ownsRow w.heap.size 9 1 d n ((a.take n).map (Value.string))∧d≠ .slice none 0 0∧zz w w':=Any.slices_Clone_string kM b f n c a w g i h
open Go.RowKit Go.Lib in
def ju(n c:Nat)(w:World):
 Calls prog 24 #[.slice none n c] w λe w'=>e= .returned (.slice none 0 0)∧w'=w:=Any.slices_Clone_string_nil kM n c w
open Go.RowKit Go.Lib in
def kK(a:Addr)(c:Nat)(w:World):
 Calls prog 25 #[.slice (some a) 0 c] w λe w'=> ∃b,e= .returned b∧w'.ownsRow w.heap.size 3 1 b 0 []∧b≠ .slice none 0 0∧zz w w':=Any.slices_Clone_int_zero kL a c w
open Go.RowKit Go.Lib in
def jq(a:Addr)(c:Nat)(w:World):
 Calls prog 24 #[.slice (some a) 0 c] w λe w'=> ∃b,e= .returned b∧w'.ownsRow w.heap.size 9 1 b 0 []∧b≠ .slice none 0 0∧zz w w':=Any.slices_Clone_string_zero kM a c w
end
end Go.Proofs
namespace Go.Proofs.YtmecmlpoallpcaaGreatDoor
open Go.Proofs.Tryz
section
open Go.RowKit Go.Proofs.PeepPlain
def ah(w:World)(g:Nat)(t:TypeId)(cs:List Value):Prop:=w.heap[g]?=some (.cells cs.toArray t (0,0))
section
variable{w w':World}{g:Nat}{t:TypeId}{cs:List Value}
def ah.lt(a:ah w g t cs):g<w.heap.size:=(Array.getElem?_eq_some_iff.1 a).1
def ah.cell(a:ah w g t cs)(i:Nat):w.cell? ⟨g,i,none⟩=cs[i]?:=by
 unfold ah at a;simp[World.cell?,a]
def ah.free(a:ah w g t cs)(i:Nat):w.frozen? ⟨g,i,none⟩=false:=by
 unfold ah at a;simp[World.frozen?,a]
def ah.made(w:World)(t:TypeId)(cs:List Value):ah (w.alloc (.cells cs.toArray t)) w.heap.size t cs:=heap_alloc_new w _
def jz(w:World)(o:Obj)(i:Nat)(a:i<w.heap.size):(w.alloc o).heap[i]?=w.heap[i]?:=by
 show(w.heap.push o)[i]?=w.heap[i]?;rw[Array.getElem?_push,zm (Nat.ne_of_lt a)]
def ah.alloc(a:ah w g t cs)(o:Obj):ah (w.alloc o) g t cs:=(jz w o g a.lt).trans a
def ah.drewN(a:ah w g t cs)(n:Nat):ah (w.drewN n) g t cs:=a
def ah.drew(a:ah w g t cs):ah w.drew g t cs:=a
def ah.below{B:Nat}(c:ah w g t cs)(b:Below B w w')(a:g<B):ah w' g t cs:=(b.block g a).trans c
def ah.set(a:ah w g t cs)(i:Nat)(u:Value):ah (w.setCell ⟨g,i,none⟩ u) g t (cs.set i u):=by
 unfold ah at a ⊢
 simp[World.setCell,Array.getElem?_modify,a]
def ah.setFar(b:ah w g t cs){p:Addr}(a:g≠p.block)(u:Value):ah (w.setCell p u) g t cs:=(zY w p g u a).trans b
def ah.turn(b:ah w g t cs)(a:List Value):ah (w.setRow g a.toArray) g t a:=setRow_heap w g _ _ t _ b
def ah.grown{row:Option Nat}(a:ah w g t cs)(c:w.grownBy w' row)(b:some g≠row):ah w' g t cs:=(c.block g a.lt b).trans a
end
def bd(w:World)(d:Option Addr)(cs:List Value):Prop:=
 0<cs.length->∃a b,d=some ⟨a,b,none⟩∧a<w.heap.size∧∀(c:Nat) u,cs[c]?=some u->w.cell? ⟨a,b+c,none⟩=some u
def bd.none_(w:World)(b:Option Addr):bd w b []:=λa=>by simp at a
def bd.below{w w':World}{f:Option Addr}{cs:List Value}{B:Nat}(m:bd w f cs)(d:Below B w w')(l:B=w.heap.size):bd w' f cs:=λj=>by
 obtain⟨e,a,n,c,k⟩:=m j;exact⟨e,a,n,zv c d.size,λb h i=>(d.cell (p:=⟨e,a+b,none⟩) (by rw[l];exact c)).trans (k b h i)⟩
def bd.drewN{w:World}{a:Option Addr}{cs:List Value}(b:bd w a cs)(n:Nat):bd (w.drewN n) a cs:=b
def bd.row{w:World}{g:Nat}{t:TypeId}{cs:List Value}(a:ah w g t cs){b:List Value}(d:∀(j:Nat) u,b[j]?=some u->cs[j]?=some u):bd w (some ⟨g,0,none⟩) b:=λ_=>
 ⟨g,0,rfl,a.lt,λj u c=>by rw[zP,a.cell];exact d j u c⟩
def aZ(i:au):List Value:=[.int .i64 i.op,.int .i64 i.a,.int .i64 i.b,.string i.text,.int .i64 i.pos]
def bV(l:List au):List Value:=l.flatMap aZ
def ix(l m:List au):bV (l++m)=bV l++bV m:=by simp[bV]
def bw(l:List au):(bV l).length=l.length * 5:=by
 induction l with
 |nil=>rfl
 |cons e l ih=>simp only[bV,List.flatMap_cons,zw]at *;rw[ih];simp[aZ];omega
def oM(l:List au):∀u∈bV l,u.oneCell'=true:=by
 intro u a;simp only[bV,List.mem_flatMap,aZ]at a;obtain⟨c,_,b⟩:=a;simp at b;rcases b with rfl|rfl|rfl|rfl|rfl<;>rfl
def lD(l:List au)(i:Nat)(c:i<l.length):(bV l)[i * 5]?=some (.int .i64 l[i].op)∧(bV l)[i * 5+1]?=some (.int .i64 l[i].a)∧(bV l)[i * 5+2]?=some (.int .i64 l[i].b)∧(bV l)[i * 5+3]?=some (.string l[i].text)∧(bV l)[i * 5+4]?=some (.int .i64 l[i].pos):=by
 induction l generalizing i with
 |nil=>simp at c
 |cons e l ih=>
  cases i with
  |zero=>simp[bV,aZ]
  |succ i=>
   have:=ih i (by simpa using c);simp only[bV,List.flatMap_cons]at *
   have d:(aZ e).length=5:=rfl;refine⟨?_,?_,?_,?_,?_⟩
   ·rw[zJ (by omega),show(i+1) * 5 - (aZ e).length=i * 5 by omega];simpa using this.1
   ·rw[zJ (by omega),show(i+1) * 5+1 - (aZ e).length=i * 5+1 by omega];simpa using this.2.1
   ·rw[zJ (by omega),show(i+1) * 5+2 - (aZ e).length=i * 5+2 by omega];simpa using this.2.2.1
   ·rw[zJ (by omega),show(i+1) * 5+3 - (aZ e).length=i * 5+3 by omega];simpa using this.2.2.2.1
   ·rw[zJ (by omega),show(i+1) * 5+4 - (aZ e).length=i * 5+4 by omega];simpa using this.2.2.2.2
def bX(w:World)(a:Option Addr)(l:List au):Prop:=bd w a (bV l)
def bX.at_{w:World}{f:Option Addr}{l:List au}(j:bX w f l)(m:0<l.length):
 ∃b c,f=some ⟨b,c,none⟩∧b<w.heap.size∧∀i,(d:i<l.length)->w.cell? ⟨b,c+i * 5,none⟩=some (.int .i64 l[i].op)∧w.cell? ⟨b,c+i * 5+1,none⟩=some (.int .i64 l[i].a)∧w.cell? ⟨b,c+i * 5+2,none⟩=some (.int .i64 l[i].b)∧w.cell? ⟨b,c+i * 5+3,none⟩=some (.string l[i].text)∧w.cell? ⟨b,c+i * 5+4,none⟩=some (.int .i64 l[i].pos):=by
 obtain⟨b,c,k,h,e⟩:=j (by rw[bw];omega);exact⟨b,c,k,h,λi d=>⟨e _ _ (lD l i d).1,by rw[Nat.add_assoc];exact e _ _ (lD l i d).2.1,by rw[Nat.add_assoc];exact e _ _ (lD l i d).2.2.1,by rw[Nat.add_assoc];exact e _ _ (lD l i d).2.2.2.1,by rw[Nat.add_assoc];exact e _ _ (lD l i d).2.2.2.2⟩⟩
def bX.below{w w':World}{a:Option Addr}{l:List au}(c:bX w a l)(b:zz w w'):bX w' a l:=bd.below c b rfl
def ae{B:Nat}{a w:World}(b:Below B a w)(n:Nat):Below B a (w.drewN n):=⟨b.os,b.tape,b.output,b.size,b.block⟩
def az{B d:Nat}{a b:World}(c:Below B a b)(h:d<=B):Below d a b:=⟨c.os,c.tape,c.output,c.size,λe f=>c.block e (by omega)⟩
def ac{B:Nat}{w a b:World}(e:Below B w a)(d:zz a b)(c:B<=a.heap.size):Below B w b:=e.trans (az d c)
def below1(w:World)(a:Obj):Below w.heap.size w (w.alloc a):=(zZ _ _).alloc (zb _) _
def dq(op:Int)(w:World):Calls prog 88 #[.int .i64 op] w λe w'=>e= .returned (.bool (decide (al op)))∧w'=w:=by
 by_cases f:op=34
 ·subst f;go_enter func88,ntmps88;go_wp2;go_ret;exact⟨rfl,rfl⟩
 ·by_cases d:op=35
  ·subst d;go_enter func88,ntmps88;go_wp2;go_ret;exact⟨rfl,rfl⟩
  ·by_cases c:op=36
   ·subst c;go_enter func88,ntmps88;go_wp2;go_ret;exact⟨rfl,rfl⟩
   ·by_cases b:op=37
    ·subst b;go_enter func88,ntmps88;go_wp2;go_ret;exact⟨rfl,rfl⟩
    ·by_cases a:op=52
     ·subst a;go_enter func88,ntmps88;go_wp2;go_ret;exact⟨rfl,rfl⟩
     ·have i:decide (al op)=false:=zg (by rintro(h|h|h|h|h)<;>contradiction);have n:(op==34)=false:=zh.2 f;have m:(op==35)=false:=zh.2 d;have l:(op==36)=false:=zh.2 c;have k:(op==37)=false:=zh.2 b;have j:(op==52)=false:=zh.2 a;rw[i];clear f d c b a i;go_enter func88,ntmps88;go_wp2;go_ret;exact⟨rfl,rfl⟩
end
section
open Go.RowKit Go.Proofs.PeepPlain
def po(w:World)(g k:Nat)(b:Array Value)(a:k≠g):(w.setRow g b).heap[k]?=w.heap[k]?:=by
 simp[World.setRow,Array.getElem?_modify,Ne.symm a]
def aP{l:Array Oper}{h:List Oper}{o:Oper}{a:Act}{q:Exit->Act->World->Prop}(x f:Operand)(c:TypeId)(g i:Nat)(t:TypeId)(old b:List Value)(d:Value)(w:World)
 (E:o.guard=none)(A:o.op= .store c x f)(s:a.eval x= .pointer (some ⟨g,i,none⟩))(r:a.eval f=d)(v:d.cells=b.toArray)(m:(prog.info? c).map (·.size)=some b.length)
 (I:∀u∈b,u.oneCell'=true)(p:ah w g t old)(F:i+b.length<=old.length)
 (J:∀w',ah w' g t (old.take i++b++old.drop (i+b.length))->(∀B,B<=g->Below B w w')->(∀k,k≠g->w'.heap[k]?=w.heap[k]?)->wpList prog l q h (a.put o.dst undef) w'):wpList prog l q (o::h) a w:=by
 have n:=run_storeCells_at (P:=prog) g i t b 0 old.toArray w p (by simpa using F) I;simp only[Nat.add_zero]at n;have D:=J _ (p.turn (old.take i++b++old.drop (i+b.length))) (λB H=>below_setRow (zZ _ _) H _) (λk C=>po w g k _ C);refine wpList_plain E λ_ G=>?_
 cases e:prog.info? c with
 |none=>simp[e]at m
 |some j=>
  have y:j.size=b.length:=by simpa[e]using m
  have z:(storeVar c ⟨g,i,none⟩ d).run prog w= .ok () (w.setRow g (old.take i++b++old.drop (i+b.length)).toArray):=by
   simp[storeVar,sizeOf,typeInfo,e,y,v];simpa using n
  unfold Oper.wp execOp;simp only[A,s,r,Instr.storeAt,Instr.sureAddr,Sem.run_bind,Sem.run_pure,Result.andThen_ok,z];exact G _ _ D
def cI(a:List Value)(i:Nat)(u:Value)(b:i<a.length):a.take i++ [u]++a.drop (i+1)=a.set i u:=by
 rw[List.set_eq_take_append_cons_drop,zn b];simp
def bX.far{w w':World}{c:Option Addr}{l:List au}{g:Nat}(s:bX w c l)(n:0<l.length->∀a,c=some a->a.block≠g)(m:w.heap.size<=w'.heap.size)(p:∀k,k≠g->w'.heap[k]?=w.heap[k]?):bX w' c l:=λf=>by
 obtain⟨b,d,h,o,q⟩:=s f;have r:=n (by rw[bw]at f;omega) _ h;exact⟨b,d,h,zv o m,λe i j=>(zI (a:=⟨b,d+e,none⟩) (p b r)).trans (q e i j)⟩
def bX.old{w:World}{c:Option Addr}{l:List au}(g:bX w c l):0<l.length->∀a,c=some a->a.block<w.heap.size:=λd a f=>by
 obtain⟨j,i,b,e,_⟩:=g.at_ d;rw[f]at b;have h:=zj b;rw[h];exact e
def Q0:(prog.info? 4).map (λi=>(i.zero,i.size,i.bytes))=some (some (.bool false),1,1):=by kernel_rfl
def oY:(prog.info? 4).map (·.size)=some 1:=by kernel_rfl
def aL(l:List Bool):List Value:=l.map Value.bool
def bx(l:List Bool):(aL l).length=l.length:=by simp[aL]
def eZ(l:List Bool)(k:Nat)(b:Bool):aL (l.set k b)=(aL l).set k (.bool b):=by simp[aL,List.map_set]
def DG(n:Nat):(madeCells (Value.bool false).cells (n * 1)).toList=aL (List.replicate n false):=by
 have:=toList_madeCells_one (.bool false) n;simp only[Nat.mul_one];show(madeCells #[.bool false] n).toList=_;rw[this];simp[aL]
def kz(n:Nat)(g:n<=2000000)(w:World):(Instr.makeSlice 87 (.int .i64 (n:Int)) (.int .i64 (n:Int))).run prog w= .ok (.slice (some ⟨w.heap.size,0,none⟩) n n) (w.alloc (.cells (aL (List.replicate n false)).toArray 4)):=by
 obtain⟨a,e,d,c,b⟩:=info_parts Q0;have f:(a.bytes:Int) * (n:Int)<=281474976710656:=by rw[b];omega
 have:=run_make (P:=prog) w 87 4 a _ underlying87 e d .i64 .i64 n n (by omega) (by omega) f (by omega);rw[<-DG,<-c];simpa using this
noncomputable def iw(l:List au)(k t:Nat):Bool:=by
 classical
 exact decide (∃a,a<k∧al (aq l a)∧bE l a=t)
def gG{l:List au}{k t:Nat}:iw l k t=true↔ ∃j,j<k∧al (aq l j)∧bE l j=t:=by
 unfold iw;simp
def uW{l m:List au}{k b t a:Nat}(e:iw l k t=true↔iw m b a=true):iw l k t=iw m b a:=by
 cases d:iw l k t<;>cases c:iw m b a<;>simp_all
noncomputable def cy(l:List au)(k:Nat):List Bool:=(List.range l.length).map (iw l k)
def cY(l:List au)(k:Nat):(cy l k).length=l.length:=by simp[cy]
def jj{l:List au}{k i:Nat}(a:i<l.length):(cy l k)[i]?=some (iw l k i):=by
 unfold cy;rw[zL,List.getElem?_range a];rfl
def qN(l:List au):cy l 0=List.replicate l.length false:=by
 apply List.ext_getElem?;intro a;by_cases b:a<l.length
 ·rw[jj b,List.getElem?_replicate,zn b]
  cases c:iw l 0 a with
  |false=>rfl
  |true=>
   obtain⟨d,e,_⟩:=gG.1 c;omega
 ·rw[zM (by rw[cY];omega),zM (by simp;omega)]
def nX(l:List au):cy l l.length=dd l:=rfl
def sr{l:List au}{k:Nat}(g:al (aq l k)):(cy l k).set (bE l k) true=cy l (k+1):=by
 apply List.ext_getElem?;intro e;by_cases f:e<l.length
 ·rw[List.getElem?_set,jj f,jj f];by_cases c:bE l k=e
  ·rw[zn c,zn (by rw[cY];omega)];congr 1;exact(gG.2 ⟨k,by omega,g,c⟩).symm
  ·rw[zm c];congr 1;apply uW;rw[gG,gG];constructor
   ·rintro⟨a,i,d,b⟩;exact⟨a,by omega,d,b⟩
   ·rintro⟨a,i,d,b⟩;by_cases h:a=k
    ·subst h;exact absurd b c
    ·exact⟨a,by omega,d,b⟩
 ·rw[zM (by rw[zN,cY];omega),zM (by rw[cY];omega)]
def vy{l:List au}{k:Nat}(f:¬al (aq l k)):cy l k=cy l (k+1):=by
 apply List.ext_getElem?;intro e;by_cases d:e<l.length
 ·rw[jj d,jj d];congr 1;apply uW;rw[gG,gG];constructor
  ·rintro⟨a,h,b,c⟩;exact⟨a,by omega,b,c⟩
  ·rintro⟨a,h,b,c⟩;by_cases g:a=k
   ·subst g;exact absurd b f
   ·exact⟨a,by omega,b,c⟩
 ·rw[zM (by rw[cY];omega),zM (by rw[cY];omega)]
def eG{l:List au}{k:Nat}(a:k<l.length):aq l k=l[k].op:=by
 unfold aq;rw[zd,zo a];rfl
def mT{l:List au}{k:Nat}(b:k<l.length)(c:0<=(l.getD k default).a):l[k].a=(bE l k:Int):=by
 unfold bE;rw[zd,zo b]at *
 simp at *
 omega
set_option maxRecDepth 200000 in
def DY(l:List au)(q:Option Addr)(c:Nat)(w:World)(v:WF l)(o:bX w q l)(R:l.length<=100000):
 Calls prog 57 #[.slice q l.length c] w λe w'=>e= .returned (.slice (some ⟨w.heap.size,0,none⟩) l.length l.length)∧ah w' w.heap.size 4 (aL (dd l))∧zz w w':=by
 have D:=kz l.length (by omega) w;have h:=za o;have x:=za v;have L:=za o.old;clear o v;go_enter func57,ntmps57;go_wp2_with fail;go_loopw [5,11] (λO n m=> ∃a:Nat,n= .int .i64 a∧a<=l.length∧Hid (ah m w.heap.size 4 (aL (cy l a)))∧Hid (bX m q l)∧Hid (zz w m)) (λ_ n _=>l.length - (intOf n).toNat)
 case atStart=>exact⟨0,rfl,zu _,by rw[qN];exact ah.made _ _ _,h.below (below1 w _),below1 w _⟩
 case round=>
  clear h D;rename World=>w2;obtain⟨a,rfl,E,i,h,g⟩:=hrel;by_cases b:a<l.length
  ·obtain⟨ab,P,rfl,W,s⟩:=h.at_ (by omega);obtain⟨aa,J,Z,Y,X⟩:=s a b;have T:(0:Int)<=(a:Int)∧(a:Int)<(l.length:Int):=by omega
   have Q:=g.size;have V:=i.lt;clear s;by_cases f:al l[a].op
   ·have G:decide (al l[a].op)=true:=ze f;have d:al (aq l a):=by rw[eG b];exact f
    have u:=x.low a b d;have k:=mT b u;have U:=x.high a b d;rw[k]at J;have S:(0:Int)<=(bE l a:Int)∧(bE l a:Int)<(l.length:Int):=by omega
    have p:Hid ((aL (cy l a)).set (bE l a) (.bool true)=aL (cy l (a+1))):=za (by rw[<-eZ,sr d]);have y:Hid ((aL (cy l a)).length=l.length):=za (by rw[bx,cY]);clear f d u k;go_wp2_with (first
     |(go_at_call 88;refine(dq _ _).mono ?_;rintro I z ⟨rfl,rfl⟩)
     |(refine aP (.tmp 21) _ 4 w.heap.size (bE l a) 4 (aL (cy l a)) [.bool true] _ _ rfl rfl rfl rfl rfl oY (by simp[Value.oneCell']) (i.alloc _) (by rw[y.out];simp;omega) ?_;intro r B H F))
    have A:ah r w.heap.size 4 (aL (cy l (a+1))):=by rw[<-p.out,<-cI _ _ _ (by rw[y.out];omega)];exact B
    have t:=H w.heap.size (zb _);have M:zz w r:=(g.alloc g.size _).trans t;have N:=(h.below (below1 w2 _)).far (λC K k=>by have:=L.out C K k;omega) t.size F;go_roundw
    case rel=>exact⟨a+1,by go_num,by omega,A,N,M⟩
    case measure=>simp[intOf];omega
   ·have G:decide (al l[a].op)=false:=zg f;have d:¬al (aq l a):=by rw[eG b];exact f
    have p:Hid (cy l a=cy l (a+1)):=za (vy d);clear f d;go_wp2_with (first
     |(go_at_call 88;refine(dq _ _).mono ?_;rintro I z ⟨rfl,rfl⟩))
    go_roundw
    case rel=>exact⟨a+1,by go_num,by omega,by rw[<-p.out];exact i.alloc _,h.below (below1 w2 _),g.alloc g.size _⟩
    case measure=>simp[intOf];omega
  ·obtain rfl:a=l.length:=by omega
   have j:=i.out;rw[nX]at j;replace j:=za j;clear i b E;go_wp2_with fail;go_ret;exact⟨rfl,j.out,g⟩
end
section
open Go.RowKit Go.Proofs.PeepPlain
def aE{w w':World}{B e size n:Nat}{v:Value}{a:List Value}(b:w.ownsRow B e size v n a)(f:∀g,v.ownBlock=some g->w'.heap[g]?=w.heap[g]?):w'.ownsRow B e size v n a:=by
 refine⟨b.1,?_⟩;rcases b.2 with d|⟨g,cap,j,rfl,i,h,c⟩
 ·exact .inl d
 ·exact .inr ⟨g,cap,j,rfl,i,(f g rfl).trans h,c⟩
def lR{w:World}{B:Nat}{e:TypeId}{size n:Nat}{v:Value}{a:List Value}(b:w.ownsRow B e size v n a):∃d c,v= .slice d n c:=by
 rcases b.2 with⟨rfl,rfl⟩|⟨f,cap,g,rfl,_⟩
 ·exact⟨none,0,rfl⟩
 ·exact⟨_,cap,rfl⟩
def mt(w:World)(b:Option Addr)(l:List Int):Prop:=bd w b (l.map λa=> .int .i64 a)
def mP:(prog.info? 3).map (λi=>(i.zero,i.size,i.bytes))=some (some (.int .i64 0),1,8):=by kernel_rfl
def bv(l:List Int):List Value:=l.map λa=>Value.int .i64 a
def jc(l:List Int):(bv l).length=l.length:=by simp[bv]
def eM(a b:List Int):bv (a++b)=bv a++bv b:=by simp[bv]
def qt(l:List Int):∀u∈bv l,u.oneCell'=true:=by simp[bv,Value.oneCell']
def gV(l:List Int)(k:Nat)(n:Int):bv (l.set k n)=(bv l).set k (.int .i64 n):=by simp[bv,List.map_set]
def bm(Bo:Nat)(w:World)(v:Value)(l:List Int):Prop:=w.ownsRow Bo 3 1 v l.length (bv l)
def sG(u v:Value):Prop:=∀a,u.ownBlock=some a->v.ownBlock≠some a
def sG.symm{u v:Value}(c:sG u v):sG v u:=λd b a=>c d a b
section
variable{Bo:Nat}{w w':World}{v u:Value}{l:List Int}
def bm.nil(Bo:Nat)(w:World):bm Bo w (.slice none 0 0) []:=World.ownsRow_nil _ _ _ _
def bm.alloc(a:bm Bo w v l)(o:Obj):bm Bo (w.alloc o) v l:=zX a o
def bm.drewN(a:bm Bo w v l)(n:Nat):bm Bo (w.drewN n) v l:=a
def bm.lt(b:bm Bo w v l){g:Nat}(a:v.ownBlock=some g):Bo<=g∧g<w.heap.size:=zW b g a
def bm.below(a:bm Bo w v l){B:Nat}(c:Below B w w')(e:w.heap.size<=B):bm Bo w' v l:=
 aE a λd b=>c.block d (by have:=a.lt b;omega)
def bm.kept(b:bm Bo w v l)(d:w.grownBy w' u.ownBlock)(e:sG v u):bm Bo w' v l:=
 aE b λc a=>d.block c (b.lt a).2 (λf=>e c a f.symm)
def bm.shape(a:bm Bo w v l):∃b c,v= .slice b l.length c:=lR a
def bm.low(a:bm Bo w v l){B:Nat}(f:B<=Bo):bm B w v l:=by
 refine⟨a.1,?_⟩;rcases a.2 with d|⟨g,cap,h,c,e,b⟩
 ·exact .inl d
 ·exact .inr ⟨g,cap,h,c,zi f e,b⟩
def bm.ints{d:Option Addr}{n c:Nat}(b:bm Bo w (.slice d n c) l):mt w d l:=λh=>by
 have j:0<l.length:=by simpa using h
 rcases b.2 with⟨_,p⟩|⟨a,cap,q,f,o,i,k,m,_⟩
 ·omega
 ·injection f with h1 h2 h3;subst h1 h2 h3;refine⟨a,0,rfl,(Array.getElem?_eq_some_iff.1 i).1,λe u g=>?_⟩;have:=World.ownsRow.cells b (g:=a) rfl e u g;rw[Addr.add_lit]at this;exact this
def bm.addr{a:Option Addr}{n c:Nat}(f:bm Bo w (.slice a n c) l)(h:0<l.length):∃g,a=some ⟨g,0,none⟩∧n=l.length∧n<=c∧c<=maxLen:=by
 rcases f.2 with⟨_,k⟩|⟨g,cap,m,b,j,i,d,e,_⟩
 ·omega
 ·injection b with h1 h2 h3;subst h1 h2 h3;exact⟨g,rfl,rfl,d,e⟩
def bm.none_{n c:Nat}(d:bm Bo w (.slice none n c) l):l=[]∧n=0∧c=0:=by
 rcases d.2 with⟨a,b⟩|⟨e,cap,f,a,_⟩
 ·injection a with h1 h2 h3;exact⟨zD b,h2,h3⟩
 ·injection a with h1 _ _
  cases h1
end
def mt.below{w w':World}{a:Option Addr}{l:List Int}(c:mt w a l)(b:zz w w'):mt w' a l:=bd.below c b rfl
def mt.low{w w':World}{b:Option Addr}{l:List Int}{B:Nat}(n:mt w b l)(m:∀a,b=some a->a.block<B)(e:Below B w w'):mt w' b l:=λi=>by
 obtain⟨g,c,f,j,k⟩:=n i;have:=m _ f;exact⟨g,c,f,zv j e.size,λd u h=>(e.cell (p:=⟨g,c+d,none⟩) this).trans (k d u h)⟩
def mt.at_{w:World}{d:Option Addr}{l:List Int}(h:mt w d l)(e:0<l.length):∃b a,d=some ⟨b,a,none⟩∧b<w.heap.size∧∀(j:Nat) (c:j<l.length),w.cell? ⟨b,a+j,none⟩=some (.int .i64 l[j]):=by
 obtain⟨b,a,i,f,g⟩:=h (by simpa using e);exact⟨b,a,i,f,λj c=>g j _ (by simp[c])⟩
def qR{i:Array Oper}{h:List Oper}{o:Oper}{a:Act}{t:Exit->Act->World->Prop}(s x:Operand)(Bo:Nat)(v:Value)(l:List Int)(n:Int)(w:World)(r:Array Value)
 (K:o.guard=none)(I:o.op= .call {callee:= .builtin .append,args:= #[s,x],argTypes:= #[44,44]})
 (G:a.eval s=v)(j:bm Bo w v l)(L:r= #[.int .i64 n])(E:a.eval x= .slice (some ⟨w.heap.size,0,none⟩) 1 1)
 (P:l.length<=2000000)(M:Bo<=w.heap.size)
 (N:∀e w',bm Bo w' e (l++ [n])->Below Bo w w'->(∀u f g,bm g w u f->sG u v->bm g w' u f∧sG u e)->wpList prog i t h (a.put o.dst e) w'):wpList prog i t (o::h) a (w.alloc (.cells r 3)):=by
 subst L;obtain⟨B,J,C,F,D⟩:=info_parts mP;refine wpList_append_lies (w.alloc (.cells #[.int .i64 n] 3)) K s x 44 I Bo 3 B (.int .i64 0) 1 8 underlying44 J C F D rfl (by decide) v l.length (bv l) G (zX j _) ⟨w.heap.size,0,none⟩ 1 1 [.int .i64 n] E (by simp) ?_ (by simp[Value.oneCell']) (by omega) (by simp only[maxLen];omega) (by omega) (by simp;omega) _ rfl ?_
 ·intro A u c;have:=(ah.made w 3 [.int .i64 n]).cell A;rw[Addr.add_lit,zP,this];exact c
 ·intro Q cap y H m b O;refine N _ y ?_ ?_ ?_
  ·show World.ownsRow _ _ _ _ _ _ _;rw[zw,eM];exact H
  ·exact((zZ Bo w).alloc M _).grown m (by simp;omega) (λz d=>(j.lt d).1)
  ·intro u f g c p;refine⟨(c.alloc _).kept m p,λz d q=>?_⟩;have k:=(c.lt d).2;simp only[Value.ownBlock,Option.some.injEq]at q;subst q;rcases b with b|b
   ·exact p _ d b
   ·rw[b]at k;simp at k;omega
def bm.stored{Bo:Nat}{w:World}{g c:Nat}{l:List Int}{a:Nat}(b:bm Bo w (.slice (some ⟨g,0,none⟩) a c) l)(k:Nat)(n:Int):
 bm Bo (w.setCell ⟨g,k,none⟩ (.int .i64 n)) (.slice (some ⟨g,0,none⟩) a c) (l.set k n)∧(Below Bo w (w.setCell ⟨g,k,none⟩ (.int .i64 n)))∧(∀u m B,bm B w u m->sG u (.slice (some ⟨g,0,none⟩) a c)->bm B (w.setCell ⟨g,k,none⟩ (.int .i64 n)) u m):=by
 have e:a=l.length:=by
  obtain⟨q,o,j⟩:=b.shape;injection j
 subst e;obtain⟨i,h⟩:=World.ownsRow.stored b k (.int .i64 n);refine⟨?_,?_,λu m B d f=>bm.kept (u:= .slice (some ⟨g,0,none⟩) l.length c) d h f⟩
 ·show World.ownsRow _ _ _ _ _ _ _;rw[zN,gV];exact i
 ·exact Below.setCell (p:=⟨g,k,none⟩) (zZ _ _) (show Bo<=g from(b.lt (g:=g) rfl).1) _
def bm.cell{Bo:Nat}{w:World}{g c a:Nat}{l:List Int}(d:bm Bo w (.slice (some ⟨g,0,none⟩) a c) l)(k:Nat)(b:k<l.length):w.cell? ⟨g,k,none⟩=some (.int .i64 l[k]):=by
 have:=World.ownsRow.cells d (g:=g) rfl k (.int .i64 l[k]) (by simp[bv,b]);rw[Addr.add_lit,zP]at this;exact this
def bm.free{Bo:Nat}{w:World}{g c a:Nat}{l:List Int}(b:bm Bo w (.slice (some ⟨g,0,none⟩) a c) l)(k:Nat):w.frozen? ⟨g,k,none⟩=false:=by
 have d:a=l.length:=by
  obtain⟨h,f,e⟩:=b.shape;injection e
 subst d;exact World.ownsRow.frozenAt b k
def fX(n:Int)(k:Nat)(l:List Int):List Int:=List.replicate k n++l.drop k
def Ce(n:Int)(l:List Int):fX n 0 l=l:=by simp[fX]
def vT(n:Int)(k:Nat)(l:List Int)(a:k<=l.length):(fX n k l).length=l.length:=by simp[fX];omega
def E3(n:Int)(l:List Int):fX n l.length l=List.replicate l.length n:=by simp[fX]
def DL(n:Int)(k:Nat)(l:List Int)(a:k<l.length):(fX n k l).set k n=fX n (k+1) l:=by
 unfold fX;rw[List.set_append_right _ _ (by simp),List.length_replicate,Nat.sub_self,List.drop_eq_getElem_cons a,List.set_cons_zero,List.replicate_succ'];simp
def bm.shrink{Bo:Nat}{w:World}{g c:Nat}{l:List Int}{n:Int}{b:Nat}(o:bm Bo w (.slice (some ⟨g,0,none⟩) b c) (l++ [n])):bm Bo w (.slice (some ⟨g,0,none⟩) l.length c) l:=by
 obtain⟨s,m⟩:=o;rw[zw,eM]at *
 refine⟨by rw[jc];omega,?_⟩;rcases m with⟨a,t⟩|⟨p,cap,r,a,k,h,f,j,i,d⟩
 ·injection a with e _ _
  cases e
 ·injection a with e1 e2 e3;subst e3;have q:g=p:=by have:=zj e1;injection this
  subst q;refine .inr ⟨g,c,r,rfl,k,h,by simp at f;omega,j,i,?_⟩;have:=zp (List.take l.length) d;rw[List.take_take]at this;simp only[zK,Nat.mul_one]at this ⊢
  rw[Nat.min_eq_left (by omega)]at this;rw[this,List.take_left' (jc l)]
end
section
open Go.RowKit Go.Proofs.PeepPlain
structure qj(l:List au)(is:List Bool)(todo:List Int):Prop where
 len:is.length=l.length
 here:∀k,is.getD k false=true->PeepPlain.ko l k
 want:∀t∈todo,∃k:Nat,t=(k:Int)∧PeepPlain.ko l k
 zero:is.getD 0 false=true∨(0:Int)∈todo
 next:∀k,k<l.length->is.getD k false=true->aq l k≠34->aq l k≠50->is.getD (k+1) false=true∨((k+1:Nat):Int)∈todo
 toA:∀k,k<l.length->is.getD k false=true->al (aq l k)->is.getD (bE l k) false=true∨((bE l k:Nat):Int)∈todo
 few:3 * is.count false+todo.length<=3 * l.length+1
def uJ(l:List au):qj l (List.replicate l.length false) [0]where
 len:=by simp
 here:=λb a=>by rw[cW]at a;cases a
 want:=λd c=>by simp at c;exact⟨0,by simp[c],.zero⟩
 zero:= .inr (by simp)
 next:=λb _ a=>by rw[cW]at a;cases a
 toA:=λb _ a=>by rw[cW]at a;cases a
 few:=by simp
def JX{t k:Int}{b:List Int}(a:t∈b++ [k]):t=k∨t∈b:=by
 rcases List.mem_append.1 a with a|a
 ·exact .inr a
 ·exact .inl (by simpa using a)
def wP{l:List au}{is:List Bool}{d:List Int}{k:Nat}(S:qj l is (d++ [(k:Int)]))(n:is.getD k false=true):qj l is d:=by
 have e:∀b:Nat,is.getD b false=true∨(b:Int)∈d++ [(k:Int)]->is.getD b false=true∨(b:Int)∈d:=λb j=>by
  rcases j with a|a
  ·exact .inl a
  ·rcases JX a with o|c
   ·have:b=k:=by omega
    subst this;exact .inl n
   ·exact .inr c
 exact⟨S.len,S.here,λh i=>S.want h (by simp[i]),e 0 S.zero,λf a c g m=>e _ (S.next f a c g m),λf a c g=>e _ (S.toA f a c g),by have:=S.few;simp at this;omega⟩
def count_set{is:List Bool}{k:Nat}(a:k<is.length)(c:is.getD k false=false):(is.set k true).count false+1=is.count false:=by
 induction is generalizing k with
 |nil=>simp at a
 |cons b r ih=>
  cases k with
  |zero=>
   have:b=false:=by simpa using c
   subst this;simp
  |succ k=>
   have:=ih (k:=k) (by simpa using a) (by simpa using c);simp only[List.set_cons_succ,List.count_cons];omega
def eB(l:List au)(k:Nat):List Int:=(if aq l k≠34∧aq l k≠50 then [((k+1:Nat):Int)]else [])++(if al (aq l k)then [((bE l k:Nat):Int)]else [])
def vJ(l:List au)(k:Nat):(eB l k).length<=2:=by
 unfold eB;split<;>split<;>simp
def CP{l:List au}{is:List Bool}{h:List Int}{k:Nat}(S:qj l is (h++ [(k:Int)]))(n:k<l.length)(u:is.getD k false=false):qj l (is.set k true) (h++eB l k):=by
 have m:PeepPlain.ko l k:=by
  obtain⟨d,v,t⟩:=S.want k (by simp);have:k=d:=by omega
  subst this;exact t
 have f:k<is.length:=by rw[S.len];exact n
 have mono:∀b,is.getD b false=true->(is.set k true).getD b false=true:=λb g=>(bZ f b).2 (.inr g);have r:(is.set k true).getD k false=true:=(bZ f k).2 (.inl rfl);have j:∀b:Nat,is.getD b false=true∨(b:Int)∈h++ [(k:Int)]->(is.set k true).getD b false=true∨(b:Int)∈h++eB l k:=λb g=>by
  rcases g with c|c
  ·exact .inl (mono b c)
  ·rcases JX c with v|a
   ·have:b=k:=by omega
    subst this;exact .inl r
   ·exact .inr (by simp[a])
 refine⟨by simp[S.len],λb g=>?_,λq s=>?_,j 0 S.zero,λd c a e p=>?_,λd c a e=>?_,?_⟩
 ·rcases(bZ f b).1 g with rfl|c
  ·exact m
  ·exact S.here b c
 ·rcases List.mem_append.1 s with c|c
  ·exact S.want q (by simp[c])
  ·unfold eB at c;rcases List.mem_append.1 c with a|a
   ·split at a
    ·rename_i i;simp only[List.mem_singleton]at a;exact⟨k+1,a,.next m n i.1 i.2⟩
    ·simp at a
   ·split at a
    ·rename_i i;simp only[List.mem_singleton]at a;exact⟨bE l k,a,.toA m n i⟩
    ·simp at a
 ·rcases(bZ f d).1 a with rfl|o
  ·refine .inr (List.mem_append.2 (.inr ?_));unfold eB;rw[zn ⟨e,p⟩];simp
  ·exact j _ (S.next d c o e p)
 ·rcases(bZ f d).1 a with rfl|o
  ·refine .inr (List.mem_append.2 (.inr ?_));unfold eB;rw[zn e];simp
  ·exact j _ (S.toA d c o e)
 ·have c:=count_set f u;have a:=vJ l k;have e:=S.few;simp only[zw,zK]at e ⊢
  omega
def KP{l:List au}{is:List Bool}(b:WF l)(S:qj l is [])(k:Nat):is.getD k false=true↔PeepPlain.ko l k:=by
 refine⟨S.here k,λa=>?_⟩
 induction a with
 |zero=>exact S.zero.resolve_right (by simp)
 |next _ h1 h2 h3 ih=>exact(S.next _ h1 ih h2 h3).resolve_right (by simp)
 |toA _ h1 h2 ih=>exact(S.toA _ h1 ih h2).resolve_right (by simp)
noncomputable def ei(l:List au):List Bool:=by
 classical
 exact(List.range l.length).map λa=>decide (PeepPlain.ko l a)
def pI{l:List au}{k:Nat}(a:k<l.length):(ei l).getD k false=true↔PeepPlain.ko l k:=by
 unfold ei;rw[zd,zL,List.getElem?_range a];simp
def xj{l:List au}{is:List Bool}(g:WF l)(S:qj l is []):is=ei l:=by
 apply List.ext_getElem
 ·rw[S.len];simp[ei]
 ·intro a b d;have c:a<l.length:=by rw[<-S.len];exact b
  have f:is.getD a false=is[a]:=by rw[zd,zo b];rfl
  have e:(ei l).getD a false=(ei l)[a]:=by rw[zd,zo d];rfl
  rw[<-f,<-e];have:=(KP g S a).trans (pI c).symm
  cases i:is.getD a false<;>cases h:(ei l).getD a false<;>simp_all
def QQ:Value->Bool
 | .bool false=>true
 |_=>false
def MC(w:World)(g:Nat):Nat:=match w.heap[g]? with
 |some (.cells cs _ _)=>cs.toList.countP QQ
 |_=>0
def gd{w:World}{g:Nat}{is:List Bool}(a:ah w g 4 (aL is)):MC w g=is.count false:=by
 unfold ah at a;unfold MC;rw[a];show(aL is).countP QQ=_;unfold aL;clear a
 induction is with
 |nil=>rfl
 |cons b r ih=>
  simp only[List.map_cons,List.countP_cons,List.count_cons];rw[ih]
  cases b<;>rfl
def jw:Value->Nat
 | .slice _ n _=>n
 |_=>0
end
section
open Go.RowKit Go.Proofs.PeepPlain
def jE{w:World}{g k:Nat}{is:List Bool}(b:ah w g 4 (aL is))(a:k<is.length):w.cell? ⟨g,k,none⟩=some (.bool (is.getD k false)):=by
 rw[b.cell];unfold aL;rw[zL,zo a,zd,zo a];rfl
def yR(w:World)(n:Int):bm w.heap.size (w.alloc (.cells #[.int .i64 n] 3)) (.slice (some ⟨w.heap.size,0,none⟩) 1 1) [n]:=
 World.ownsRow_lit w #[.int .i64 n] 1 (zb _) (by simp[maxLen]) (by simp)
def xq{l:List au}{is:List Bool}{a:List Int}{x:Int}(S:qj l is (a++ [x]))(d:WF l):∃k:Nat,x=(k:Int)∧k<l.length:=by
 obtain⟨k,c,b⟩:=S.want x (by simp);exact⟨k,c,nY d b⟩
def AF{l:List Int}(c:0<l.length):∃b x,l=b++ [x]:=by
 have a:l≠ []:=List.length_pos_iff.1 c;exact⟨l.dropLast,l.getLast a,(List.dropLast_concat_getLast a).symm⟩
def bX.lowB{w w':World}{b:Option Addr}{l:List au}{B:Nat}(o:bX w b l)(k:0<l.length->∀a,b=some a->a.block<B)(f:Below B w w'):bX w' b l:=λe=>by
 obtain⟨h,c,g,m,n⟩:=o e;have:=k (by rw[bw]at e;omega) _ g;exact⟨h,c,g,zv m f.size,λd i j=>(f.cell (p:=⟨h,c+d,none⟩) this).trans (n d i j)⟩
def jC{d:Nat}{w:World}{a:Value}{l:List Int}(b:bm d w a l):jw a=l.length:=by
 obtain⟨f,e,c⟩:=b.shape;rw[c];rfl
def nG{g a n c s:Nat}(b:(Value.slice (some ⟨g,0,none⟩) n c).ownBlock=some a)(d:s+1<=g):a≠s:=by
 have e:g=a:=by injection b
 omega
def Ii{l:List au}{k:Nat}(a:aq l k=34):eB l k=[((bE l k:Nat):Int)]:=by
 unfold eB;rw[zm (by rintro⟨b,_⟩;exact b a),zn (.inl a)];rfl
def GM{l:List au}{k:Nat}(a:aq l k=50):eB l k=[]:=by
 unfold eB;rw[zm (by rintro⟨_,b⟩;exact b a),zm (by rw[a];rintro(a|a|a|a|a)<;>omega)];rfl
def Bv{l:List au}{k:Nat}(c:aq l k≠34)(b:aq l k≠50)(a:al (aq l k)):eB l k=[((k+1:Nat):Int),((bE l k:Nat):Int)]:=by
 unfold eB;rw[zn ⟨c,b⟩,zn a];rfl
def C9{l:List au}{k:Nat}(c:aq l k≠34)(b:aq l k≠50)(a:¬al (aq l k)):eB l k=[((k+1:Nat):Int)]:=by
 unfold eB;rw[zn ⟨c,b⟩,zm a];rfl
set_option maxRecDepth 200000 in
def xR(l:List au)(b1:Option Addr)(c:Nat)(w:World)(b8:WF l)(bj:bX w b1 l)(cp:l.length<=100000):
 Calls prog 54 #[.slice b1 l.length c] w λe w'=>e= .returned (.slice (some ⟨w.heap.size,0,none⟩) l.length l.length)∧ah w' w.heap.size 4 (aL (ei l))∧zz w w':=by
 have cd:=kz l.length (by omega) w;have y:=za bj;have a3:=za b8;have x:=za bj.old;clear bj b8;go_enter func54,ntmps54;go_wp2_with fail;go_loopw [4,5,6] (λa9 cj ci O=> ∃(is:List Bool) (Y:List Int),Hid (bm (w.heap.size+1) O a9 Y)∧Hid (ah O w.heap.size 4 (aL is))∧Hid (qj l is Y)∧Hid (bX O b1 l)∧Hid (zz w O)) (λa9 _ _ O=>3 * MC O w.heap.size+jw a9)
 case atStart=>exact⟨_,[0],za (by have:=yR (w.alloc (.cells (aL (List.replicate l.length false)).toArray 4)) 0;simpa using this),za ((ah.made w 4 (aL (List.replicate l.length false))).alloc _),uJ l,(y.below (below1 w _)).below (below1 _ _),(below1 w _).alloc (by simp) _⟩
 case round=>
  clear y cd;rename World=>w2;obtain⟨is,Y,V,H,W,y,X⟩:=hrel;obtain⟨c1,af,rfl⟩:=V.shape;by_cases bl:0<Y.length
  ·obtain⟨g,ck,rfl⟩:=AF bl;obtain⟨a,rfl,C⟩:=xq W.out a3.out;obtain⟨v,rfl,cf,b4,ct⟩:=V.addr bl;have ba:(g++ [(a:Int)]).length=g.length+1:=by simp
   have b5:=W.few;have be:=V.cell g.length (by omega);rw[List.getElem_append_right (zb _)]at be;simp only[Nat.sub_self,List.getElem_cons_zero]at be;have B:=za V.shrink;have D:=za (V.lt (g:=v) rfl).1;have R:a<is.length:=by rw[W.len];exact C
   have b7:=jE H.out R;have cs:(0:Int)<=(a:Int)∧(a:Int)<(l.length:Int):=by omega
   rw[ba];rw[ba]at b4;obtain⟨m,ar⟩:∃m,m=g.length:=⟨_,rfl⟩
   rw[<-ar]at be b4 ⊢
   have t:(0:Int)<=(m:Int)∧(m:Int)<((m+1:Nat):Int):=by omega
   have cc:wrap64 (((m+1:Nat):Int) - 1)=(m:Int):=by
    unfold wrap64;omega
   have co:wrap64 (m:Int)=(m:Int):=by
    unfold wrap64;omega
   have a4:=za ar;have a6:Hid (g.length<=1000000):=za (by simp only[zw,zK]at b5;omega);have b3:Hid (bm (w.heap.size+1) w2 (.slice (some ⟨v,0,none⟩) m af) g):=za (by rw[ar];exact B);have av:=za (V.lt (g:=v) rfl).2;clear B;have B:=b3;clear b3 ar b5 ba cf cc;by_cases Z:is.getD a false=true
   ·rw[Z]at b7;have U:=za (wP W.out Z);clear Z;go_wp2_with fail;go_roundw
    case rel=>exact⟨is,g,B,H,U,y,X⟩
    case measure=>simp[jw]
   ·have bc:is.getD a false=false:=by simpa using Z
    rw[bc]at b7;have U:=za (CP W.out C bc);have a0:=za (count_set R bc);have ap:Hid ((aL is).set a (.bool true)=aL (is.set a true)):=za (by rw[eZ]);have a5:=za (gd H.out);obtain⟨b,q,rfl,cC,b6⟩:=y.at_ (by omega);obtain⟨an,T,_,_,_⟩:=b6 a C;have cv:b<w.heap.size:=x.out (by omega) _ rfl;have E:b≠w.heap.size:=by omega
    clear b6 Z;obtain⟨r,Q⟩:∃r,r=l[a].op:=⟨_,rfl⟩
    have n:aq l a=r:=by rw[eG C,Q]
    rw[<-Q]at an;by_cases A:r=34
    ·have t:al (aq l a):=by rw[n,A];exact .inl rfl
     have f:=mT C (a3.low a C t);rw[f]at T;have L:=za (Ii (n.trans A));subst A;have bi:decide (al 34)=true:=by decide
     clear Q n t f;go_wp2_with (first
      |(refine aP (.tmp 31) _ 4 w.heap.size a 4 (aL is) [.bool true] _ _ rfl rfl rfl rfl rfl oY (by simp[Value.oneCell']) H.out (by rw[bx];simp;omega) ?_;intro i I k h
        have ad:=(zI (a:=⟨b,q+a * 5,none⟩) (h b E)).trans an;have ab:=(zI (a:=⟨b,q+a * 5+1,none⟩) (h b E)).trans T;have G:Hid (bm (w.heap.size+1) i (.slice (some ⟨v,0,none⟩) m af) g):=za (aE B.out λK s=>h K (nG s D.out));have F:Hid (ah i w.heap.size 4 (aL (is.set a true))):=za (by rw[<-ap.out,<-cI _ _ _ (by rw[bx];exact R)];exact I);have M:=za (X.trans (k w.heap.size (zb _)));have N:=za (y.far (λj d f=>by have:=x.out j d f;omega) (k w.heap.size (zb _)).size h);have z:w.heap.size+1<=i.heap.size:=zi (by have:=D.out;have:=av.out;omega) (k w.heap.size (zb _)).size)
      |(go_at_call 88;refine(dq _ _).mono ?_;rintro bo a7 ⟨rfl,rfl⟩)
      |(at_builtin;refine qR (.tmp 54) (.tmp 60) (w.heap.size+1) _ g _ _ _ rfl rfl rfl G.out rfl rfl (by have:=a6.out;omega) z ?_;intro ca b9 aa J _
        have ao:=za (F.below J (Nat.lt_succ_self _));have bp:=za (M.trans (az J (zE _)));have bt:=za (N.lowB (λj d f=>Nat.lt_succ_of_lt (x.out j d f)) J)))
     go_roundw
     case rel=>exact⟨is.set a true,g++eB l a,by rw[L.out];exact za aa,ao,U,bt,bp⟩
     case measure=>
      rw[a5.out,gd ao.out];have u:=jC aa;simp only[zw,zK]at u;simp only[show ∀d b c,jw (.slice d b c)=b from λ_ _ _=>rfl]at u ⊢
      have bk:=a0.out;have s:=a4.out;omega
    ·by_cases P:r=50
     ·have L:=za (GM (n.trans P));subst P;have bi:decide (al 50)=false:=by decide
      clear Q n A;go_wp2_with (first
      |(refine aP (.tmp 31) _ 4 w.heap.size a 4 (aL is) [.bool true] _ _ rfl rfl rfl rfl rfl oY (by simp[Value.oneCell']) H.out (by rw[bx];simp;omega) ?_;intro i I k h
        have ad:=(zI (a:=⟨b,q+a * 5,none⟩) (h b E)).trans an;have ab:=(zI (a:=⟨b,q+a * 5+1,none⟩) (h b E)).trans T;have G:Hid (bm (w.heap.size+1) i (.slice (some ⟨v,0,none⟩) m af) g):=za (aE B.out λK s=>h K (nG s D.out));have F:Hid (ah i w.heap.size 4 (aL (is.set a true))):=za (by rw[<-ap.out,<-cI _ _ _ (by rw[bx];exact R)];exact I);have M:=za (X.trans (k w.heap.size (zb _)));have N:=za (y.far (λj d f=>by have:=x.out j d f;omega) (k w.heap.size (zb _)).size h);have z:w.heap.size+1<=i.heap.size:=zi (by have:=D.out;have:=av.out;omega) (k w.heap.size (zb _)).size)
      |(go_at_call 88;refine(dq _ _).mono ?_;rintro bo a7 ⟨rfl,rfl⟩))
      go_roundw
      case rel=>exact⟨is.set a true,g++eB l a,by rw[L.out,List.append_nil];exact G,F,U,N,M⟩
      case measure=>
       rw[a5.out,gd F.out];have u:=jC G.out;simp only[show ∀d b c,jw (.slice d b c)=b from λ_ _ _=>rfl]at u ⊢
       have bk:=a0.out;have s:=a4.out;omega
     ·have c0:(r==34)=false:=zh.2 A;have cT:(r==50)=false:=zh.2 P;have cn:(r !=34)=true:=zO.2 A;have cl:(r !=50)=true:=zO.2 P;by_cases t:al r
      ·have S:al (aq l a):=by rw[n];exact t
       have f:=mT C (a3.low a C S);rw[f]at T;have L:=za (Bv (by rw[n];exact A) (by rw[n];exact P) S);have bi:decide (al r)=true:=ze t;clear Q n t S f;go_wp2_with (first
      |(refine aP (.tmp 31) _ 4 w.heap.size a 4 (aL is) [.bool true] _ _ rfl rfl rfl rfl rfl oY (by simp[Value.oneCell']) H.out (by rw[bx];simp;omega) ?_;intro i I k h
        have ad:=(zI (a:=⟨b,q+a * 5,none⟩) (h b E)).trans an;have ab:=(zI (a:=⟨b,q+a * 5+1,none⟩) (h b E)).trans T;have G:Hid (bm (w.heap.size+1) i (.slice (some ⟨v,0,none⟩) m af) g):=za (aE B.out λK s=>h K (nG s D.out));have F:Hid (ah i w.heap.size 4 (aL (is.set a true))):=za (by rw[<-ap.out,<-cI _ _ _ (by rw[bx];exact R)];exact I);have M:=za (X.trans (k w.heap.size (zb _)));have N:=za (y.far (λj d f=>by have:=x.out j d f;omega) (k w.heap.size (zb _)).size h);have z:w.heap.size+1<=i.heap.size:=zi (by have:=D.out;have:=av.out;omega) (k w.heap.size (zb _)).size)
      |(go_at_call 88;refine(dq _ _).mono ?_;rintro bo a7 ⟨rfl,rfl⟩)
      |(at_builtin;refine qR (.tmp 43) (.tmp 46) (w.heap.size+1) _ g ((a+1:Nat):Int) _ _ rfl rfl rfl G.out (by simp) rfl (by have:=a6.out;omega) z ?_;intro cb a8 bb o _
        have a2:=za bb;have a1:=za (F.below o (Nat.lt_succ_self _));have bq:=za (M.trans (az o (zE _)));have b0:=za (N.lowB (λj d f=>Nat.lt_succ_of_lt (x.out j d f)) o);have ch:=(o.cell (p:=⟨b,q+a * 5,none⟩) (show b<w.heap.size+1 by omega)).trans ad;have cg:=(o.cell (p:=⟨b,q+a * 5+1,none⟩) (show b<w.heap.size+1 by omega)).trans ab;have b2:w.heap.size+1<=a8.heap.size:=zi z o.size)
         |(at_builtin;refine qR (.tmp 54) (.tmp 60) (w.heap.size+1) _ (g++ [((a+1:Nat):Int)]) _ _ _ rfl rfl rfl a2.out rfl rfl (by rw[zw,zK];have:=a6.out;omega) b2 ?_;intro ca b9 aa J _
           have ao:=za (a1.below J (Nat.lt_succ_self _));have bp:=za (bq.trans (az J (zE _)));have bt:=za (b0.lowB (λj d f=>Nat.lt_succ_of_lt (x.out j d f)) J)))
       go_roundw
       case rel=>exact⟨is.set a true,g++eB l a,by rw[L.out];exact za (by simpa using aa),ao,U,bt,bp⟩
       case measure=>
        rw[a5.out,gd ao.out];have u:=jC aa;simp only[zw,zK]at u;simp only[show ∀d b c,jw (.slice d b c)=b from λ_ _ _=>rfl]at u ⊢
        have bk:=a0.out;have s:=a4.out;omega
      ·have S:¬al (aq l a):=by rw[n];exact t
       have L:=za (C9 (by rw[n];exact A) (by rw[n];exact P) S);have bi:decide (al r)=false:=zg t;clear Q n t S;go_wp2_with (first
      |(refine aP (.tmp 31) _ 4 w.heap.size a 4 (aL is) [.bool true] _ _ rfl rfl rfl rfl rfl oY (by simp[Value.oneCell']) H.out (by rw[bx];simp;omega) ?_;intro i I k h
        have ad:=(zI (a:=⟨b,q+a * 5,none⟩) (h b E)).trans an;have ab:=(zI (a:=⟨b,q+a * 5+1,none⟩) (h b E)).trans T;have G:Hid (bm (w.heap.size+1) i (.slice (some ⟨v,0,none⟩) m af) g):=za (aE B.out λK s=>h K (nG s D.out));have F:Hid (ah i w.heap.size 4 (aL (is.set a true))):=za (by rw[<-ap.out,<-cI _ _ _ (by rw[bx];exact R)];exact I);have M:=za (X.trans (k w.heap.size (zb _)));have N:=za (y.far (λj d f=>by have:=x.out j d f;omega) (k w.heap.size (zb _)).size h);have z:w.heap.size+1<=i.heap.size:=zi (by have:=D.out;have:=av.out;omega) (k w.heap.size (zb _)).size)
      |(go_at_call 88;refine(dq _ _).mono ?_;rintro bo a7 ⟨rfl,rfl⟩)
      |(at_builtin;refine qR (.tmp 43) (.tmp 46) (w.heap.size+1) _ g ((a+1:Nat):Int) _ _ rfl rfl rfl G.out (by simp) rfl (by have:=a6.out;omega) z ?_;intro cb a8 bb o _
        have a2:=za bb;have a1:=za (F.below o (Nat.lt_succ_self _));have bq:=za (M.trans (az o (zE _)));have b0:=za (N.lowB (λj d f=>Nat.lt_succ_of_lt (x.out j d f)) o);have ch:=(o.cell (p:=⟨b,q+a * 5,none⟩) (show b<w.heap.size+1 by omega)).trans ad;have cg:=(o.cell (p:=⟨b,q+a * 5+1,none⟩) (show b<w.heap.size+1 by omega)).trans ab;have b2:w.heap.size+1<=a8.heap.size:=zi z o.size))
       go_roundw
       case rel=>exact⟨is.set a true,g++eB l a,by rw[L.out];exact a2,a1,U,b0,bq⟩
       case measure=>
        rw[a5.out,gd a1.out];have u:=jC a2.out;simp only[zw,zK]at u;simp only[show ∀d b c,jw (.slice d b c)=b from λ_ _ _=>rfl]at u ⊢
        have bk:=a0.out;have s:=a4.out;omega
  ·obtain rfl:Y=[]:=zD (by omega);clear bl;have e:=xj a3.out W.out;subst e;go_wp2_with fail;go_ret;exact⟨rfl,H.out,X⟩
end
section
open Go.RowKit Go.Proofs.PeepPlain
def aK(w:World)(g c:Nat)(l:List au):Prop:=∃a,ah w g 50 (bV l++a)∧l.length<=c∧c<=maxLen∧(bV l++a).length=c * 5
def Ke:(prog.info? 50).map (·.size)=some 5:=by kernel_rfl
def Hl(l:List au)(k:Nat)(x:au)(b:k<l.length):bV (l.set k x)=(bV l).take (k * 5)++aZ x++(bV l).drop (k * 5+5):=by
 induction l generalizing k with
 |nil=>simp at b
 |cons e l ih=>
  cases k with
  |zero=>
   simp only[List.set_cons_zero,bV,List.flatMap_cons,Nat.zero_mul,List.take_zero,List.nil_append,zP];rw[show List.drop 5 (aZ e++List.flatMap aZ l)=List.flatMap aZ l from rfl]
  |succ k=>
   have:=ih k (by simpa using b);simp only[bV,List.set_cons_succ,List.flatMap_cons]at *
   rw[this];have a:(aZ e).length=5:=rfl;rw[show(k+1) * 5=5+k * 5 by omega,show 5+k * 5+5=5+(k * 5+5) by omega];rw[show List.take (5+k * 5) (aZ e++List.flatMap aZ l)=aZ e++List.take (k * 5) (List.flatMap aZ l) by rw[List.take_append,List.take_of_length_le (by rw[a];omega),a,Nat.add_sub_cancel_left]];rw[show List.drop (5+(k * 5+5)) (aZ e++List.flatMap aZ l)=List.drop (k * 5+5) (List.flatMap aZ l) by rw[show 5+(k * 5+5)=(aZ e).length+(k * 5+5) by rw[a],List.drop_append];simp];simp
section
variable{w w':World}{g c:Nat}{l:List au}
def aK.lt(a:aK w g c l):g<w.heap.size:=by obtain⟨b,a,_⟩:=a;exact a.lt
def aK.cap(d:aK w g c l):l.length<=c∧c<=maxLen:=by obtain⟨e,_,b,a,_⟩:=d;exact⟨b,a⟩
def aK.at_(d:aK w g c l){i:Nat}(e:i<l.length):w.cell? ⟨g,i * 5,none⟩=some (.int .i64 l[i].op)∧w.cell? ⟨g,i * 5+1,none⟩=some (.int .i64 l[i].a)∧w.cell? ⟨g,i * 5+2,none⟩=some (.int .i64 l[i].b)∧w.cell? ⟨g,i * 5+3,none⟩=some (.string l[i].text)∧w.cell? ⟨g,i * 5+4,none⟩=some (.int .i64 l[i].pos):=by
 obtain⟨f,d,_⟩:=d;obtain⟨o,n,m,k,j⟩:=lD l i e;have h:=bw l;refine⟨?_,?_,?_,?_,?_⟩<;>rw[d.cell,zS (by omega)]<;>assumption
def aK.insAt(a:aK w g c l):bX w (some ⟨g,0,none⟩) l:=by
 obtain⟨e,a,_⟩:=a;exact bd.row a λf d b=>by
  have:=(zB.1 b).1;rw[zS this];exact b
def aK.below{B:Nat}(a:aK w g c l)(e:Below B w w')(d:g<B):aK w' g c l:=by
 obtain⟨b,a,f⟩:=a;exact⟨b,a.below e d,f⟩
def aK.old(a:aK w g c l)(b:zz w w'):aK w' g c l:=a.below b a.lt
def aK.alloc(a:aK w g c l)(o:Obj):aK (w.alloc o) g c l:=by
 obtain⟨b,a,d⟩:=a;exact⟨b,a.alloc o,d⟩
def aK.far(a:aK w g c l)(d:w'.heap[g]?=w.heap[g]?):aK w' g c l:=by
 obtain⟨b,a,e⟩:=a;exact⟨b,d.trans a,e⟩
def aK.frozen(a:aK w g c l)(i:Nat):w.frozen? ⟨g,i,none⟩=false:=by obtain⟨b,a,_⟩:=a;exact a.free i
def aK.set_(a:aK w g c l){k:Nat}(e:k<l.length)(x:au):∃old,ah w g 50 old∧k * 5+5<=old.length∧∀w',ah w' g 50 (old.take (k * 5)++aZ x++old.drop (k * 5+5))->aK w' g c (l.set k x):=by
 obtain⟨d,a,h,f,j⟩:=a;have i:=bw l;refine⟨_,a,by simp;omega,λw' b=>⟨d,?_,by simpa using h,f,?_⟩⟩
 ·rw[Hl l k x e];rw[List.take_append_of_le_length (by omega),List.drop_append_of_le_length (by omega)]at b;simpa using b
 ·have:=bw (l.set k x);simp only[zw,zN]at *
  omega
def aK.setA(n:aK w g c l){k:Nat}(i:k<l.length)(a:Int):∃old,ah w g 50 old∧k * 5+1+1<=old.length∧∀w',ah w' g 50 (old.take (k * 5+1)++ [.int .i64 a]++old.drop (k * 5+1+1))->aK w' g c (l.set k {l[k]with a:=a}):=by
 obtain⟨old,j,v,t⟩:=n.set_ i {l[k]with a:=a};refine⟨old,j,by omega,λw' m=>t w' ?_⟩;obtain⟨r,u,q,p,o⟩:=n.at_ i;rw[j.cell]at r u q p o;have f:∀(b:Nat) (d:Value),old[b]?=some d->old.take (b+1)=old.take b++ [d]:=λb d e=>by
  rw[List.take_add_one,e];rfl
 have h:∀(b:Nat) (d:Value),old[b]?=some d->old.drop b=d::old.drop (b+1):=λb d e=>by
  obtain⟨s,f⟩:=zB.1 e;rw[List.drop_eq_getElem_cons s,f]
 rw[f _ _ r,h _ _ q,h _ _ p,h _ _ o]at m;simpa[aZ]using m
def aK.putA(f:aK w g c l){k:Nat}(b:k<l.length)(a:Int):aK (w.setCell ⟨g,k * 5+1,none⟩ (.int .i64 a)) g c (l.set k {l[k]with a:=a}):=by
 obtain⟨old,e,i,d⟩:=f.setA b a;have h:old.take (k * 5+1)++ [.int .i64 a]++old.drop (k * 5+1+1)=old.set (k * 5+1) (.int .i64 a):=cI old (k * 5+1) (.int .i64 a) (by omega);exact d _ (by rw[h];exact e.set _ _)
def aK.ofOwns{B n:Nat}(k:w.ownsRow B 50 5 (.slice (some ⟨g,0,none⟩) n c) l.length (bV l)):aK w g c l∧B<=g∧n=l.length:=by
 rcases k.2 with⟨j,_⟩|⟨m,cap,p,b,i,e,d,h,f,a⟩
 ·cases j
 ·injection b with e1 e2 e3;subst e3;have o:g=m:=by have:=zj e1;injection this
  subst o;refine⟨⟨p.toList.drop (l.length * 5),?_,d,h,?_⟩,i,e2⟩
  ·rw[<-a,List.take_append_drop];exact e
  ·rw[<-a,List.take_append_drop];simpa using f
def iz{l:List au}{k:Nat}(a:k<l.length):l.getD k default=l[k]:=by
 rw[zd,zo a];rfl
end
def cV(l:List au)(k t:Nat):List au:=(eI l k).set k {l.getD k default with a:=(t:Int)}
def eE(l:List au)(k t:Nat):(cV l k t).length=l.length:=by simp[cV,bA]
def kV{l:List au}{k t j:Nat}(f:k<l.length)(d:j<l.length):(cV l k t).getD j default=if k=j then {l.getD k default with a:=(t:Int)} else(eI l k).getD j default:=by
 unfold cV;rw[bf];by_cases b:k=j
 ·rw[zn b,zn ⟨b,by rw[bA];exact d⟩]
 ·rw[zm b,zm (λe=>b e.1)]
def wj{l:List au}{k:Nat}(i:WF l)(b:k<l.length)(d:al (aq l k)):cV l k (bE l k)=eI l k:=by
 have e:=i.low k b d;have h:{l.getD k default with a:=((bE l k:Nat):Int)}=l.getD k default:=Cx e rfl;unfold cV;rw[h];apply List.ext_getElem?;intro j;rw[List.getElem?_set];split
 ·rename_i f;subst f;rw[zn (by rw[bA];exact b)];have:=eA l k k b;rw[zm (Nat.lt_irrefl _)]at this;rw[<-this,zd,zo (by rw[bA];exact b)];rfl
 ·rfl
def Cc{l m:List au}(f:l.length=m.length)(d:∀j,j<l.length->l.getD j default=m.getD j default):l=m:=by
 apply List.ext_getElem f;intro b a e;have:=d b a;rw[iz a,iz e]at this;exact this
def Cf{l:List au}{k t:Nat}(m:WF l)(i:k<l.length)(j:al (aq l k))(h:aq l t≠34)(d:PeepPlain.el l t=PeepPlain.el l (bE l k)):cV l k t=eI l (k+1):=by
 apply Cc (by rw[eE,bA]);intro a b;rw[eE]at b;rw[kV i b,eA l (k+1) a b];by_cases f:k=a
 ·subst f;rw[zn rfl,zn (by omega)];unfold gn;rw[zn (show al (l.getD k default).op from j)];rw[fD h]at d;rw[d];rfl
 ·rw[zm f,eA l k a b];by_cases e:a<k
  ·rw[zn e,zn (by omega)]
  ·rw[zm e,zm (by omega)]
def Do{l:List au}{k:Nat}(h:k<l.length)(e:¬al (aq l k)):eI l k=eI l (k+1):=by
 apply Cc (by rw[bA,bA]);intro a b;rw[bA]at b;rw[eA l k a b,eA l (k+1) a b];by_cases f:k=a
 ·subst f;rw[zm (by omega),zn (by omega)];unfold gn;rw[zm (show ¬al (l.getD k default).op from e)]
 ·by_cases d:a<k
  ·rw[zn d,zn (by omega)]
  ·rw[zm d,zm (by omega)]
structure Bz(l:List au)(k t:Nat):Prop where
 lt:t<l.length
 same:PeepPlain.el l t=PeepPlain.el l (bE l k)
 back:t<=k->jr (aq l t)
def BE{l:List au}{k:Nat}(d:WF l)(a:k<l.length)(b:al (aq l k)):Bz l k (bE l k):=⟨d.high k a b,rfl,d.back k a b⟩
def uo{l:List au}{k t:Nat}(d:WF l)(b:Bz l k t)(f:aq l t=34):k<t∧Bz l k (bE l t)∧(aq l (bE l t)=34->t<bE l t):=by
 have e:al (aq l t):= .inl f;have i:k<t:=by
  rcases Nat.lt_or_ge k t with a|a
  ·exact a
  ·exact absurd f (iL (b.back a))
 refine⟨i,⟨d.high t b.lt e,?_,λa=>d.back t b.lt e (by omega)⟩,λa=>?_⟩
 ·rw[<-b.same];exact(CW d b.lt f).symm
 ·rcases Nat.lt_or_ge t (bE l t)with h|h
  ·exact h
  ·exact absurd a (iL (d.back t b.lt e h))
def Rb(l:List au)(t:Nat):Nat:=if aq l t=34 then l.length - t+1 else 0
def J0{l:List au}{k t:Nat}(h:WF l)(f:Bz l k t)(a:aq l t=34):Rb l (bE l t)<Rb l t:=by
 obtain⟨_,e,d⟩:=uo h f a;unfold Rb;rw[zn a];split
 ·rename_i b;have:=d b;have:=e.lt;omega
 ·omega
def py{l:List au}{k t j:Nat}(a:k<l.length)(b:j<l.length):aq (cV l k t) j=aq l j:=by
 show((cV l k t).getD j default).op=_;rw[kV a b];split
 ·rename_i d;subst d;rfl
 ·exact fU l k j
def uH{l:List au}{k t j:Nat}(b:k<l.length)(a:j<l.length)(d:k<j):(cV l k t).getD j default=l.getD j default:=by
 rw[kV b a,zm (by omega),eA l k j a,zm (by omega)]
def pB{l:List au}{k t:Nat}(b:k<l.length):(cV l k t).getD k default={l.getD k default with a:=(t:Int)}:=by
 rw[kV b b,zn rfl]
def BC{l:List au}{k t u:Nat}{x:au}(d:k<l.length)(b:x=(cV l k t).getD k default):(cV l k t).set k {x with a:=(u:Int)}=cV l k u:=by
 subst b;rw[pB d];unfold cV;rw[List.set_set]
end
section
open Go.RowKit Go.Proofs.PeepPlain
def ya(w:World)(g k:Nat):Nat:=match w.cell? ⟨g,k * 5+1,none⟩with
 |some (.int .i64 a)=>a.toNat
 |_=>0
def He{w:World}{g k:Nat}{a:Int}(b:w.cell? ⟨g,k * 5+1,none⟩=some (.int .i64 a)):ya w g k=a.toNat:=by
 unfold ya;rw[b]
def jG{w:World}{g c k t:Nat}{l:List au}(b:k<l.length)(e:aK w g c (cV l k t)):ya w g k=t:=by
 have a:k<(cV l k t).length:=by rw[eE];exact b
 have d:=(e.at_ a).2.1;rw[<-iz a,pB b]at d;have:=He d;rw[this];simp
set_option maxRecDepth 200000 in
def yr(l:List au)(g c B:Nat)(w:World)(T:WF l)(n:aK w g c l)(ar:l.length<=100000)(Q:B<=g):
 Calls prog 53 #[.slice (some ⟨g,0,none⟩) l.length c] w λe w'=>e= .returned (.tuple #[])∧aK w' g c (PeepPlain.threads l)∧Below B w w':=by
 have f:=za n;have r:=za T;have u:=za Q;have D:=za n.lt;clear n T Q;go_enter func53,ntmps53;go_wp2_with fail;go_loopw [2,3,6] (λK af E j=> ∃b:Nat,E= .int .i64 b∧b<=l.length∧Hid (aK j g c (eI l b))∧Hid (Below B w j)) (λ_ _ E _=>l.length - (intOf E).toNat)
 case atStart=>exact⟨0,rfl,zu _,by rw[Da];exact f,zZ _ _⟩
 case round=>
  clear f;rename World=>w2;obtain⟨b,rfl,Y,f,i⟩:=hrel;by_cases h:b<l.length
  ·have av:(0:Int)<=(b:Int)∧(b:Int)<(l.length:Int):=by omega
   by_cases k:al (aq l b)
   ·have a7:=za k;go_wp2_with fail;go_loopw [3] (λK j=> ∃d:Nat,Hid (aK j g c (cV l b d))∧Hid (Bz l b d)∧Hid (Below B w j)) (λ_ j=>Rb l (ya j g b))
    case atStart=>exact⟨bE l b,by rw[wj r.out h k];exact f,BE r.out h k,i⟩
    case round=>
     clear f i;rename World=>w3;obtain⟨d,f,C,i⟩:=hrel;have y:b<(cV l b d).length:=by rw[eE];exact h
     have q:=C.lt;have M:d<(cV l b d).length:=by rw[eE];exact q
     obtain⟨F,S,_,_,_⟩:=f.at_ y;obtain⟨R,ab,a5,a4,a3⟩:=f.at_ M;rw[<-eG,py h h]at F;rw[<-iz y,pB h]at S;rw[<-eG,py h q]at R;simp only at S;have Z:decide (al (aq l b))=true:=ze k;have ap:(0:Int)<=(d:Int)∧(d:Int)<(l.length:Int):=by omega
     have I:=za (jG h f.out);have a1:=f.lt;have a0:g≠w3.heap.size:=by omega
     by_cases m:aq l d=34
     ·obtain⟨N,x,_⟩:=uo r.out C.out m;have H:=za x;have G:=za (J0 r.out C.out m);have L:=x.lt;have ao:(0:Int)<=(bE l d:Int)∧(bE l d:Int)<(l.length:Int):=by omega
      have P:(cV l b d)[d].a=(bE l d:Int):=by
       rw[<-iz M,uH h q N];exact(iz q) ▸ mT q (r.low d q (.inl m))
      rw[P]at ab;rw[m]at R;have U:bE l d<(cV l b d).length:=by rw[eE];exact L
      obtain⟨A,_,_,_,_⟩:=f.at_ U;rw[<-eG,py h L]at A;have a2:=f.frozen (b * 5+1);have s:Hid (aK (w3.setCell ⟨g,b * 5+1,none⟩ (.int .i64 (bE l d:Int))) g c (cV l b (bE l d))):=za (by
       have:=f.putA y (bE l d:Int);rwa [<-iz y,BC h rfl]at this)
      have J:Hid (Below B w (w3.setCell ⟨g,b * 5+1,none⟩ (.int .i64 (bE l d:Int)))):=za (Below.setCell (p:=⟨g,b * 5+1,none⟩) i.out u.out _);have o:=za i.size;have X:¬aq l d=34->False:=λaa=>aa m;have O:=x.back;clear m x P N X k;by_cases W:bE l d<=b
      ·have V:(bE l d:Int)<=(b:Int):=by omega
       rcases O W with t|t
       ·rw[t]at A;clear t;go_wp2_with (first
         |(go_at_call 88;refine(dq _ _).mono ?_;rintro z v ⟨rfl,rfl⟩))
        go_roundw
        case rel=>exact⟨bE l d,s.alloc _,H,J.alloc (by have:=o.out;have:=u.out;have:=D.out;simp;omega) _⟩
        case measure=>rw[I.out,jG h (s.alloc _)];exact G
       ·rw[t]at A;clear t;go_wp2_with (first
         |(go_at_call 88;refine(dq _ _).mono ?_;rintro z v ⟨rfl,rfl⟩))
        go_roundw
        case rel=>exact⟨bE l d,s.alloc _,H,J.alloc (by have:=o.out;have:=u.out;have:=D.out;simp;omega) _⟩
        case measure=>rw[I.out,jG h (s.alloc _)];exact G
      ·have V:¬(bE l d:Int)<=(b:Int):=by omega
       clear O A;go_wp2_with (first
        |(go_at_call 88;refine(dq _ _).mono ?_;rintro z v ⟨rfl,rfl⟩))
       go_roundw
       case rel=>exact⟨bE l d,s.alloc _,H,J.alloc (by have:=o.out;have:=u.out;have:=D.out;simp;omega) _⟩
       case measure=>rw[I.out,jG h (s.alloc _)];exact G
     ·have a6:(aq l d==34)=false:=zh.2 m;have an:(aq l d !=34)=true:=zO.2 m;have ad:=za (Cf r.out h k m C.same);have o:=za i.size;clear k;go_wp2_with (first
       |(go_at_call 88;refine(dq _ _).mono ?_;rintro z v ⟨rfl,rfl⟩))
      go_roundw
      case rel=>exact⟨b+1,by go_num,by omega,by rw[<-ad.out];exact f.alloc _,i.alloc (by have:=o.out;have:=u.out;have:=D.out;omega) _⟩
      case measure=>simp[intOf];omega
   ·go_wp2_with fail;go_loopw [3] (λK j=>Hid (aK j g c (eI l b))∧Hid (Below B w j)) (λ_ _=>0)
    case atStart=>exact⟨f,i⟩
    case round=>
     clear f i;rename World=>w3;obtain⟨f,i⟩:=hrel;obtain⟨F,_,_,_,_⟩:=f.at_ (show b<(eI l b).length by rw[bA];exact h);rw[<-eG,fU]at F;have Z:decide (al (aq l b))=false:=zg k;have o:=za (Do h k);clear k;go_wp2_with (first
      |(go_at_call 88;refine(dq _ _).mono ?_;rintro z v ⟨rfl,rfl⟩))
     go_roundw
     case rel=>exact⟨b+1,by go_num,by omega,by rw[<-o.out];exact f,i⟩
     case measure=>simp[intOf];omega
  ·obtain rfl:b=l.length:=by omega
   have n:=f.out;rw[iP]at n;replace n:=za n;clear f h Y;go_wp2_with fail;go_end0;exact⟨rfl,n.out,i⟩
end
section
open Go.RowKit Go.Proofs.PeepPlain
def nN:(prog.info? 50).map (λi=>(i.zero,i.size,i.bytes))=some (some (.agg #[.int .i64 0,.int .i64 0,.int .i64 0,.string ⟨#[]⟩,.int .i64 0]),5,48):=by kernel_rfl
def gB(Bo:Nat)(w:World)(v:Value)(l:List au):Prop:=w.ownsRow Bo 50 5 v l.length (bV l)
section
variable{Bo:Nat}{w w':World}{v u:Value}{l:List au}
def gB.nil(Bo:Nat)(w:World):gB Bo w (.slice none 0 0) []:=World.ownsRow_nil _ _ _ _
def gB.alloc(a:gB Bo w v l)(o:Obj):gB Bo (w.alloc o) v l:=zX a o
def gB.lt(b:gB Bo w v l){g:Nat}(a:v.ownBlock=some g):Bo<=g∧g<w.heap.size:=zW b g a
def gB.below(a:gB Bo w v l){B:Nat}(c:Below B w w')(e:w.heap.size<=B):gB Bo w' v l:=
 aE a λd b=>c.block d (by have:=a.lt b;omega)
def gB.shape(a:gB Bo w v l):∃b c,v= .slice b l.length c:=lR a
def gB.low(a:gB Bo w v l){B:Nat}(f:B<=Bo):gB B w v l:=by
 refine⟨a.1,?_⟩;rcases a.2 with d|⟨g,cap,h,c,e,b⟩
 ·exact .inl d
 ·exact .inr ⟨g,cap,h,c,zi f e,b⟩
def gB.row(a:gB Bo w v l)(b:0<l.length):∃g c,v= .slice (some ⟨g,0,none⟩) l.length c∧Bo<=g∧aK w g c l:=by
 obtain⟨g,c,rfl,d,_⟩:=World.ownsRow.form a b;obtain⟨e,f,_⟩:=aK.ofOwns a;exact⟨g,c,rfl,d,e⟩
def gB.insAt{b:Option Addr}{n c:Nat}(f:gB Bo w (.slice b n c) l):bX w b l:=λa=>by
 have e:0<l.length:=by rw[bw]at a;omega
 obtain⟨h,i,g,_,d⟩:=f.row e;injection g with e1 e2 e3;subst e1;exact d.insAt a
end
def Ok{d:Array Oper}{c:List Oper}{o:Oper}{a:Act}{g:Exit->Act->World->Prop}(s x:Operand)(Bo:Nat)(v:Value)(l:List au)(i:au)(w:World)(f:Array Value)
 (C:o.guard=none)(z:o.op= .call {callee:= .builtin .append,args:= #[s,x],argTypes:= #[45,45]})
 (t:a.eval s=v)(e:gB Bo w v l)(E:f=(aZ i).toArray)(H:Nat)(p:a.eval x= .slice (some ⟨H,0,none⟩) 1 1)(G:w.heap.size=H)
 (M:l.length<=2000000)(F:Bo<=w.heap.size)
 (I:∀b w',gB Bo w' b (l++ [i])->Below Bo w w'->wpList prog d g c (a.put o.dst b) w'):wpList prog d g (o::c) a (w.alloc (.cells f 50)):=by
 subst E G;obtain⟨k,B,m,r,n⟩:=info_parts nN;refine wpList_append_lies (w.alloc (.cells (aZ i).toArray 50)) C s x 45 z Bo 50 k _ 5 48 underlying45 B m r n rfl (by decide) v l.length (bV l) t (zX e _) ⟨w.heap.size,0,none⟩ 1 1 (aZ i) p rfl ?_ (by simp[aZ,Value.oneCell']) (by omega) (by simp only[maxLen];omega) (by omega) (by simp;omega) _ rfl ?_
 ·intro j u q;have:=(ah.made w 50 (aZ i)).cell j;rw[Addr.add_lit,zP,this];exact q
 ·intro O cap h y D N L;refine I _ h ?_ ?_
  ·show World.ownsRow _ _ _ _ _ _ _;rw[zw,ix];have J:bV [i]=aZ i:=by simp[bV]
   rw[J];exact y
  ·exact((zZ Bo w).alloc F _).grown D (by simp;omega) (λK A=>(e.lt A).1)
def GT(n:Nat):(madeCells (Value.int .i64 0).cells (n * 1)).toList=bv (List.replicate n 0):=by
 have:=toList_madeCells_one (.int .i64 0) n;simp only[Nat.mul_one];show(madeCells #[.int .i64 0] n).toList=_;rw[this];simp[bv]
def rN(n:Nat)(g:n<=2000000)(w:World):(Instr.makeSlice 44 (.int .i64 (n:Int)) (.int .i64 (n:Int))).run prog w= .ok (.slice (some ⟨w.heap.size,0,none⟩) n n) (w.alloc (.cells (bv (List.replicate n 0)).toArray 3)):=by
 obtain⟨a,e,d,c,b⟩:=info_parts mP;have f:(a.bytes:Int) * (n:Int)<=281474976710656:=by rw[b];omega
 have:=run_make (P:=prog) w 44 3 a _ underlying44 e d .i64 .i64 n n (by omega) (by omega) f (by omega);rw[<-GT,<-c];simpa using this
def yB{w:World}{g k:Nat}{is:List Int}(b:ah w g 3 (bv is))(a:k<is.length):w.cell? ⟨g,k,none⟩=some (.int .i64 is[k]):=by
 rw[b.cell];unfold bv;rw[zL,zo a];rfl
def DB(out:List Bool)(k N:Nat):List Int:=(List.range N).map λa=>if a<k then(bH out a:Int)else 0
def mE(out:List Bool)(k N:Nat):(DB out k N).length=N:=by simp[DB]
def yt(out:List Bool)(k N j:Nat)(a:j<(DB out k N).length):(DB out k N)[j]=if j<k then(bH out j:Int)else 0:=by simp[DB]
def Kd(out:List Bool)(N:Nat):DB out 0 N=List.replicate N 0:=by
 unfold DB;apply List.ext_getElem
 ·simp
 ·intro a c b;simp
def Gc(out:List Bool)(k N:Nat):(DB out k N).set k (bH out k:Int)=DB out (k+1) N:=by
 apply List.ext_getElem
 ·simp[mE]
 ·intro a e d;rw[List.getElem_set,yt,yt];by_cases c:k=a
  ·subst c;rw[zn rfl,zn (by omega)]
  ·rw[zm c];by_cases b:a<k
   ·rw[zn b,zn (by omega)]
   ·rw[zm b,zm (by omega)]
def f7(l:List au)(out:List Bool)(k:Nat):List au:=(kept out k).map λa=>moved out (l.getD a default)
def CU(l:List au)(out:List Bool):f7 l out 0=[]:=rfl
def DH(l:List au)(out:List Bool):f7 l out l.length=eq l out:=rfl
def Dv{l:List au}{out:List Bool}{k:Nat}(a:out.getD k true=true):f7 l out (k+1)=f7 l out k:=by
 unfold f7;rw[lG,zn a,List.append_nil]
def Jx{l:List au}{out:List Bool}{k:Nat}(a:out.getD k true=false):f7 l out (k+1)=f7 l out k++ [moved out (l.getD k default)]:=by
 unfold f7;rw[lG,zm (by rw[a];decide),List.map_append];rfl
def vR(l:List au)(out:List Bool)(k:Nat):(f7 l out k).length=bH out k:=by simp[f7,bH]
end
section
open Go.RowKit Go.Proofs.PeepPlain
def FK{w:World}{g k:Nat}{is:List Bool}(b:ah w g 4 (aL is))(a:k<is.length):w.cell? ⟨g,k,none⟩=some (.bool (is.getD k true)):=by
 rw[b.cell];unfold aL;rw[zL,zo a,zd,zo a];rfl
def De(out:List Bool)(k:Nat):bH out k<=k:=by
 unfold bH kept;have:=List.length_filter_le (λk=>!out.getD k true) (List.range k);rwa [List.length_range]at this
set_option maxRecDepth 200000 in
def qz(l:List au)(out:List Bool)(V:Option Addr)(c t an:Nat)(w:World)(Q:WF l)(I:bX w V l)(H:ah w t 4 (aL out))(a7:out.length=l.length)(a8:l.length<=100000):
 Calls prog 56 #[.slice V l.length c,.slice (some ⟨t,0,none⟩) l.length an] w λe w'=> ∃g,e= .returned g∧gB w.heap.size w' g (PeepPlain.eq l out)∧zz w w':=by
 have aa:(Instr.makeSlice 44 (.int .i64 ((l.length:Int)+1)) (.int .i64 ((l.length:Int)+1))).run prog w= .ok (.slice (some ⟨w.heap.size,0,none⟩) (l.length+1) (l.length+1)) (w.alloc (.cells (bv (List.replicate (l.length+1) 0)).toArray 3)):=rN (l.length+1) (by omega) w;have a4:wrap64 ((l.length:Int)+1)=(l.length:Int)+1:=by
  unfold wrap64;omega
 have av:=za I;have R:=za Q;have S:=za H;have ar:=za I.old;have u:=za H.lt;clear I Q H;go_enter func56,ntmps56;go_wp2_with fail;go_loopw [6,7,17] (λX a2 g r=> ∃b:Nat,g= .int .i64 b∧X= .int .i64 (bH out b:Int)∧b<=l.length∧Hid (ah r w.heap.size 3 (bv (DB out b (l.length+1))))∧Hid (zz w r)) (λ_ _ g _=>l.length - (intOf g).toNat)
 case atStart=>exact⟨0,rfl,rfl,zu _,by rw[Kd];exact ah.made _ _ _,below1 w _⟩
 case round=>
  clear aa;rename World=>w2;obtain⟨b,rfl,rfl,C,j,d⟩:=hrel;by_cases f:b<l.length
  ·have ab:(0:Int)<=(b:Int)∧(b:Int)<(l.length:Int):=by omega
   have M:(0:Int)<=(b:Int)∧(b:Int)<((l.length+1:Nat):Int):=by omega
   have s:=FK (S.below d.out u.out) (show b<out.length by omega);have N:=j.free b;have v:=yB j.out (show b<(DB out b (l.length+1)).length by rw[mE];omega);have D:=j.lt;have o:Hid (ah (w2.setCell ⟨w.heap.size,b,none⟩ (.int .i64 (bH out b:Int))) w.heap.size 3 (bv (DB out (b+1) (l.length+1)))):=za (by
    rw[<-Gc,gV];exact j.out.set _ _)
   have ba:t≠w.heap.size:=by have:=u.out;omega
   have q:Hid (Below w.heap.size w (w2.setCell ⟨w.heap.size,b,none⟩ (.int .i64 (bH out b:Int)))):=za (Below.setCell (p:=⟨w.heap.size,b,none⟩) d.out (zb _) _)
   cases h:out.getD b true with
   |true=>
    rw[h]at s;have x:=za (fJ h);go_wp2_with fail;go_roundw
    case rel=>exact⟨b+1,by go_num,by rw[x.out],by omega,o,q⟩
    case measure=>simp[intOf];omega
   |false=>
    rw[h]at s;have x:=za (fb h);have Z:=De out b;go_wp2_with fail;go_roundw
    case rel=>exact⟨b+1,by go_num,by rw[x.out];go_num,by omega,o,q⟩
    case measure=>simp[intOf];omega
  ·obtain rfl:b=l.length:=by omega
   clear f C;have M:(0:Int)<=(l.length:Int)∧(l.length:Int)<((l.length+1:Nat):Int):=by omega
   have N:=j.free l.length;have v:=yB j.out (show l.length<(DB out l.length (l.length+1)).length by rw[mE];omega);have D:=j.lt;have o:Hid (ah (w2.setCell ⟨w.heap.size,l.length,none⟩ (.int .i64 (bH out l.length:Int))) w.heap.size 3 (bv (DB out (l.length+1) (l.length+1)))):=za (by
    rw[<-Gc,gV];exact j.out.set _ _)
   have q:Hid (Below w.heap.size w (w2.setCell ⟨w.heap.size,l.length,none⟩ (.int .i64 (bH out l.length:Int)))):=za (Below.setCell (p:=⟨w.heap.size,l.length,none⟩) d.out (zb _) _);clear j d;go_wp2_with fail;generalize w2.setCell ⟨w.heap.size,l.length,none⟩ (.int .i64 (bH out l.length:Int))=w3 at o q ⊢
   clear N v D M;go_loopw [8,9,10,39] (λg a1 a0 Y r=> ∃b:Nat,Y= .int .i64 b∧b<=l.length∧Hid (gB (w.heap.size+1) r g (f7 l out b))∧Hid (Below (w.heap.size+1) w3 r)) (λ_ _ _ g _=>l.length - (intOf g).toNat)
   case atStart=>exact⟨0,rfl,zu _,by rw[CU];exact gB.nil _ _,zZ _ _⟩
   case round=>
    clear w2;rename World=>w4;obtain⟨b,rfl,C,n,d⟩:=hrel;by_cases f:b<l.length
    ·have ab:(0:Int)<=(b:Int)∧(b:Int)<(l.length:Int):=by omega
     have U:=za (q.trans (az d.out (zE _)));have s:=FK (S.below U.out u.out) (show b<out.length by omega);have x:=za d.size;have i:=za (show w.heap.size+1<=w4.heap.size by have:=d.size;have:=o.lt;omega);obtain⟨P,a3,rfl,bi,O⟩:=(av.below U.out).at_ (by omega);obtain⟨bo,ao,bl,bk,bj⟩:=O b f;have be:P<w.heap.size:=ar.out (by omega) _ rfl;have bc:P≠w4.heap.size:=by omega
     have bb:t≠w4.heap.size:=by have:=u.out;have:=i.out;omega
     have D:t<w4.heap.size:=by have:=u.out;have:=i.out;omega
     have a6:w.heap.size<w4.heap.size:=by have:=i.out;omega
     have a5:w.heap.size≠w4.heap.size:=by have:=i.out;omega
     clear O
     cases h:out.getD b true with
     |true=>
      rw[h]at s;have y:=za (Dv (l:=l) h);go_wp2_with fail;go_roundw
      case rel=>exact⟨b+1,by go_num,by omega,by rw[y.out];exact n.alloc _,d.alloc i.out _⟩
      case measure=>simp[intOf];omega
     |false=>
      rw[h]at s;have y:=za (Jx (l:=l) h);have T:Hid ((f7 l out b).length<=2000000):=za (by rw[vR];have:=De out b;omega);by_cases m:al (aq l b)
      ·have k:al l[b].op:=by rw[<-eG f];exact m
       have F:=mT f (R.low b f m);have a9:=R.high b f m;have K:Hid (moved out (l.getD b default)=⟨l[b].op,(bH out (bE l b):Int),l[b].b,l[b].text,l[b].pos⟩):=za (by
        unfold moved;rw[iz f,zn k,F];simp)
       rw[F]at ao;have Z:(0:Int)<=(bE l b:Int)∧(bE l b:Int)<((l.length+1:Nat):Int):=by omega
       have v:=yB (o.below d.out (Nat.lt_succ_self _)) (show bE l b<(DB out (l.length+1) (l.length+1)).length by rw[mE];omega);rw[yt,zn (by omega)]at v;have ad:decide (al l[b].op)=true:=ze k;clear m k F;go_wp2_with (first
        |(go_at_call 88;refine(dq _ _).mono ?_;rintro af W ⟨rfl,rfl⟩)
        |(at_builtin;refine Ok (.tmp 57) (.tmp 59) (w.heap.size+1) _ (f7 l out b) ⟨l[b].op,(bH out (bE l b):Int),l[b].b,l[b].text,l[b].pos⟩ _ _ rfl rfl rfl (n.alloc _) rfl _ rfl (by simp) T.out (by have:=i.out;simp;omega) ?_;intro A z B E))
       have J:Hid (gB (w.heap.size+1) z A (f7 l out (b+1))):=za (by rw[y.out,K.out];exact B);have L:=za ((d.alloc i.out _).trans E);go_roundw
       case rel=>exact⟨b+1,by go_num,by omega,J,L⟩
       case measure=>simp[intOf];omega
      ·have k:¬al l[b].op:=by rw[<-eG f];exact m
       have K:Hid (moved out (l.getD b default)=⟨l[b].op,l[b].a,l[b].b,l[b].text,l[b].pos⟩):=za (by
        unfold moved;rw[iz f,zm k])
       have ad:decide (al l[b].op)=false:=zg k;clear m k;go_wp2_with (first
        |(go_at_call 88;refine(dq _ _).mono ?_;rintro af W ⟨rfl,rfl⟩)
        |(at_builtin;refine Ok (.tmp 57) (.tmp 59) (w.heap.size+1) _ (f7 l out b) ⟨l[b].op,l[b].a,l[b].b,l[b].text,l[b].pos⟩ _ _ rfl rfl rfl (n.alloc _) rfl _ rfl (by simp) T.out (by have:=i.out;simp;omega) ?_;intro A z B E))
       have J:Hid (gB (w.heap.size+1) z A (f7 l out (b+1))):=za (by rw[y.out,K.out];exact B);have L:=za ((d.alloc i.out _).trans E);go_roundw
       case rel=>exact⟨b+1,by go_num,by omega,J,L⟩
       case measure=>simp[intOf];omega
    ·obtain rfl:b=l.length:=by omega
     clear f C;have G:=n.out;rw[DH]at G;replace n:=za G;clear G;have ap:=za (q.trans (az d.out (zE _)));go_wp2_with fail;go_ret;exact⟨_,rfl,n.low (zE _),ap⟩
end
end Go.Proofs.YtmecmlpoallpcaaGreatDoor

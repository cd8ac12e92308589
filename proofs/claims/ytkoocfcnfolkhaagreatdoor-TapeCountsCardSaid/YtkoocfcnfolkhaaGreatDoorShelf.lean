/- Contracts of the library at this program, laid by the kit's own tools. Conditions: as each says. -/
import Derived.Shelf.Strings.Builder1
import Derived.Shelf.Small.Wraps
import Derived.Shelf.Strings.BuilderF
import Derived.Shelf.Strings.BuilderK
import Derived.Shelf.Strconv.Atoi
import Derived.Shelf.Strconv.Itoa0
import Derived.Shelf.Strconv.Itoa1
import Derived.Shelf.LaysM
import Derived.Shelf.Strconv.Itoa2
import Derived.Shelf.Strconv.Itoa3
import Derived.Shelf.Strconv.AtoiErrFast
import Derived.Shelf.Strconv.ParseIntEmpty
import Derived.Shelf.Strconv.AtoiFail
import Derived.Shelf.Strconv.Clone
import Derived.Shelf.Strconv.SyntaxError
import Derived.Shelf.LaysC
import Derived.Shelf.Strconv.ToError
import Derived.Shelf.Strconv.Lower
import Derived.Shelf.Strconv.ParseUint10
import Derived.Shelf.Strconv.ParseUint10Empty
import Derived.Shelf.Strconv.ParseUint10Any
import Derived.Shelf.Strconv.ParseInt10
import Derived.Shelf.Strconv.AtoiLong
import Derived.Shelf.Strconv.AtoiInnerAll
import Derived.Shelf.Strconv.RangeError
import Derived.Shelf.Strconv.ToErrorRange
import Derived.Shelf.Strconv.AtoiAll
import Derived.Shelf.Strconv.ErrVarAll
import Derived.Shelf.Strconv.ParseUintEmpty
import Derived.Shelf.Strconv.ParseUint10b64
import Derived.Shelf.Strconv.ParseUint10b32
import Derived.Shelf.Strconv.ParseUint10b16
import Derived.Shelf.Strconv.ParseUint10b8
import Derived.Shelf.Strconv.ParseUint10At
import Derived.Shelf.Strconv.ParseInt10At64
import Derived.Shelf.Strconv.ParseInt10At32
import Derived.Shelf.Strconv.ParseInt10At16
import Derived.Shelf.Strconv.ParseInt10At8
import Derived.Shelf.Strconv.ParseInt10All
import Derived.Shelf.Strings.Search1
import Derived.Shelf.Strings.Search2
import Derived.Shelf.Strings.Search3
import Derived.Shelf.Strings.Cut
import Derived.Shelf.Strings.Count
import Derived.Shelf.Strings.Shaped
import Derived.Shelf.Strings.Prefix
import Derived.Shelf.Strings.Split
import Derived.Shelf.Strings.SplitShaped
import Derived.Shelf.Unicode.DecodeSlow
import Derived.Shelf.Strings.BuilderCap
import Derived.Shelf.Bytes.SlSearch0
import Derived.Shelf.Bytes.SlEqualAll
import Derived.Shelf.Bytes.Small
import Derived.Test.YtkoocfcnfolkhaaGreatDoorProg
namespace Go.Proofs
open Go.Shelf
def Tryz.lays169_ren:Go.Shelf.Ren:=⟨fun|169=>58|n=>n,fun|70=>136|9=>9|0=>0|72=>138|37=>22|127=>175|3=>3|5=>5|n=>n,fun|n=>n⟩
theorem Tryz.lays169:Go.Proofs.Lays.n169 Tryz.prog Tryz.lays169_ren:={
  mixed:=by kernel_rfl
  f169:=Tryz.func58.trans (congrArg some (by kernel_rfl))
  t0:=Tryz.underlying0
  a0:=Tryz.isAgg0
  z0:=Tryz.sizeOf0
  v0:=Tryz.zeroValue0
  t3:=Tryz.underlying3
  a3:=Tryz.isAgg3
  z3:=Tryz.sizeOf3
  v3:=Tryz.zeroValue3
  t9:=Tryz.underlying9
  a9:=Tryz.isAgg9
  z9:=Tryz.sizeOf9
  v9:=Tryz.zeroValue9
  t37:=Tryz.underlying22
  a37:=Tryz.isAgg22
  z37:=Tryz.sizeOf22
  v37:=Tryz.zeroValue22
  t70:=Tryz.underlying136
  a70:=Tryz.isAgg136
  z70:=Tryz.sizeOf136
  v70:=Tryz.zeroValue136
  t72:=Tryz.underlying138
  a72:=Tryz.isAgg138
  z72:=Tryz.sizeOf138
  v72:=Tryz.zeroValue138
  t127:=Tryz.underlying175
  a127:=Tryz.isAgg175
  z127:=Tryz.sizeOf175
  v127:=Tryz.zeroValue175}
theorem Tryz.Builder_Extra_169:Builder.Extra Tryz.prog Tryz.lays169_ren:={
  sizeBuilder:=by kernel_rfl
  liesBuilder:=by kernel_rfl
  t5:=Tryz.underlying5
  a5:=Tryz.isAgg5
  z5:=Tryz.sizeOf5
  v5:=Tryz.zeroValue5
  infoByte:=by kernel_rfl
  cellsByte:=by kernel_rfl
  sizeByte:=by kernel_rfl
  neB5:=by decide}
open Go.RowKit in
theorem Tryz.Builder_String_any(B b:Nat)(l:List UInt8)(w:World)(h:Lib.IsBuilder 138 5 B b (Lib.byteCells l) w)(hBw:B<=w.heap.size):
    Calls Tryz.prog 58 #[.pointer (some ⟨b,0,none⟩)] w fun e w'=>e= .returned (.string ⟨l.toArray⟩)/\Below B w w':=Any.Builder_String_any Tryz.lays169 Tryz.Builder_Extra_169 B b l w h hBw
def Tryz.lays104_ren:Go.Shelf.Ren:=⟨fun|104=>85|211=>125|207=>155|n=>n,fun|9=>9|4=>4|24=>179|3=>3|n=>n,fun|n=>n⟩
open Go.RowKit in
theorem Tryz.Builder_String_any_k(B b:Nat)(l:List UInt8)(w:World)(h:Lib.IsBuilderF 138 5 B b (Lib.byteCells l) w)(hBw:B<=w.heap.size):
    Calls Tryz.prog 58 #[.pointer (some ⟨b,0,none⟩)] w fun e w'=>e= .returned (.string ⟨l.toArray⟩)/\(Lib.IsBuilderF 138 5 B b (Lib.byteCells l) w'/\Below B w w'/\Lib.OthersKept 5 (some b) w w'):=Any.Builder_String_any_k Tryz.lays169 Tryz.Builder_Extra_169 B b l w h hBw
def Tryz.laysM171_ren:Go.Shelf.Ren:=⟨fun|171=>55|243=>81|246=>123|283=>151|284=>152|285=>153|286=>154|129=>180|317=>179|318=>181|319=>182|320=>183|337=>184|338=>185|n=>n,fun|3=>3|9=>9|2=>2|4=>4|171=>252|0=>0|53=>245|37=>22|5=>5|173=>255|212=>280|51=>272|20=>20|213=>281|46=>155|232=>288|233=>289|n=>n,fun|17=>3|18=>6|19=>7|n=>n⟩
theorem Tryz.laysM171:Go.Proofs.LaysM.n171 Tryz.prog Tryz.laysM171_ren:={
  mixed:=by kernel_rfl
  f129:=Tryz.func180.trans (congrArg some (by kernel_rfl))
  f171:=Tryz.func55.trans (congrArg some (by kernel_rfl))
  f243:=Tryz.func81.trans (congrArg some (by kernel_rfl))
  f246:=Tryz.func123.trans (congrArg some (by kernel_rfl))
  f283:=Tryz.func151.trans (congrArg some (by kernel_rfl))
  f284:=Tryz.func152.trans (congrArg some (by kernel_rfl))
  f285:=Tryz.func153.trans (congrArg some (by kernel_rfl))
  f286:=Tryz.func154.trans (congrArg some (by kernel_rfl))
  f317:=Tryz.func179.trans (congrArg some (by kernel_rfl))
  f318:=Tryz.func181.trans (congrArg some (by kernel_rfl))
  f319:=Tryz.func182.trans (congrArg some (by kernel_rfl))
  f320:=Tryz.func183.trans (congrArg some (by kernel_rfl))
  f337:=Tryz.func184.trans (congrArg some (by kernel_rfl))
  f338:=Tryz.func185.trans (congrArg some (by kernel_rfl))
  t0:=Tryz.underlying0
  a0:=Tryz.isAgg0
  z0:=Tryz.sizeOf0
  v0:=Tryz.zeroValue0
  t2:=Tryz.underlying2
  a2:=Tryz.isAgg2
  z2:=Tryz.sizeOf2
  v2:=Tryz.zeroValue2
  t3:=Tryz.underlying3
  a3:=Tryz.isAgg3
  z3:=Tryz.sizeOf3
  v3:=Tryz.zeroValue3
  t4:=Tryz.underlying4
  a4:=Tryz.isAgg4
  z4:=Tryz.sizeOf4
  v4:=Tryz.zeroValue4
  t5:=Tryz.underlying5
  a5:=Tryz.isAgg5
  z5:=Tryz.sizeOf5
  v5:=Tryz.zeroValue5
  t9:=Tryz.underlying9
  a9:=Tryz.isAgg9
  z9:=Tryz.sizeOf9
  v9:=Tryz.zeroValue9
  t20:=Tryz.underlying20
  a20:=Tryz.isAgg20
  z20:=Tryz.sizeOf20
  v20:=Tryz.zeroValue20
  t37:=Tryz.underlying22
  a37:=Tryz.isAgg22
  z37:=Tryz.sizeOf22
  v37:=Tryz.zeroValue22
  t46:=Tryz.underlying155
  a46:=Tryz.isAgg155
  z46:=Tryz.sizeOf155
  v46:=Tryz.zeroValue155
  t51:=Tryz.underlying272
  a51:=Tryz.isAgg272
  z51:=Tryz.sizeOf272
  v51:=Tryz.zeroValue272
  t53:=Tryz.underlying245
  a53:=Tryz.isAgg245
  z53:=Tryz.sizeOf245
  v53:=Tryz.zeroValue245
  t171:=Tryz.underlying252
  a171:=Tryz.isAgg252
  z171:=Tryz.sizeOf252
  v171:=Tryz.zeroValue252
  t173:=Tryz.underlying255
  a173:=Tryz.isAgg255
  z173:=Tryz.sizeOf255
  v173:=Tryz.zeroValue255
  t212:=Tryz.underlying280
  a212:=Tryz.isAgg280
  z212:=Tryz.sizeOf280
  v212:=Tryz.zeroValue280
  t213:=Tryz.underlying281
  a213:=Tryz.isAgg281
  z213:=Tryz.sizeOf281
  t232:=Tryz.underlying288
  a232:=Tryz.isAgg288
  z232:=Tryz.sizeOf288
  v232:=Tryz.zeroValue288
  t233:=Tryz.underlying289
  a233:=Tryz.isAgg289
  z233:=Tryz.sizeOf289
  v233:=Tryz.zeroValue289
  g17:=by kernel_rfl
  g18:=by kernel_rfl
  g19:=by kernel_rfl
  i0:=by kernel_rfl
  i2:=by kernel_rfl
  i3:=by kernel_rfl
  i4:=by kernel_rfl
  i5:=by kernel_rfl
  i9:=by kernel_rfl
  i20:=by kernel_rfl
  i37:=by kernel_rfl
  i46:=by kernel_rfl
  i51:=by kernel_rfl
  i53:=by kernel_rfl
  i171:=by kernel_rfl
  i173:=by kernel_rfl
  i212:=by kernel_rfl
  i232:=by kernel_rfl
  i233:=by kernel_rfl
  m17:=by kernel_rfl
  m18:=by kernel_rfl
  m19:=by kernel_rfl}
open Go.RowKit Go.Sort Go.Lib in
theorem Tryz.strconv_Itoa(n:Int)(h0: -9223372036854775808<=n)(h1:n<=9223372036854775807)(w:World)(htab:Lib.TabIs Tryz.prog w "internal/strconv.uint64pow10" .u64 Lib.pow10Tab):
    Calls Tryz.prog 55 #[.int .i64 n] w fun e w'=>e= .returned (.string ⟨(Lib.itoa n).toArray⟩)/\∃k os,w'=grow (w.drewN k) os:=Any.strconv_Itoa Tryz.laysM171 n h0 h1 w htab
def Tryz.lays171_ren:Go.Shelf.Ren:=⟨fun|171=>55|243=>81|246=>123|283=>151|284=>152|285=>153|286=>154|129=>180|317=>179|318=>181|319=>182|320=>183|337=>184|338=>185|n=>n,fun|3=>3|9=>9|2=>2|4=>4|171=>252|0=>0|53=>245|37=>22|5=>5|173=>255|212=>280|51=>272|20=>20|213=>281|46=>155|232=>288|233=>289|n=>n,fun|17=>3|18=>6|19=>7|n=>n⟩
def Tryz.laysC172_ren:Go.Shelf.Ren:=⟨fun|172=>53|244=>79|245=>80|247=>118|279=>119|280=>120|281=>121|282=>122|287=>148|316=>149|171=>55|205=>150|321=>177|322=>178|243=>81|246=>123|283=>151|284=>152|285=>153|286=>154|129=>180|317=>179|318=>181|319=>182|320=>183|337=>184|338=>185|n=>n,fun|9=>9|3=>3|75=>130|76=>131|4=>4|5=>5|167=>214|37=>22|0=>0|85=>215|2=>2|168=>217|53=>245|175=>246|46=>155|210=>250|127=>175|145=>278|143=>276|21=>21|171=>252|173=>255|212=>280|51=>272|20=>20|213=>281|232=>288|233=>289|80=>140|n=>n,fun|15=>1|16=>2|17=>3|18=>6|19=>7|n=>n⟩
theorem Tryz.laysC172:Go.Proofs.LaysC.n172 Tryz.prog Tryz.laysC172_ren:={
  mixed:=by kernel_rfl
  f129:=Tryz.func180.trans (congrArg some (by kernel_rfl))
  f171:=Tryz.func55.trans (congrArg some (by kernel_rfl))
  f172:=Tryz.func53.trans (congrArg some (by kernel_rfl))
  f205:=Tryz.func150.trans (congrArg some (by kernel_rfl))
  f243:=Tryz.func81.trans (congrArg some (by kernel_rfl))
  f244:=Tryz.func79.trans (congrArg some (by kernel_rfl))
  f245:=Tryz.func80.trans (congrArg some (by kernel_rfl))
  f246:=Tryz.func123.trans (congrArg some (by kernel_rfl))
  f247:=Tryz.func118.trans (congrArg some (by kernel_rfl))
  f279:=Tryz.func119.trans (congrArg some (by kernel_rfl))
  f280:=Tryz.func120.trans (congrArg some (by kernel_rfl))
  f281:=Tryz.func121.trans (congrArg some (by kernel_rfl))
  f282:=Tryz.func122.trans (congrArg some (by kernel_rfl))
  f283:=Tryz.func151.trans (congrArg some (by kernel_rfl))
  f284:=Tryz.func152.trans (congrArg some (by kernel_rfl))
  f285:=Tryz.func153.trans (congrArg some (by kernel_rfl))
  f286:=Tryz.func154.trans (congrArg some (by kernel_rfl))
  f287:=Tryz.func148.trans (congrArg some (by kernel_rfl))
  f316:=Tryz.func149.trans (congrArg some (by kernel_rfl))
  f317:=Tryz.func179.trans (congrArg some (by kernel_rfl))
  f318:=Tryz.func181.trans (congrArg some (by kernel_rfl))
  f319:=Tryz.func182.trans (congrArg some (by kernel_rfl))
  f320:=Tryz.func183.trans (congrArg some (by kernel_rfl))
  f321:=Tryz.func177.trans (congrArg some (by kernel_rfl))
  f322:=Tryz.func178.trans (congrArg some (by kernel_rfl))
  f337:=Tryz.func184.trans (congrArg some (by kernel_rfl))
  f338:=Tryz.func185.trans (congrArg some (by kernel_rfl))
  t0:=Tryz.underlying0
  a0:=Tryz.isAgg0
  z0:=Tryz.sizeOf0
  v0:=Tryz.zeroValue0
  t2:=Tryz.underlying2
  a2:=Tryz.isAgg2
  z2:=Tryz.sizeOf2
  v2:=Tryz.zeroValue2
  t3:=Tryz.underlying3
  a3:=Tryz.isAgg3
  z3:=Tryz.sizeOf3
  v3:=Tryz.zeroValue3
  t4:=Tryz.underlying4
  a4:=Tryz.isAgg4
  z4:=Tryz.sizeOf4
  v4:=Tryz.zeroValue4
  t5:=Tryz.underlying5
  a5:=Tryz.isAgg5
  z5:=Tryz.sizeOf5
  v5:=Tryz.zeroValue5
  t9:=Tryz.underlying9
  a9:=Tryz.isAgg9
  z9:=Tryz.sizeOf9
  v9:=Tryz.zeroValue9
  t20:=Tryz.underlying20
  a20:=Tryz.isAgg20
  z20:=Tryz.sizeOf20
  v20:=Tryz.zeroValue20
  t21:=Tryz.underlying21
  a21:=Tryz.isAgg21
  z21:=Tryz.sizeOf21
  v21:=Tryz.zeroValue21
  t37:=Tryz.underlying22
  a37:=Tryz.isAgg22
  z37:=Tryz.sizeOf22
  v37:=Tryz.zeroValue22
  t46:=Tryz.underlying155
  a46:=Tryz.isAgg155
  z46:=Tryz.sizeOf155
  v46:=Tryz.zeroValue155
  t51:=Tryz.underlying272
  a51:=Tryz.isAgg272
  z51:=Tryz.sizeOf272
  v51:=Tryz.zeroValue272
  t53:=Tryz.underlying245
  a53:=Tryz.isAgg245
  z53:=Tryz.sizeOf245
  v53:=Tryz.zeroValue245
  t75:=Tryz.underlying130
  a75:=Tryz.isAgg130
  z75:=Tryz.sizeOf130
  v75:=Tryz.zeroValue130
  t76:=Tryz.underlying131
  a76:=Tryz.isAgg131
  z76:=Tryz.sizeOf131
  v76:=Tryz.zeroValue131
  t85:=Tryz.underlying215
  a85:=Tryz.isAgg215
  z85:=Tryz.sizeOf215
  v85:=Tryz.zeroValue215
  t127:=Tryz.underlying175
  a127:=Tryz.isAgg175
  z127:=Tryz.sizeOf175
  v127:=Tryz.zeroValue175
  t143:=Tryz.underlying276
  a143:=Tryz.isAgg276
  z143:=Tryz.sizeOf276
  v143:=Tryz.zeroValue276
  t145:=Tryz.underlying278
  a145:=Tryz.isAgg278
  z145:=Tryz.sizeOf278
  v145:=Tryz.zeroValue278
  t167:=Tryz.underlying214
  a167:=Tryz.isAgg214
  z167:=Tryz.sizeOf214
  v167:=Tryz.zeroValue214
  t168:=Tryz.underlying217
  a168:=Tryz.isAgg217
  z168:=Tryz.sizeOf217
  v168:=Tryz.zeroValue217
  t171:=Tryz.underlying252
  a171:=Tryz.isAgg252
  z171:=Tryz.sizeOf252
  v171:=Tryz.zeroValue252
  t173:=Tryz.underlying255
  a173:=Tryz.isAgg255
  z173:=Tryz.sizeOf255
  v173:=Tryz.zeroValue255
  t175:=Tryz.underlying246
  a175:=Tryz.isAgg246
  z175:=Tryz.sizeOf246
  v175:=Tryz.zeroValue246
  t210:=Tryz.underlying250
  a210:=Tryz.isAgg250
  z210:=Tryz.sizeOf250
  v210:=Tryz.zeroValue250
  t212:=Tryz.underlying280
  a212:=Tryz.isAgg280
  z212:=Tryz.sizeOf280
  v212:=Tryz.zeroValue280
  t213:=Tryz.underlying281
  a213:=Tryz.isAgg281
  z213:=Tryz.sizeOf281
  t232:=Tryz.underlying288
  a232:=Tryz.isAgg288
  z232:=Tryz.sizeOf288
  v232:=Tryz.zeroValue288
  t233:=Tryz.underlying289
  a233:=Tryz.isAgg289
  z233:=Tryz.sizeOf289
  v233:=Tryz.zeroValue289
  g15:=by kernel_rfl
  g16:=by kernel_rfl
  g17:=by kernel_rfl
  g18:=by kernel_rfl
  g19:=by kernel_rfl
  t80:=Tryz.underlying140
  a80:=Tryz.isAgg140
  z80:=Tryz.sizeOf140
  v80:=Tryz.zeroValue140
  i0:=by kernel_rfl
  i2:=by kernel_rfl
  i3:=by kernel_rfl
  i4:=by kernel_rfl
  i5:=by kernel_rfl
  i9:=by kernel_rfl
  i20:=by kernel_rfl
  i21:=by kernel_rfl
  i37:=by kernel_rfl
  i46:=by kernel_rfl
  i51:=by kernel_rfl
  i53:=by kernel_rfl
  i75:=by kernel_rfl
  i76:=by kernel_rfl
  i80:=by kernel_rfl
  i85:=by kernel_rfl
  i127:=by kernel_rfl
  i143:=by kernel_rfl
  i145:=by kernel_rfl
  i167:=by kernel_rfl
  i168:=by kernel_rfl
  i171:=by kernel_rfl
  i173:=by kernel_rfl
  i175:=by kernel_rfl
  i210:=by kernel_rfl
  i212:=by kernel_rfl
  i232:=by kernel_rfl
  i233:=by kernel_rfl
  m15:=by kernel_rfl
  m16:=by kernel_rfl
  m17:=by kernel_rfl
  m18:=by kernel_rfl
  m19:=by kernel_rfl
  c0:=by kernel_rfl
  c2:=by kernel_rfl
  c3:=by kernel_rfl
  c4:=by kernel_rfl
  c5:=by kernel_rfl
  c9:=by kernel_rfl
  c20:=by kernel_rfl
  c21:=by kernel_rfl
  c37:=by kernel_rfl
  c46:=by kernel_rfl
  c51:=by kernel_rfl
  c53:=by kernel_rfl
  c75:=by kernel_rfl
  c76:=by kernel_rfl
  c80:=by kernel_rfl
  c85:=by kernel_rfl
  c127:=by kernel_rfl
  c143:=by kernel_rfl
  c145:=by kernel_rfl
  c167:=by kernel_rfl
  c168:=by kernel_rfl
  c171:=by kernel_rfl
  c173:=by kernel_rfl
  c175:=by kernel_rfl
  c210:=by kernel_rfl
  c212:=by kernel_rfl
  c213:=by kernel_rfl
  c232:=by kernel_rfl
  c233:=by kernel_rfl}
open Go.RowKit in
theorem Tryz.strconv_Atoi_ok(s:ByteArray)(hmax:s.size<=9223372036854775806)(v:Int)(h:Lib.atoiAll s.data.toList= .ok v)(w:World):
    Calls Tryz.prog 53 #[.string s] w fun e w'=>e= .returned (.tuple #[.int .i64 v,.nilIface])/\(w'=w\/∃t,w'=Lib.bytesWorld w 5 t):=Any.strconv_Atoi_ok Tryz.laysC172 s hmax v h w
open Go.RowKit in
theorem Tryz.strconv_Atoi_syntax_var(s:ByteArray)(hlim:s.size<=281474976710656)(h:Lib.atoiAll s.data.toList=Lib.atoiAll [])(tp:TypeId)(p:Value)(w:World)(hvar:w.var? Tryz.prog "strconv.ErrSyntax" =some #[.iface tp p]):
    Calls Tryz.prog 53 #[.string s] w fun e w'=>∃N,e= .returned (.tuple #[.int .i64 0,.iface 217 (.pointer (some ⟨N,0,none⟩))])/\w.heap.size<=N/\w'.heap[N]? =some (.cells #[.string ⟨#[65,116,111,105]⟩,.string s,.iface tp p] 250 (0,0))/\Below w.heap.size w w':=Any.strconv_Atoi_syntax_var Tryz.laysC172 s hlim h tp p w hvar
open Go.RowKit in
theorem Tryz.strconv_Atoi_range_var(s:ByteArray)(hlim:s.size<=281474976710656)(h:Lib.atoiAll s.data.toList= .range)(tp:TypeId)(p:Value)(w:World)(hvar:w.var? Tryz.prog "strconv.ErrRange" =some #[.iface tp p]):
    Calls Tryz.prog 53 #[.string s] w fun e w'=>∃N,e= .returned (.tuple #[.int .i64 (Lib.atoiSat s.data.toList),.iface 217 (.pointer (some ⟨N,0,none⟩))])/\w.heap.size<=N/\w'.heap[N]? =some (.cells #[.string ⟨#[65,116,111,105]⟩,.string s,.iface tp p] 250 (0,0))/\Below w.heap.size w w':=Any.strconv_Atoi_range_var Tryz.laysC172 s hlim h tp p w hvar
def Tryz.lays143_ren:Go.Shelf.Ren:=⟨fun|143=>117|219=>114|217=>141|225=>142|224=>143|267=>144|266=>174|314=>175|n=>n,fun|9=>9|3=>3|4=>4|5=>5|46=>155|146=>273|51=>272|n=>n,fun|1=>0|n=>n⟩
def Tryz.lays145_ren:Go.Shelf.Ren:=⟨fun|145=>51|220=>77|219=>114|217=>141|225=>142|224=>143|267=>144|266=>174|314=>175|n=>n,fun|9=>9|4=>4|59=>125|3=>3|5=>5|46=>155|146=>273|51=>272|n=>n,fun|1=>0|n=>n⟩
theorem Tryz.lays145:Go.Proofs.Lays.n145 Tryz.prog Tryz.lays145_ren:={
  mixed:=by kernel_rfl
  f145:=Tryz.func51.trans (congrArg some (by kernel_rfl))
  f217:=Tryz.func141.trans (congrArg some (by kernel_rfl))
  f219:=Tryz.func114.trans (congrArg some (by kernel_rfl))
  f220:=Tryz.func77.trans (congrArg some (by kernel_rfl))
  f224:=Tryz.func143.trans (congrArg some (by kernel_rfl))
  f225:=Tryz.func142.trans (congrArg some (by kernel_rfl))
  f266:=Tryz.func174.trans (congrArg some (by kernel_rfl))
  f267:=Tryz.func144.trans (congrArg some (by kernel_rfl))
  f314:=Tryz.func175.trans (congrArg some (by kernel_rfl))
  t3:=Tryz.underlying3
  a3:=Tryz.isAgg3
  z3:=Tryz.sizeOf3
  v3:=Tryz.zeroValue3
  t4:=Tryz.underlying4
  a4:=Tryz.isAgg4
  z4:=Tryz.sizeOf4
  v4:=Tryz.zeroValue4
  t5:=Tryz.underlying5
  a5:=Tryz.isAgg5
  z5:=Tryz.sizeOf5
  v5:=Tryz.zeroValue5
  t9:=Tryz.underlying9
  a9:=Tryz.isAgg9
  z9:=Tryz.sizeOf9
  v9:=Tryz.zeroValue9
  t46:=Tryz.underlying155
  a46:=Tryz.isAgg155
  z46:=Tryz.sizeOf155
  v46:=Tryz.zeroValue155
  t51:=Tryz.underlying272
  a51:=Tryz.isAgg272
  z51:=Tryz.sizeOf272
  v51:=Tryz.zeroValue272
  t59:=Tryz.underlying125
  a59:=Tryz.isAgg125
  z59:=Tryz.sizeOf125
  v59:=Tryz.zeroValue125
  t146:=Tryz.underlying273
  a146:=Tryz.isAgg273
  z146:=Tryz.sizeOf273
  v146:=Tryz.zeroValue273
  g1:=by kernel_rfl}
open Go.RowKit Go.Lib in
theorem Tryz.strings_Cut(s sep:ByteArray)(m:Int)(w:World)(hs:s.size<4294967281)(hm:w.cell? ⟨0,0,none⟩=some (.int .i64 m)):
    Calls Tryz.prog 51 #[.string s,.string sep] w fun e w'=>e= .returned (.tuple #[.string ⟨(Lib.cut s.data.toList sep.data.toList).1.toArray⟩,.string ⟨(Lib.cut s.data.toList sep.data.toList).2.1.toArray⟩,.bool (Lib.cut s.data.toList sep.data.toList).2.2])/\∃n,w'=w.drewN n:=Any.strings_Cut Tryz.lays145 s sep m w hs hm
def Tryz.lays138_ren:Go.Shelf.Ren:=⟨fun|138=>116|195=>145|218=>147|143=>117|219=>114|217=>141|225=>142|224=>143|267=>144|266=>174|314=>175|n=>n,fun|9=>9|3=>3|4=>4|5=>5|0=>0|46=>155|146=>273|51=>272|n=>n,fun|1=>0|n=>n⟩
def Tryz.lays146_ren:Go.Shelf.Ren:=⟨fun|146=>52|221=>78|268=>115|138=>116|143=>117|195=>145|197=>146|218=>147|219=>114|260=>176|217=>141|225=>142|224=>143|267=>144|266=>174|314=>175|n=>n,fun|9=>9|31=>127|3=>3|4=>4|0=>0|105=>243|21=>21|5=>5|46=>155|119=>283|139=>286|138=>285|146=>273|51=>272|n=>n,fun|1=>0|3=>4|4=>5|n=>n⟩
theorem Tryz.lays146:Go.Proofs.Lays.n146 Tryz.prog Tryz.lays146_ren:={
  mixed:=by kernel_rfl
  f138:=Tryz.func116.trans (congrArg some (by kernel_rfl))
  f143:=Tryz.func117.trans (congrArg some (by kernel_rfl))
  f146:=Tryz.func52.trans (congrArg some (by kernel_rfl))
  f195:=Tryz.func145.trans (congrArg some (by kernel_rfl))
  f197:=Tryz.func146.trans (congrArg some (by kernel_rfl))
  f217:=Tryz.func141.trans (congrArg some (by kernel_rfl))
  f218:=Tryz.func147.trans (congrArg some (by kernel_rfl))
  f219:=Tryz.func114.trans (congrArg some (by kernel_rfl))
  f221:=Tryz.func78.trans (congrArg some (by kernel_rfl))
  f224:=Tryz.func143.trans (congrArg some (by kernel_rfl))
  f225:=Tryz.func142.trans (congrArg some (by kernel_rfl))
  f260:=Tryz.func176.trans (congrArg some (by kernel_rfl))
  f266:=Tryz.func174.trans (congrArg some (by kernel_rfl))
  f267:=Tryz.func144.trans (congrArg some (by kernel_rfl))
  f268:=Tryz.func115.trans (congrArg some (by kernel_rfl))
  f314:=Tryz.func175.trans (congrArg some (by kernel_rfl))
  t0:=Tryz.underlying0
  a0:=Tryz.isAgg0
  z0:=Tryz.sizeOf0
  v0:=Tryz.zeroValue0
  t3:=Tryz.underlying3
  a3:=Tryz.isAgg3
  z3:=Tryz.sizeOf3
  v3:=Tryz.zeroValue3
  t4:=Tryz.underlying4
  a4:=Tryz.isAgg4
  z4:=Tryz.sizeOf4
  v4:=Tryz.zeroValue4
  t5:=Tryz.underlying5
  a5:=Tryz.isAgg5
  z5:=Tryz.sizeOf5
  v5:=Tryz.zeroValue5
  t9:=Tryz.underlying9
  a9:=Tryz.isAgg9
  z9:=Tryz.sizeOf9
  v9:=Tryz.zeroValue9
  t21:=Tryz.underlying21
  a21:=Tryz.isAgg21
  z21:=Tryz.sizeOf21
  v21:=Tryz.zeroValue21
  t31:=Tryz.underlying127
  a31:=Tryz.isAgg127
  z31:=Tryz.sizeOf127
  v31:=Tryz.zeroValue127
  t46:=Tryz.underlying155
  a46:=Tryz.isAgg155
  z46:=Tryz.sizeOf155
  v46:=Tryz.zeroValue155
  t51:=Tryz.underlying272
  a51:=Tryz.isAgg272
  z51:=Tryz.sizeOf272
  v51:=Tryz.zeroValue272
  t105:=Tryz.underlying243
  a105:=Tryz.isAgg243
  z105:=Tryz.sizeOf243
  v105:=Tryz.zeroValue243
  t119:=Tryz.underlying283
  a119:=Tryz.isAgg283
  z119:=Tryz.sizeOf283
  t138:=Tryz.underlying285
  a138:=Tryz.isAgg285
  z138:=Tryz.sizeOf285
  v138:=Tryz.zeroValue285
  t139:=Tryz.underlying286
  a139:=Tryz.isAgg286
  z139:=Tryz.sizeOf286
  v139:=Tryz.zeroValue286
  t146:=Tryz.underlying273
  a146:=Tryz.isAgg273
  z146:=Tryz.sizeOf273
  v146:=Tryz.zeroValue273
  g1:=by kernel_rfl
  g3:=by kernel_rfl
  g4:=by kernel_rfl}
open Go.RowKit Go.Lib in
theorem Tryz.strings_Split(s sep:ByteArray)(m:Int)(w:World)(hs:s.size<4294967281)(hm:w.cell? ⟨0,0,none⟩=some (.int .i64 m))(h1:1<=sep.size):
    Calls Tryz.prog 52 #[.string s,.string sep] w fun e w'=>
      e= .returned (.slice (some ⟨w.heap.size,0,none⟩) (Lib.countB s sep+1) (Lib.countB s sep+1))/\w'=w.alloc (.cells ((Lib.splitB sep 0 (Lib.countB s sep) s).map Value.string).toArray 9):=Any.strings_Split Tryz.lays146 (by kernel_rfl) s sep m w hs hm h1
def Tryz.laysM146_ren:Go.Shelf.Ren:=⟨fun|146=>52|221=>78|268=>115|138=>116|143=>117|195=>145|197=>146|218=>147|219=>114|260=>176|217=>141|225=>142|224=>143|267=>144|266=>174|314=>175|n=>n,fun|9=>9|31=>127|3=>3|4=>4|0=>0|105=>243|21=>21|5=>5|46=>155|119=>283|139=>286|138=>285|146=>273|51=>272|n=>n,fun|1=>0|3=>4|4=>5|n=>n⟩
theorem Tryz.laysM146:Go.Proofs.LaysM.n146 Tryz.prog Tryz.laysM146_ren:={
  mixed:=by kernel_rfl
  f138:=Tryz.func116.trans (congrArg some (by kernel_rfl))
  f143:=Tryz.func117.trans (congrArg some (by kernel_rfl))
  f146:=Tryz.func52.trans (congrArg some (by kernel_rfl))
  f195:=Tryz.func145.trans (congrArg some (by kernel_rfl))
  f197:=Tryz.func146.trans (congrArg some (by kernel_rfl))
  f217:=Tryz.func141.trans (congrArg some (by kernel_rfl))
  f218:=Tryz.func147.trans (congrArg some (by kernel_rfl))
  f219:=Tryz.func114.trans (congrArg some (by kernel_rfl))
  f221:=Tryz.func78.trans (congrArg some (by kernel_rfl))
  f224:=Tryz.func143.trans (congrArg some (by kernel_rfl))
  f225:=Tryz.func142.trans (congrArg some (by kernel_rfl))
  f260:=Tryz.func176.trans (congrArg some (by kernel_rfl))
  f266:=Tryz.func174.trans (congrArg some (by kernel_rfl))
  f267:=Tryz.func144.trans (congrArg some (by kernel_rfl))
  f268:=Tryz.func115.trans (congrArg some (by kernel_rfl))
  f314:=Tryz.func175.trans (congrArg some (by kernel_rfl))
  t0:=Tryz.underlying0
  a0:=Tryz.isAgg0
  z0:=Tryz.sizeOf0
  v0:=Tryz.zeroValue0
  t3:=Tryz.underlying3
  a3:=Tryz.isAgg3
  z3:=Tryz.sizeOf3
  v3:=Tryz.zeroValue3
  t4:=Tryz.underlying4
  a4:=Tryz.isAgg4
  z4:=Tryz.sizeOf4
  v4:=Tryz.zeroValue4
  t5:=Tryz.underlying5
  a5:=Tryz.isAgg5
  z5:=Tryz.sizeOf5
  v5:=Tryz.zeroValue5
  t9:=Tryz.underlying9
  a9:=Tryz.isAgg9
  z9:=Tryz.sizeOf9
  v9:=Tryz.zeroValue9
  t21:=Tryz.underlying21
  a21:=Tryz.isAgg21
  z21:=Tryz.sizeOf21
  v21:=Tryz.zeroValue21
  t31:=Tryz.underlying127
  a31:=Tryz.isAgg127
  z31:=Tryz.sizeOf127
  v31:=Tryz.zeroValue127
  t46:=Tryz.underlying155
  a46:=Tryz.isAgg155
  z46:=Tryz.sizeOf155
  v46:=Tryz.zeroValue155
  t51:=Tryz.underlying272
  a51:=Tryz.isAgg272
  z51:=Tryz.sizeOf272
  v51:=Tryz.zeroValue272
  t105:=Tryz.underlying243
  a105:=Tryz.isAgg243
  z105:=Tryz.sizeOf243
  v105:=Tryz.zeroValue243
  t119:=Tryz.underlying283
  a119:=Tryz.isAgg283
  z119:=Tryz.sizeOf283
  t138:=Tryz.underlying285
  a138:=Tryz.isAgg285
  z138:=Tryz.sizeOf285
  v138:=Tryz.zeroValue285
  t139:=Tryz.underlying286
  a139:=Tryz.isAgg286
  z139:=Tryz.sizeOf286
  v139:=Tryz.zeroValue286
  t146:=Tryz.underlying273
  a146:=Tryz.isAgg273
  z146:=Tryz.sizeOf273
  v146:=Tryz.zeroValue273
  g1:=by kernel_rfl
  g3:=by kernel_rfl
  g4:=by kernel_rfl
  i0:=by kernel_rfl
  i3:=by kernel_rfl
  i4:=by kernel_rfl
  i5:=by kernel_rfl
  i9:=by kernel_rfl
  i21:=by kernel_rfl
  i31:=by kernel_rfl
  i46:=by kernel_rfl
  i51:=by kernel_rfl
  i105:=by kernel_rfl
  i138:=by kernel_rfl
  i139:=by kernel_rfl
  i146:=by kernel_rfl
  m1:=by kernel_rfl
  s1_3:=fun w h=>Go.Proofs.cell_of_shapedOpen_int (zero:= #[.int .i64 0]) (t:=3) h (of_decide_eq_true (by kernel_rfl)) (by kernel_rfl) rfl (by kernel_rfl) (by kernel_rfl) Tryz.underlying3
  m3:=by kernel_rfl
  m4:=by kernel_rfl}
def Tryz.laysnb115_ren:Go.Shelf.Ren:=⟨fun|115=>40|n=>n,fun|37=>22|4=>4|9=>9|5=>5|n=>n,fun|n=>n⟩
def Tryz.lays166_ren:Go.Shelf.Ren:=⟨fun|166=>56|240=>82|276=>124|n=>n,fun|0=>0|3=>3|4=>4|5=>5|9=>9|20=>20|37=>22|70=>136|72=>138|75=>130|80=>140|164=>221|n=>n,fun|n=>n⟩
theorem Tryz.lays166:Go.Proofs.Lays.n166 Tryz.prog Tryz.lays166_ren:={
  mixed:=by kernel_rfl
  f166:=Tryz.func56.trans (congrArg some (by kernel_rfl))
  f240:=Tryz.func82.trans (congrArg some (by kernel_rfl))
  f276:=Tryz.func124.trans (congrArg some (by kernel_rfl))
  t0:=Tryz.underlying0
  a0:=Tryz.isAgg0
  z0:=Tryz.sizeOf0
  v0:=Tryz.zeroValue0
  t3:=Tryz.underlying3
  a3:=Tryz.isAgg3
  z3:=Tryz.sizeOf3
  v3:=Tryz.zeroValue3
  t4:=Tryz.underlying4
  a4:=Tryz.isAgg4
  z4:=Tryz.sizeOf4
  v4:=Tryz.zeroValue4
  t9:=Tryz.underlying9
  a9:=Tryz.isAgg9
  z9:=Tryz.sizeOf9
  v9:=Tryz.zeroValue9
  t20:=Tryz.underlying20
  a20:=Tryz.isAgg20
  z20:=Tryz.sizeOf20
  v20:=Tryz.zeroValue20
  t37:=Tryz.underlying22
  a37:=Tryz.isAgg22
  z37:=Tryz.sizeOf22
  v37:=Tryz.zeroValue22
  t70:=Tryz.underlying136
  a70:=Tryz.isAgg136
  z70:=Tryz.sizeOf136
  v70:=Tryz.zeroValue136
  t72:=Tryz.underlying138
  a72:=Tryz.isAgg138
  z72:=Tryz.sizeOf138
  v72:=Tryz.zeroValue138
  t75:=Tryz.underlying130
  a75:=Tryz.isAgg130
  z75:=Tryz.sizeOf130
  v75:=Tryz.zeroValue130
  t164:=Tryz.underlying221
  a164:=Tryz.isAgg221
  z164:=Tryz.sizeOf221
  v164:=Tryz.zeroValue221}
theorem Tryz.Builder_Extra_166:Builder.Extra Tryz.prog Tryz.lays166_ren:={
  sizeBuilder:=by kernel_rfl
  liesBuilder:=by kernel_rfl
  t5:=Tryz.underlying5
  a5:=Tryz.isAgg5
  z5:=Tryz.sizeOf5
  v5:=Tryz.zeroValue5
  infoByte:=by kernel_rfl
  cellsByte:=by kernel_rfl
  sizeByte:=by kernel_rfl
  neB5:=by decide}
open Go.RowKit in
theorem Tryz.Builder_WriteString_k(B b:Nat)(bs:List Value)(s:ByteArray)(w:World)(h:Lib.IsBuilderF 138 5 B b bs w)(hlen:bs.length+s.size<=140737488355328)(hBw:B<=w.heap.size):
    Calls Tryz.prog 56 #[.pointer (some ⟨b,0,none⟩),.string s] w fun e w'=>e= .returned (.tuple #[.int .i64 s.size,.nilIface])/\(Lib.BuilderAtF 138 5 B b (.pointer (some ⟨b,0,none⟩)) (bs++Lib.strCells s) w'/\Below B w w'/\Lib.OthersKept 5 (some b) w w'):=Any.Builder_WriteString_k Tryz.lays166 Tryz.Builder_Extra_166 B b bs s w h hlen hBw
def Tryz.lays167_ren:Go.Shelf.Ren:=⟨fun|167=>83|240=>82|276=>124|n=>n,fun|0=>0|3=>3|4=>4|5=>5|9=>9|20=>20|37=>22|70=>136|72=>138|75=>130|80=>140|164=>221|n=>n,fun|n=>n⟩
theorem Tryz.lays167:Go.Proofs.Lays.n167 Tryz.prog Tryz.lays167_ren:={
  mixed:=by kernel_rfl
  f167:=Tryz.func83.trans (congrArg some (by kernel_rfl))
  f240:=Tryz.func82.trans (congrArg some (by kernel_rfl))
  f276:=Tryz.func124.trans (congrArg some (by kernel_rfl))
  t0:=Tryz.underlying0
  a0:=Tryz.isAgg0
  z0:=Tryz.sizeOf0
  v0:=Tryz.zeroValue0
  t4:=Tryz.underlying4
  a4:=Tryz.isAgg4
  z4:=Tryz.sizeOf4
  v4:=Tryz.zeroValue4
  t5:=Tryz.underlying5
  a5:=Tryz.isAgg5
  z5:=Tryz.sizeOf5
  v5:=Tryz.zeroValue5
  t9:=Tryz.underlying9
  a9:=Tryz.isAgg9
  z9:=Tryz.sizeOf9
  v9:=Tryz.zeroValue9
  t20:=Tryz.underlying20
  a20:=Tryz.isAgg20
  z20:=Tryz.sizeOf20
  v20:=Tryz.zeroValue20
  t37:=Tryz.underlying22
  a37:=Tryz.isAgg22
  z37:=Tryz.sizeOf22
  v37:=Tryz.zeroValue22
  t70:=Tryz.underlying136
  a70:=Tryz.isAgg136
  z70:=Tryz.sizeOf136
  v70:=Tryz.zeroValue136
  t72:=Tryz.underlying138
  a72:=Tryz.isAgg138
  z72:=Tryz.sizeOf138
  v72:=Tryz.zeroValue138
  t75:=Tryz.underlying130
  a75:=Tryz.isAgg130
  z75:=Tryz.sizeOf130
  v75:=Tryz.zeroValue130
  t164:=Tryz.underlying221
  a164:=Tryz.isAgg221
  z164:=Tryz.sizeOf221
  v164:=Tryz.zeroValue221}
theorem Tryz.Builder_Extra_167:Builder.Extra Tryz.prog Tryz.lays167_ren:={
  sizeBuilder:=by kernel_rfl
  liesBuilder:=by kernel_rfl
  t5:=Tryz.underlying5
  a5:=Tryz.isAgg5
  z5:=Tryz.sizeOf5
  v5:=Tryz.zeroValue5
  infoByte:=by kernel_rfl
  cellsByte:=by kernel_rfl
  sizeByte:=by kernel_rfl
  neB5:=by decide}
open Go.RowKit in
theorem Tryz.Builder_WriteByte(B b:Nat)(bs:List Value)(c:Int)(w:World)(h:Lib.IsBuilder 138 5 B b bs w)(hlen:bs.length+1<=140737488355328)(hBw:B<=w.heap.size):
    Calls Tryz.prog 83 #[.pointer (some ⟨b,0,none⟩),.int .u8 c] w fun e w'=>e= .returned .nilIface/\(Lib.BuilderAt 138 5 B b (.pointer (some ⟨b,0,none⟩)) (bs++[.int .u8 c]) w'/\Below B w w'):=Any.Builder_WriteByte Tryz.lays167 Tryz.Builder_Extra_167 B b bs c w h hlen hBw
end Go.Proofs

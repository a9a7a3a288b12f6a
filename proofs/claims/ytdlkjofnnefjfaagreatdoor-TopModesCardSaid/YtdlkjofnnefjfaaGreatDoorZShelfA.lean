/- The contracts of the library at this translation, laid in plain words by the tool of the kit (lay-shelf.mjs, lay-plain.mjs). -/
import Derived.Shelf.Strings.Builder1
import Derived.Shelf.Strings.Builder2
import Derived.Shelf.Strings.OnBuilder
import Derived.Shelf.Strings.Trim
import Derived.Shelf.Small.Utf8
import Derived.Shelf.Small.Strs
import Derived.Shelf.Small.Wraps
import Derived.Shelf.Strings.BuilderF
import Derived.Shelf.Strings.BuilderK
import Derived.Shelf.Strings.Builder2Cap
import Derived.Shelf.Strings.Search1
import Derived.Shelf.Strings.Search2
import Derived.Shelf.Strings.Search3
import Derived.Shelf.Strings.Cut
import Derived.Shelf.Strings.Count
import Derived.Shelf.LaysM
import Derived.Shelf.Strings.Shaped
import Derived.Shelf.Strings.LastIndex
import Derived.Shelf.GgClosure.StringsIndexFunc
import Derived.Shelf.GgClosure.StringsTrimFunc
import Derived.Ground.GgwProg
import Derived.Shelf.GgClosure.StringsIndexFuncTop
import Derived.Shelf.GgClosure.StringsRunes
import Derived.Shelf.Strings.Prefix
import Derived.Shelf.Strings.Split
import Derived.Shelf.Strings.SplitShaped
import Derived.Shelf.Unicode.Decode
import Derived.Shelf.Strings.Runes
import Derived.Shelf.Strings.RuneCount
import Derived.Shelf.Strings.IndexAny
import Derived.Shelf.Strings.AsciiSet
import Derived.Shelf.Strings.IndexAnyAll
import Derived.Shelf.Strings.Explode
import Derived.Shelf.Unicode.DecodeSlow
import Derived.Shelf.Unicode.DecodeAny
import Derived.Shelf.Unicode.DecodeLast
import Derived.Shelf.Strings.FuncGrows
import Derived.Shelf.Strings.BuilderCap
import Derived.Shelf.Slices.Turned
import Derived.Ground.Names2Prog
import Derived.Shelf.Slices.Clone
import Derived.Ground.SlgnProg
import Derived.Shelf.SlicesE.Clone
import Derived.Ground.SlgfProg
import Derived.Shelf.SlicesE.IndexFunc
import Derived.Test.YtdlkjofnnefjfaaGreatDoorProg
set_option linter.all false
namespace Go.Proofs.YtdlkjofnnefjfaaGreatDoor
set_option maxRecDepth 100000
open Go.Shelf
def Tryz.lays169_ren:Go.Shelf.Ren:=⟨fun|169=>78|n=>n,fun|70=>117|9=>9|0=>0|72=>120|37=>118|127=>173|3=>3|5=>5|n=>n,fun|n=>n⟩
theorem Tryz.lays169:Go.Proofs.Lays.n169 Tryz.prog Tryz.lays169_ren:={
 mixed:=by kernel_rfl
 f169:=Tryz.func78.trans (congrArg some (by kernel_rfl))
 t0:=Tryz.underlying0
 a0:=Tryz.isAgg0
 z0:=Tryz.sizeOf0
 v0:=Tryz.zeroValue0
 t3:=Tryz.underlying3
 a3:=Tryz.isAgg3
 z3:=Tryz.sizeOf3
 v3:=Tryz.zeroValue3
 t9:=Tryz.underlying9
 a9:=Tryz.isAgg9
 z9:=Tryz.sizeOf9
 v9:=Tryz.zeroValue9
 t37:=Tryz.underlying118
 a37:=Tryz.isAgg118
 z37:=Tryz.sizeOf118
 v37:=Tryz.zeroValue118
 t70:=Tryz.underlying117
 a70:=Tryz.isAgg117
 z70:=Tryz.sizeOf117
 v70:=Tryz.zeroValue117
 t72:=Tryz.underlying120
 a72:=Tryz.isAgg120
 z72:=Tryz.sizeOf120
 v72:=Tryz.zeroValue120
 t127:=Tryz.underlying173
 a127:=Tryz.isAgg173
 z127:=Tryz.sizeOf173
 v127:=Tryz.zeroValue173 }
theorem Tryz.Builder_Extra_169:Builder.Extra Tryz.prog Tryz.lays169_ren:={
 sizeBuilder:=by kernel_rfl
 liesBuilder:=by kernel_rfl
 t5:=Tryz.underlying5
 a5:=Tryz.isAgg5
 z5:=Tryz.sizeOf5
 v5:=Tryz.zeroValue5
 infoByte:=by kernel_rfl
 cellsByte:=by kernel_rfl
 sizeByte:=by kernel_rfl
 neB5:=by decide }
open Go.RowKit in
theorem Tryz.Builder_String_any (B b:Nat) (l:List UInt8) (w:World) (h:Lib.IsBuilder 120 5 B b (Lib.byteCells l) w) (hBw:B≤w.heap.size) :
  Calls Tryz.prog 78 #[.pointer (some ⟨b,0,none⟩)] w fun e w'=>e=.returned (.string ⟨l.toArray⟩)∧Below B w w':=Any.Builder_String_any Tryz.lays169 Tryz.Builder_Extra_169 B b l w h hBw
def Tryz.lays156_ren:Go.Shelf.Ren:=⟨fun|156=>37|165=>76|166=>77|169=>78|240=>123|241=>124|276=>179|277=>180|n=>n,fun|31=>25|9=>9|3=>3|4=>4|0=>0|20=>20|72=>120|76=>124|70=>117|37=>118|75=>123|127=>173|164=>179|5=>5|80=>126|n=>n,fun|n=>n⟩
theorem Tryz.lays156:Go.Proofs.Lays.n156 Tryz.prog Tryz.lays156_ren:={
 mixed:=by kernel_rfl
 f156:=Tryz.func37.trans (congrArg some (by kernel_rfl))
 f165:=Tryz.func76.trans (congrArg some (by kernel_rfl))
 f166:=Tryz.func77.trans (congrArg some (by kernel_rfl))
 f169:=Tryz.func78.trans (congrArg some (by kernel_rfl))
 f240:=Tryz.func123.trans (congrArg some (by kernel_rfl))
 f241:=Tryz.func124.trans (congrArg some (by kernel_rfl))
 f276:=Tryz.func179.trans (congrArg some (by kernel_rfl))
 f277:=Tryz.func180.trans (congrArg some (by kernel_rfl))
 t0:=Tryz.underlying0
 a0:=Tryz.isAgg0
 z0:=Tryz.sizeOf0
 v0:=Tryz.zeroValue0
 t3:=Tryz.underlying3
 a3:=Tryz.isAgg3
 z3:=Tryz.sizeOf3
 v3:=Tryz.zeroValue3
 t4:=Tryz.underlying4
 a4:=Tryz.isAgg4
 z4:=Tryz.sizeOf4
 v4:=Tryz.zeroValue4
 t9:=Tryz.underlying9
 a9:=Tryz.isAgg9
 z9:=Tryz.sizeOf9
 v9:=Tryz.zeroValue9
 t20:=Tryz.underlying20
 a20:=Tryz.isAgg20
 z20:=Tryz.sizeOf20
 v20:=Tryz.zeroValue20
 t31:=Tryz.underlying25
 a31:=Tryz.isAgg25
 z31:=Tryz.sizeOf25
 v31:=Tryz.zeroValue25
 t37:=Tryz.underlying118
 a37:=Tryz.isAgg118
 z37:=Tryz.sizeOf118
 v37:=Tryz.zeroValue118
 t70:=Tryz.underlying117
 a70:=Tryz.isAgg117
 z70:=Tryz.sizeOf117
 v70:=Tryz.zeroValue117
 t72:=Tryz.underlying120
 a72:=Tryz.isAgg120
 z72:=Tryz.sizeOf120
 v72:=Tryz.zeroValue120
 t75:=Tryz.underlying123
 a75:=Tryz.isAgg123
 z75:=Tryz.sizeOf123
 v75:=Tryz.zeroValue123
 t76:=Tryz.underlying124
 a76:=Tryz.isAgg124
 z76:=Tryz.sizeOf124
 v76:=Tryz.zeroValue124
 t127:=Tryz.underlying173
 a127:=Tryz.isAgg173
 z127:=Tryz.sizeOf173
 v127:=Tryz.zeroValue173
 t164:=Tryz.underlying179
 a164:=Tryz.isAgg179
 z164:=Tryz.sizeOf179
 v164:=Tryz.zeroValue179 }
theorem Tryz.Builder_Extra_156:Builder.Extra Tryz.prog Tryz.lays156_ren:={
 sizeBuilder:=by kernel_rfl
 liesBuilder:=by kernel_rfl
 t5:=Tryz.underlying5
 a5:=Tryz.isAgg5
 z5:=Tryz.sizeOf5
 v5:=Tryz.zeroValue5
 infoByte:=by kernel_rfl
 cellsByte:=by kernel_rfl
 sizeByte:=by kernel_rfl
 neB5:=by decide }
open Go.RowKit in
theorem Tryz.strings_Join_none (a:Option Addr) (c:Nat) (sep:ByteArray) (w:World) :
  Calls Tryz.prog 37 #[.slice a 0 c,.string sep] w fun e w'=>e=.returned (.string ⟨#[]⟩)∧w'=w:=Any.strings_Join_none Tryz.lays156 Tryz.Builder_Extra_156 a c sep w
open Go.RowKit in
theorem Tryz.strings_Join (bk o c:Nat) (xs:List ByteArray) (sep:ByteArray) (w:World) (hcells:∀ (j:Nat) x,xs[j]? = some x→w.cell? ⟨bk,o + j,none⟩=some (.string x)) (hbk:bk < w.heap.size) (hN:xs.length≤140737488355328) (hcap:xs.length≤c) (hlen:(Lib.join (xs.map (·.data.toList)) sep.data.toList).length≤140737488355328) :
  Calls Tryz.prog 37 #[.slice (some ⟨bk,o,none⟩) xs.length c,.string sep] w fun e w'=>e=.returned (.string ⟨(Lib.join (xs.map (·.data.toList)) sep.data.toList).toArray⟩)∧Below w.heap.size w w':=Any.strings_Join Tryz.lays156 Tryz.Builder_Extra_156 bk o c xs sep w hcells hbk hN hcap hlen
def Tryz.lays160_ren:Go.Shelf.Ren:=⟨fun|160=>28|232=>58|231=>57|227=>59|234=>61|233=>60|236=>63|235=>62|228=>109|271=>111|151=>67|197=>110|120=>168|152=>113|260=>167|137=>100|119=>169|224=>165|225=>164|217=>153|266=>207|n=>n,fun|9=>9|4=>4|3=>3|5=>5|117=>105|116=>104|0=>0|124=>108|21=>21|105=>160|46=>232|119=>280|139=>283|138=>282|n=>n,fun|3=>3|4=>4|n=>n⟩
theorem Tryz.lays160:Go.Proofs.Lays.n160 Tryz.prog Tryz.lays160_ren:={
 mixed:=by kernel_rfl
 f119:=Tryz.func169.trans (congrArg some (by kernel_rfl))
 f120:=Tryz.func168.trans (congrArg some (by kernel_rfl))
 f137:=Tryz.func100.trans (congrArg some (by kernel_rfl))
 f151:=Tryz.func67.trans (congrArg some (by kernel_rfl))
 f152:=Tryz.func113.trans (congrArg some (by kernel_rfl))
 f160:=Tryz.func28.trans (congrArg some (by kernel_rfl))
 f197:=Tryz.func110.trans (congrArg some (by kernel_rfl))
 f217:=Tryz.func153.trans (congrArg some (by kernel_rfl))
 f224:=Tryz.func165.trans (congrArg some (by kernel_rfl))
 f225:=Tryz.func164.trans (congrArg some (by kernel_rfl))
 f227:=Tryz.func59.trans (congrArg some (by kernel_rfl))
 f228:=Tryz.func109.trans (congrArg some (by kernel_rfl))
 f231:=Tryz.func57.trans (congrArg some (by kernel_rfl))
 f232:=Tryz.func58.trans (congrArg some (by kernel_rfl))
 f233:=Tryz.func60.trans (congrArg some (by kernel_rfl))
 f234:=Tryz.func61.trans (congrArg some (by kernel_rfl))
 f235:=Tryz.func62.trans (congrArg some (by kernel_rfl))
 f236:=Tryz.func63.trans (congrArg some (by kernel_rfl))
 f260:=Tryz.func167.trans (congrArg some (by kernel_rfl))
 f266:=Tryz.func207.trans (congrArg some (by kernel_rfl))
 f271:=Tryz.func111.trans (congrArg some (by kernel_rfl))
 t0:=Tryz.underlying0
 a0:=Tryz.isAgg0
 z0:=Tryz.sizeOf0
 v0:=Tryz.zeroValue0
 t3:=Tryz.underlying3
 a3:=Tryz.isAgg3
 z3:=Tryz.sizeOf3
 v3:=Tryz.zeroValue3
 t4:=Tryz.underlying4
 a4:=Tryz.isAgg4
 z4:=Tryz.sizeOf4
 v4:=Tryz.zeroValue4
 t5:=Tryz.underlying5
 a5:=Tryz.isAgg5
 z5:=Tryz.sizeOf5
 v5:=Tryz.zeroValue5
 t9:=Tryz.underlying9
 a9:=Tryz.isAgg9
 z9:=Tryz.sizeOf9
 v9:=Tryz.zeroValue9
 t21:=Tryz.underlying21
 a21:=Tryz.isAgg21
 z21:=Tryz.sizeOf21
 v21:=Tryz.zeroValue21
 t46:=Tryz.underlying232
 a46:=Tryz.isAgg232
 z46:=Tryz.sizeOf232
 v46:=Tryz.zeroValue232
 t105:=Tryz.underlying160
 a105:=Tryz.isAgg160
 z105:=Tryz.sizeOf160
 v105:=Tryz.zeroValue160
 t116:=Tryz.underlying104
 a116:=Tryz.isAgg104
 z116:=Tryz.sizeOf104
 t117:=Tryz.underlying105
 a117:=Tryz.isAgg105
 z117:=Tryz.sizeOf105
 v117:=Tryz.zeroValue105
 t119:=Tryz.underlying280
 a119:=Tryz.isAgg280
 z119:=Tryz.sizeOf280
 t124:=Tryz.underlying108
 a124:=Tryz.isAgg108
 z124:=Tryz.sizeOf108
 v124:=Tryz.zeroValue108
 t138:=Tryz.underlying282
 a138:=Tryz.isAgg282
 z138:=Tryz.sizeOf282
 v138:=Tryz.zeroValue282
 t139:=Tryz.underlying283
 a139:=Tryz.isAgg283
 z139:=Tryz.sizeOf283
 v139:=Tryz.zeroValue283
 g3:=by kernel_rfl
 g4:=by kernel_rfl }
def Tryz.lays119_ren:Go.Shelf.Ren:=⟨fun|119=>169|n=>n,fun|21=>21|4=>4|n=>n,fun|n=>n⟩
theorem Tryz.lays119:Go.Proofs.Lays.n119 Tryz.prog Tryz.lays119_ren:={
 mixed:=by kernel_rfl
 f119:=Tryz.func169.trans (congrArg some (by kernel_rfl))
 t4:=Tryz.underlying4
 a4:=Tryz.isAgg4
 z4:=Tryz.sizeOf4
 v4:=Tryz.zeroValue4
 t21:=Tryz.underlying21
 a21:=Tryz.isAgg21
 z21:=Tryz.sizeOf21
 v21:=Tryz.zeroValue21 }
theorem Tryz.utf8_ValidRune (r:Int) (w:World) :
  Calls Tryz.prog 169 #[.int .i32 r] w fun e w'=>e=.returned (.bool (Lib.validRune r))∧w'=w:=Any.utf8_ValidRune Tryz.lays119 r w
def Tryz.lays137_ren:Go.Shelf.Ren:=⟨fun|137=>100|217=>153|266=>207|n=>n,fun|9=>9|5=>5|3=>3|n=>n,fun|n=>n⟩
theorem Tryz.lays137:Go.Proofs.Lays.n137 Tryz.prog Tryz.lays137_ren:={
 mixed:=by kernel_rfl
 f137:=Tryz.func100.trans (congrArg some (by kernel_rfl))
 f217:=Tryz.func153.trans (congrArg some (by kernel_rfl))
 f266:=Tryz.func207.trans (congrArg some (by kernel_rfl))
 t3:=Tryz.underlying3
 a3:=Tryz.isAgg3
 z3:=Tryz.sizeOf3
 v3:=Tryz.zeroValue3
 t5:=Tryz.underlying5
 a5:=Tryz.isAgg5
 z5:=Tryz.sizeOf5
 v5:=Tryz.zeroValue5
 t9:=Tryz.underlying9
 a9:=Tryz.isAgg9
 z9:=Tryz.sizeOf9
 v9:=Tryz.zeroValue9 }
open Go.RowKit in
theorem Tryz.strings_IndexByte (s:ByteArray) (c:Int) (w:World) :
  Calls Tryz.prog 100 #[.string s,.int .u8 c] w fun e w'=>e=.returned (.int .i64 (Lib.indexByte s.data.toList c.toNat.toUInt8))∧w'=w:=Any.strings_IndexByte Tryz.lays137 s c w
def Tryz.lays103_ren:Go.Shelf.Ren:=⟨fun|103=>99|210=>152|206=>206|n=>n,fun|9=>9|4=>4|24=>57|3=>3|n=>n,fun|n=>n⟩
theorem Tryz.lays103:Go.Proofs.Lays.n103 Tryz.prog Tryz.lays103_ren:={
 mixed:=by kernel_rfl
 f103:=Tryz.func99.trans (congrArg some (by kernel_rfl))
 f206:=Tryz.func206.trans (congrArg some (by kernel_rfl))
 f210:=Tryz.func152.trans (congrArg some (by kernel_rfl))
 t3:=Tryz.underlying3
 a3:=Tryz.isAgg3
 z3:=Tryz.sizeOf3
 v3:=Tryz.zeroValue3
 t4:=Tryz.underlying4
 a4:=Tryz.isAgg4
 z4:=Tryz.sizeOf4
 v4:=Tryz.zeroValue4
 t9:=Tryz.underlying9
 a9:=Tryz.isAgg9
 z9:=Tryz.sizeOf9
 v9:=Tryz.zeroValue9
 t24:=Tryz.underlying57
 a24:=Tryz.isAgg57
 z24:=Tryz.sizeOf57
 v24:=Tryz.zeroValue57 }
open Go.RowKit in
theorem Tryz.strings_CutPrefix (s p:ByteArray) (w:World) :
  Calls Tryz.prog 99 #[.string s,.string p] w fun e w'=>e=.returned (.tuple #[.string ⟨(Lib.trimPrefix s.data.toList p.data.toList).toArray⟩,.bool (Lib.hasPrefix s.data.toList p.data.toList)])∧w'=w:=Any.strings_CutPrefix Tryz.lays103 s p w
def Tryz.lays104_ren:Go.Shelf.Ren:=⟨fun|104=>208|211=>234|207=>233|n=>n,fun|9=>9|4=>4|24=>57|3=>3|n=>n,fun|n=>n⟩
theorem Tryz.lays104:Go.Proofs.Lays.n104 Tryz.prog Tryz.lays104_ren:={
 mixed:=by kernel_rfl
 f104:=Tryz.func208.trans (congrArg some (by kernel_rfl))
 f207:=Tryz.func233.trans (congrArg some (by kernel_rfl))
 f211:=Tryz.func234.trans (congrArg some (by kernel_rfl))
 t3:=Tryz.underlying3
 a3:=Tryz.isAgg3
 z3:=Tryz.sizeOf3
 v3:=Tryz.zeroValue3
 t4:=Tryz.underlying4
 a4:=Tryz.isAgg4
 z4:=Tryz.sizeOf4
 v4:=Tryz.zeroValue4
 t9:=Tryz.underlying9
 a9:=Tryz.isAgg9
 z9:=Tryz.sizeOf9
 v9:=Tryz.zeroValue9
 t24:=Tryz.underlying57
 a24:=Tryz.isAgg57
 z24:=Tryz.sizeOf57
 v24:=Tryz.zeroValue57 }
open Go.RowKit in
theorem Tryz.strings_CutSuffix (s p:ByteArray) (w:World) (hs:s.size≤9223372036854775807) :
  Calls Tryz.prog 208 #[.string s,.string p] w fun e w'=>e=.returned (.tuple #[.string ⟨(Lib.trimSuffix s.data.toList p.data.toList).toArray⟩,.bool (Lib.hasSuffix s.data.toList p.data.toList)])∧w'=w:=Any.strings_CutSuffix Tryz.lays104 s p w hs
open Go.RowKit in
theorem Tryz.Builder_String_any_k (B b:Nat) (l:List UInt8) (w:World) (h:Lib.IsBuilderF 120 5 B b (Lib.byteCells l) w) (hBw:B≤w.heap.size) :
  Calls Tryz.prog 78 #[.pointer (some ⟨b,0,none⟩)] w fun e w'=>e=.returned (.string ⟨l.toArray⟩)∧(Lib.IsBuilderF 120 5 B b (Lib.byteCells l) w'∧Below B w w'∧Lib.OthersKept 5 (some b) w w'):=Any.Builder_String_any_k Tryz.lays169 Tryz.Builder_Extra_169 B b l w h hBw
def Tryz.lays144_ren:Go.Shelf.Ren:=⟨fun|144=>119|143=>177|219=>108|217=>153|225=>164|224=>165|267=>166|266=>207|314=>221|n=>n,fun|9=>9|4=>4|3=>3|5=>5|46=>232|146=>278|51=>216|n=>n,fun|1=>1|n=>n⟩
theorem Tryz.lays144:Go.Proofs.Lays.n144 Tryz.prog Tryz.lays144_ren:={
 mixed:=by kernel_rfl
 f143:=Tryz.func177.trans (congrArg some (by kernel_rfl))
 f144:=Tryz.func119.trans (congrArg some (by kernel_rfl))
 f217:=Tryz.func153.trans (congrArg some (by kernel_rfl))
 f219:=Tryz.func108.trans (congrArg some (by kernel_rfl))
 f224:=Tryz.func165.trans (congrArg some (by kernel_rfl))
 f225:=Tryz.func164.trans (congrArg some (by kernel_rfl))
 f266:=Tryz.func207.trans (congrArg some (by kernel_rfl))
 f267:=Tryz.func166.trans (congrArg some (by kernel_rfl))
 f314:=Tryz.func221.trans (congrArg some (by kernel_rfl))
 t3:=Tryz.underlying3
 a3:=Tryz.isAgg3
 z3:=Tryz.sizeOf3
 v3:=Tryz.zeroValue3
 t4:=Tryz.underlying4
 a4:=Tryz.isAgg4
 z4:=Tryz.sizeOf4
 v4:=Tryz.zeroValue4
 t5:=Tryz.underlying5
 a5:=Tryz.isAgg5
 z5:=Tryz.sizeOf5
 v5:=Tryz.zeroValue5
 t9:=Tryz.underlying9
 a9:=Tryz.isAgg9
 z9:=Tryz.sizeOf9
 v9:=Tryz.zeroValue9
 t46:=Tryz.underlying232
 a46:=Tryz.isAgg232
 z46:=Tryz.sizeOf232
 v46:=Tryz.zeroValue232
 t51:=Tryz.underlying216
 a51:=Tryz.isAgg216
 z51:=Tryz.sizeOf216
 v51:=Tryz.zeroValue216
 t146:=Tryz.underlying278
 a146:=Tryz.isAgg278
 z146:=Tryz.sizeOf278
 v146:=Tryz.zeroValue278
 g1:=by kernel_rfl }
open Go.RowKit Go.Lib in
theorem Tryz.strings_Contains (s sub:ByteArray) (m:Int) (w:World) (hs:s.size < 4294967281) (hm:w.cell? ⟨1,0,none⟩=some (.int .i64 m)) :
  Calls Tryz.prog 119 #[.string s,.string sub] w fun e w'=>e=.returned (.bool (Lib.contains s.data.toList sub.data.toList))∧w'=w:=Any.strings_Contains Tryz.lays144 s sub m w hs hm
def Tryz.lays145_ren:Go.Shelf.Ren:=⟨fun|145=>27|220=>56|219=>108|217=>153|225=>164|224=>165|267=>166|266=>207|314=>221|n=>n,fun|9=>9|4=>4|59=>76|3=>3|5=>5|46=>232|146=>278|51=>216|n=>n,fun|1=>1|n=>n⟩
theorem Tryz.lays145:Go.Proofs.Lays.n145 Tryz.prog Tryz.lays145_ren:={
 mixed:=by kernel_rfl
 f145:=Tryz.func27.trans (congrArg some (by kernel_rfl))
 f217:=Tryz.func153.trans (congrArg some (by kernel_rfl))
 f219:=Tryz.func108.trans (congrArg some (by kernel_rfl))
 f220:=Tryz.func56.trans (congrArg some (by kernel_rfl))
 f224:=Tryz.func165.trans (congrArg some (by kernel_rfl))
 f225:=Tryz.func164.trans (congrArg some (by kernel_rfl))
 f266:=Tryz.func207.trans (congrArg some (by kernel_rfl))
 f267:=Tryz.func166.trans (congrArg some (by kernel_rfl))
 f314:=Tryz.func221.trans (congrArg some (by kernel_rfl))
 t3:=Tryz.underlying3
 a3:=Tryz.isAgg3
 z3:=Tryz.sizeOf3
 v3:=Tryz.zeroValue3
 t4:=Tryz.underlying4
 a4:=Tryz.isAgg4
 z4:=Tryz.sizeOf4
 v4:=Tryz.zeroValue4
 t5:=Tryz.underlying5
 a5:=Tryz.isAgg5
 z5:=Tryz.sizeOf5
 v5:=Tryz.zeroValue5
 t9:=Tryz.underlying9
 a9:=Tryz.isAgg9
 z9:=Tryz.sizeOf9
 v9:=Tryz.zeroValue9
 t46:=Tryz.underlying232
 a46:=Tryz.isAgg232
 z46:=Tryz.sizeOf232
 v46:=Tryz.zeroValue232
 t51:=Tryz.underlying216
 a51:=Tryz.isAgg216
 z51:=Tryz.sizeOf216
 v51:=Tryz.zeroValue216
 t59:=Tryz.underlying76
 a59:=Tryz.isAgg76
 z59:=Tryz.sizeOf76
 v59:=Tryz.zeroValue76
 t146:=Tryz.underlying278
 a146:=Tryz.isAgg278
 z146:=Tryz.sizeOf278
 v146:=Tryz.zeroValue278
 g1:=by kernel_rfl }
open Go.RowKit Go.Lib in
theorem Tryz.strings_Cut (s sep:ByteArray) (m:Int) (w:World) (hs:s.size < 4294967281) (hm:w.cell? ⟨1,0,none⟩=some (.int .i64 m)) :
  Calls Tryz.prog 27 #[.string s,.string sep] w fun e w'=>e=.returned (.tuple #[.string ⟨(Lib.cut s.data.toList sep.data.toList).1.toArray⟩,.string ⟨(Lib.cut s.data.toList sep.data.toList).2.1.toArray⟩,.bool (Lib.cut s.data.toList sep.data.toList).2.2])∧∃ n,w'=w.drewN n:=Any.strings_Cut Tryz.lays145 s sep m w hs hm
def Tryz.lays138_ren:Go.Shelf.Ren:=⟨fun|138=>252|195=>263|218=>264|143=>177|219=>108|217=>153|225=>164|224=>165|267=>166|266=>207|314=>221|n=>n,fun|9=>9|3=>3|4=>4|5=>5|0=>0|46=>232|146=>278|51=>216|n=>n,fun|1=>1|n=>n⟩
theorem Tryz.lays138:Go.Proofs.Lays.n138 Tryz.prog Tryz.lays138_ren:={
 mixed:=by kernel_rfl
 f138:=Tryz.func252.trans (congrArg some (by kernel_rfl))
 f143:=Tryz.func177.trans (congrArg some (by kernel_rfl))
 f195:=Tryz.func263.trans (congrArg some (by kernel_rfl))
 f217:=Tryz.func153.trans (congrArg some (by kernel_rfl))
 f218:=Tryz.func264.trans (congrArg some (by kernel_rfl))
 f219:=Tryz.func108.trans (congrArg some (by kernel_rfl))
 f224:=Tryz.func165.trans (congrArg some (by kernel_rfl))
 f225:=Tryz.func164.trans (congrArg some (by kernel_rfl))
 f266:=Tryz.func207.trans (congrArg some (by kernel_rfl))
 f267:=Tryz.func166.trans (congrArg some (by kernel_rfl))
 f314:=Tryz.func221.trans (congrArg some (by kernel_rfl))
 t0:=Tryz.underlying0
 a0:=Tryz.isAgg0
 z0:=Tryz.sizeOf0
 v0:=Tryz.zeroValue0
 t3:=Tryz.underlying3
 a3:=Tryz.isAgg3
 z3:=Tryz.sizeOf3
 v3:=Tryz.zeroValue3
 t4:=Tryz.underlying4
 a4:=Tryz.isAgg4
 z4:=Tryz.sizeOf4
 v4:=Tryz.zeroValue4
 t5:=Tryz.underlying5
 a5:=Tryz.isAgg5
 z5:=Tryz.sizeOf5
 v5:=Tryz.zeroValue5
 t9:=Tryz.underlying9
 a9:=Tryz.isAgg9
 z9:=Tryz.sizeOf9
 v9:=Tryz.zeroValue9
 t46:=Tryz.underlying232
 a46:=Tryz.isAgg232
 z46:=Tryz.sizeOf232
 v46:=Tryz.zeroValue232
 t51:=Tryz.underlying216
 a51:=Tryz.isAgg216
 z51:=Tryz.sizeOf216
 v51:=Tryz.zeroValue216
 t146:=Tryz.underlying278
 a146:=Tryz.isAgg278
 z146:=Tryz.sizeOf278
 v146:=Tryz.zeroValue278
 g1:=by kernel_rfl }
open Go.RowKit Go.Lib in
theorem Tryz.strings_Count_one (s:ByteArray) (c:UInt8) (w:World) :
  Calls Tryz.prog 252 #[.string s,.string ⟨#[c]⟩] w fun e w'=>e=.returned (.int .i64 (Lib.countByte s.data.toList c))∧w'=w:=Any.strings_Count_one Tryz.lays138 s c w
def Tryz.lays149_ren:Go.Shelf.Ren:=⟨fun|149=>101|222=>154|n=>n,fun|9=>9|5=>5|3=>3|4=>4|n=>n,fun|n=>n⟩
theorem Tryz.lays149:Go.Proofs.Lays.n149 Tryz.prog Tryz.lays149_ren:={
 mixed:=by kernel_rfl
 f149:=Tryz.func101.trans (congrArg some (by kernel_rfl))
 f222:=Tryz.func154.trans (congrArg some (by kernel_rfl))
 t3:=Tryz.underlying3
 a3:=Tryz.isAgg3
 z3:=Tryz.sizeOf3
 v3:=Tryz.zeroValue3
 t4:=Tryz.underlying4
 a4:=Tryz.isAgg4
 z4:=Tryz.sizeOf4
 v4:=Tryz.zeroValue4
 t5:=Tryz.underlying5
 a5:=Tryz.isAgg5
 z5:=Tryz.sizeOf5
 v5:=Tryz.zeroValue5
 t9:=Tryz.underlying9
 a9:=Tryz.isAgg9
 z9:=Tryz.sizeOf9
 v9:=Tryz.zeroValue9 }
open Go.RowKit Go.Lib in
theorem Tryz.strings_LastIndexByte (s:ByteArray) (c:Int) (hs:s.size < 4611686018427387904) (w:World) :
  Calls Tryz.prog 101 #[.string s,.int .u8 c] w fun e w'=>e=.returned (.int .i64 (Lib.lastIndexByte s c))∧w'=w:=Any.strings_LastIndexByte Tryz.lays149 s c hs w
def Tryz.lays237_ren:Go.Shelf.Ren:=⟨fun|237=>162|272=>220|238=>219|315=>170|273=>245|197=>110|271=>111|260=>167|120=>168|n=>n,fun|9=>9|40=>111|4=>4|3=>3|105=>160|21=>21|0=>0|5=>5|119=>280|46=>232|139=>283|138=>282|n=>n,fun|3=>3|4=>4|n=>n⟩
theorem Tryz.lays237:Go.Proofs.Lays.n237 Tryz.prog Tryz.lays237_ren:={
 mixed:=by kernel_rfl
 f120:=Tryz.func168.trans (congrArg some (by kernel_rfl))
 f197:=Tryz.func110.trans (congrArg some (by kernel_rfl))
 f237:=Tryz.func162.trans (congrArg some (by kernel_rfl))
 f238:=Tryz.func219.trans (congrArg some (by kernel_rfl))
 f260:=Tryz.func167.trans (congrArg some (by kernel_rfl))
 f271:=Tryz.func111.trans (congrArg some (by kernel_rfl))
 f272:=Tryz.func220.trans (congrArg some (by kernel_rfl))
 f273:=Tryz.func245.trans (congrArg some (by kernel_rfl))
 f315:=Tryz.func170.trans (congrArg some (by kernel_rfl))
 t0:=Tryz.underlying0
 a0:=Tryz.isAgg0
 z0:=Tryz.sizeOf0
 v0:=Tryz.zeroValue0
 t3:=Tryz.underlying3
 a3:=Tryz.isAgg3
 z3:=Tryz.sizeOf3
 v3:=Tryz.zeroValue3
 t4:=Tryz.underlying4
 a4:=Tryz.isAgg4
 z4:=Tryz.sizeOf4
 v4:=Tryz.zeroValue4
 t5:=Tryz.underlying5
 a5:=Tryz.isAgg5
 z5:=Tryz.sizeOf5
 v5:=Tryz.zeroValue5
 t9:=Tryz.underlying9
 a9:=Tryz.isAgg9
 z9:=Tryz.sizeOf9
 v9:=Tryz.zeroValue9
 t21:=Tryz.underlying21
 a21:=Tryz.isAgg21
 z21:=Tryz.sizeOf21
 v21:=Tryz.zeroValue21
 t40:=Tryz.underlying111
 a40:=Tryz.isAgg111
 z40:=Tryz.sizeOf111
 v40:=Tryz.zeroValue111
 t46:=Tryz.underlying232
 a46:=Tryz.isAgg232
 z46:=Tryz.sizeOf232
 v46:=Tryz.zeroValue232
 t105:=Tryz.underlying160
 a105:=Tryz.isAgg160
 z105:=Tryz.sizeOf160
 v105:=Tryz.zeroValue160
 t119:=Tryz.underlying280
 a119:=Tryz.isAgg280
 z119:=Tryz.sizeOf280
 t138:=Tryz.underlying282
 a138:=Tryz.isAgg282
 z138:=Tryz.sizeOf282
 v138:=Tryz.zeroValue282
 t139:=Tryz.underlying283
 a139:=Tryz.isAgg283
 z139:=Tryz.sizeOf283
 v139:=Tryz.zeroValue283
 g3:=by kernel_rfl
 g4:=by kernel_rfl }
open Go.RowKit Go.Lib in
theorem Tryz.strings_TrimFunc (g:Nat) (lb:Array Value) (eg:∀ args w,(callFunc g args).run Tryz.prog w=.ok (.enter g args) w) (p:Nat→Bool) (s:ByteArray) (w:World) (hs:s.size≤9223372036854775807) (hT:Lib.Utf8Tabs 3 4 w) (hp:PredAt Tryz.prog g lb encR p w) :
  Calls Tryz.prog 162 #[.string s,.func (.func g) #[] lb] w fun e w'=>e=.returned (.string (Lib.trimF p s))∧Below w.heap.size w w':=Any.strings_TrimFunc Tryz.lays237 g lb eg p s w hs hT hp
def Tryz.laysGw17_ren:Go.Shelf.Ren:=⟨fun|17=>68|15=>114|20=>170|n=>n,fun|9=>9|23=>111|4=>4|3=>3|0=>0|21=>21|n=>n,fun|n=>n⟩
theorem Tryz.laysGw17:Go.Proofs.LaysGw.n17 Tryz.prog Tryz.laysGw17_ren:={
 mixed:=by kernel_rfl
 f15:=Tryz.func114.trans (congrArg some (by kernel_rfl))
 f17:=Tryz.func68.trans (congrArg some (by kernel_rfl))
 f20:=Tryz.func170.trans (congrArg some (by kernel_rfl))
 t0:=Tryz.underlying0
 a0:=Tryz.isAgg0
 z0:=Tryz.sizeOf0
 v0:=Tryz.zeroValue0
 i0:=by kernel_rfl
 t3:=Tryz.underlying3
 a3:=Tryz.isAgg3
 z3:=Tryz.sizeOf3
 v3:=Tryz.zeroValue3
 i3:=by kernel_rfl
 t4:=Tryz.underlying4
 a4:=Tryz.isAgg4
 z4:=Tryz.sizeOf4
 v4:=Tryz.zeroValue4
 i4:=by kernel_rfl
 t9:=Tryz.underlying9
 a9:=Tryz.isAgg9
 z9:=Tryz.sizeOf9
 v9:=Tryz.zeroValue9
 i9:=by kernel_rfl
 t21:=Tryz.underlying21
 a21:=Tryz.isAgg21
 z21:=Tryz.sizeOf21
 v21:=Tryz.zeroValue21
 i21:=by kernel_rfl
 t23:=Tryz.underlying111
 a23:=Tryz.isAgg111
 z23:=Tryz.sizeOf111
 v23:=Tryz.zeroValue111
 i23:=by kernel_rfl }
open Go.RowKit Go.Lib in
theorem Tryz.strings_ContainsFunc (g:Nat) (lb:Array Value) (eg:∀ args w,(callFunc g args).run Tryz.prog w=.ok (.enter g args) w) (p:Nat→Bool) (s:ByteArray) (w:World) (hp:PredAt Tryz.prog g lb encR p w) :
  Calls Tryz.prog 68 #[.string s,.func (.func g) #[] lb] w fun e w'=>e=.returned (.bool (decide (0≤Lib.idxFunc p true s)))∧Below w.heap.size w w':=Any.strings_ContainsFunc Tryz.laysGw17 g lb eg p s w hp
def Tryz.lays99_ren:Go.Shelf.Ren:=⟨fun|99=>155|206=>206|n=>n,fun|9=>9|4=>4|3=>3|n=>n,fun|n=>n⟩
theorem Tryz.lays99:Go.Proofs.Lays.n99 Tryz.prog Tryz.lays99_ren:={
 mixed:=by kernel_rfl
 f99:=Tryz.func155.trans (congrArg some (by kernel_rfl))
 f206:=Tryz.func206.trans (congrArg some (by kernel_rfl))
 t3:=Tryz.underlying3
 a3:=Tryz.isAgg3
 z3:=Tryz.sizeOf3
 v3:=Tryz.zeroValue3
 t4:=Tryz.underlying4
 a4:=Tryz.isAgg4
 z4:=Tryz.sizeOf4
 v4:=Tryz.zeroValue4
 t9:=Tryz.underlying9
 a9:=Tryz.isAgg9
 z9:=Tryz.sizeOf9
 v9:=Tryz.zeroValue9 }
open Go.RowKit Go.Lib in
theorem Tryz.strings_HasPrefix (s p:ByteArray) (w:World) :
  Calls Tryz.prog 155 #[.string s,.string p] w fun e w'=>e=.returned (.bool (Lib.hasPrefix s.data.toList p.data.toList))∧w'=w:=Any.strings_HasPrefix Tryz.lays99 s p w
def Tryz.lays100_ren:Go.Shelf.Ren:=⟨fun|100=>261|207=>233|n=>n,fun|9=>9|4=>4|3=>3|n=>n,fun|n=>n⟩
theorem Tryz.lays100:Go.Proofs.Lays.n100 Tryz.prog Tryz.lays100_ren:={
 mixed:=by kernel_rfl
 f100:=Tryz.func261.trans (congrArg some (by kernel_rfl))
 f207:=Tryz.func233.trans (congrArg some (by kernel_rfl))
 t3:=Tryz.underlying3
 a3:=Tryz.isAgg3
 z3:=Tryz.sizeOf3
 v3:=Tryz.zeroValue3
 t4:=Tryz.underlying4
 a4:=Tryz.isAgg4
 z4:=Tryz.sizeOf4
 v4:=Tryz.zeroValue4
 t9:=Tryz.underlying9
 a9:=Tryz.isAgg9
 z9:=Tryz.sizeOf9
 v9:=Tryz.zeroValue9 }
open Go.RowKit Go.Lib in
theorem Tryz.strings_HasSuffix (s p:ByteArray) (w:World) (hs:s.size≤9223372036854775807) :
  Calls Tryz.prog 261 #[.string s,.string p] w fun e w'=>e=.returned (.bool (Lib.hasSuffix s.data.toList p.data.toList))∧w'=w:=Any.strings_HasSuffix Tryz.lays100 s p w hs
def Tryz.lays101_ren:Go.Shelf.Ren:=⟨fun|101=>215|208=>238|206=>206|n=>n,fun|9=>9|4=>4|3=>3|n=>n,fun|n=>n⟩
theorem Tryz.lays101:Go.Proofs.Lays.n101 Tryz.prog Tryz.lays101_ren:={
 mixed:=by kernel_rfl
 f101:=Tryz.func215.trans (congrArg some (by kernel_rfl))
 f206:=Tryz.func206.trans (congrArg some (by kernel_rfl))
 f208:=Tryz.func238.trans (congrArg some (by kernel_rfl))
 t3:=Tryz.underlying3
 a3:=Tryz.isAgg3
 z3:=Tryz.sizeOf3
 v3:=Tryz.zeroValue3
 t4:=Tryz.underlying4
 a4:=Tryz.isAgg4
 z4:=Tryz.sizeOf4
 v4:=Tryz.zeroValue4
 t9:=Tryz.underlying9
 a9:=Tryz.isAgg9
 z9:=Tryz.sizeOf9
 v9:=Tryz.zeroValue9 }
open Go.RowKit Go.Lib in
theorem Tryz.strings_TrimPrefix (s p:ByteArray) (w:World) :
  Calls Tryz.prog 215 #[.string s,.string p] w fun e w'=>e=.returned (.string ⟨(Lib.trimPrefix s.data.toList p.data.toList).toArray⟩)∧w'=w:=Any.strings_TrimPrefix Tryz.lays101 s p w
def Tryz.lays102_ren:Go.Shelf.Ren:=⟨fun|102=>148|209=>198|207=>233|n=>n,fun|9=>9|4=>4|3=>3|n=>n,fun|n=>n⟩
theorem Tryz.lays102:Go.Proofs.Lays.n102 Tryz.prog Tryz.lays102_ren:={
 mixed:=by kernel_rfl
 f102:=Tryz.func148.trans (congrArg some (by kernel_rfl))
 f207:=Tryz.func233.trans (congrArg some (by kernel_rfl))
 f209:=Tryz.func198.trans (congrArg some (by kernel_rfl))
 t3:=Tryz.underlying3
 a3:=Tryz.isAgg3
 z3:=Tryz.sizeOf3
 v3:=Tryz.zeroValue3
 t4:=Tryz.underlying4
 a4:=Tryz.isAgg4
 z4:=Tryz.sizeOf4
 v4:=Tryz.zeroValue4
 t9:=Tryz.underlying9
 a9:=Tryz.isAgg9
 z9:=Tryz.sizeOf9
 v9:=Tryz.zeroValue9 }
open Go.RowKit Go.Lib in
theorem Tryz.strings_TrimSuffix (s p:ByteArray) (w:World) (hs:s.size≤9223372036854775807) :
  Calls Tryz.prog 148 #[.string s,.string p] w fun e w'=>e=.returned (.string ⟨(Lib.trimSuffix s.data.toList p.data.toList).toArray⟩)∧w'=w:=Any.strings_TrimSuffix Tryz.lays102 s p w hs
def Tryz.lays146_ren:Go.Shelf.Ren:=⟨fun|146=>214|221=>237|268=>251|138=>252|143=>177|195=>263|197=>110|218=>264|219=>108|260=>167|217=>153|225=>164|224=>165|267=>166|266=>207|314=>221|n=>n,fun|9=>9|31=>25|3=>3|4=>4|0=>0|105=>160|21=>21|5=>5|46=>232|119=>280|139=>283|138=>282|146=>278|51=>216|n=>n,fun|1=>1|3=>3|4=>4|n=>n⟩
theorem Tryz.lays146:Go.Proofs.Lays.n146 Tryz.prog Tryz.lays146_ren:={
 mixed:=by kernel_rfl
 f138:=Tryz.func252.trans (congrArg some (by kernel_rfl))
 f143:=Tryz.func177.trans (congrArg some (by kernel_rfl))
 f146:=Tryz.func214.trans (congrArg some (by kernel_rfl))
 f195:=Tryz.func263.trans (congrArg some (by kernel_rfl))
 f197:=Tryz.func110.trans (congrArg some (by kernel_rfl))
 f217:=Tryz.func153.trans (congrArg some (by kernel_rfl))
 f218:=Tryz.func264.trans (congrArg some (by kernel_rfl))
 f219:=Tryz.func108.trans (congrArg some (by kernel_rfl))
 f221:=Tryz.func237.trans (congrArg some (by kernel_rfl))
 f224:=Tryz.func165.trans (congrArg some (by kernel_rfl))
 f225:=Tryz.func164.trans (congrArg some (by kernel_rfl))
 f260:=Tryz.func167.trans (congrArg some (by kernel_rfl))
 f266:=Tryz.func207.trans (congrArg some (by kernel_rfl))
 f267:=Tryz.func166.trans (congrArg some (by kernel_rfl))
 f268:=Tryz.func251.trans (congrArg some (by kernel_rfl))
 f314:=Tryz.func221.trans (congrArg some (by kernel_rfl))
 t0:=Tryz.underlying0
 a0:=Tryz.isAgg0
 z0:=Tryz.sizeOf0
 v0:=Tryz.zeroValue0
 t3:=Tryz.underlying3
 a3:=Tryz.isAgg3
 z3:=Tryz.sizeOf3
 v3:=Tryz.zeroValue3
 t4:=Tryz.underlying4
 a4:=Tryz.isAgg4
 z4:=Tryz.sizeOf4
 v4:=Tryz.zeroValue4
 t5:=Tryz.underlying5
 a5:=Tryz.isAgg5
 z5:=Tryz.sizeOf5
 v5:=Tryz.zeroValue5
 t9:=Tryz.underlying9
 a9:=Tryz.isAgg9
 z9:=Tryz.sizeOf9
 v9:=Tryz.zeroValue9
 t21:=Tryz.underlying21
 a21:=Tryz.isAgg21
 z21:=Tryz.sizeOf21
 v21:=Tryz.zeroValue21
 t31:=Tryz.underlying25
 a31:=Tryz.isAgg25
 z31:=Tryz.sizeOf25
 v31:=Tryz.zeroValue25
 t46:=Tryz.underlying232
 a46:=Tryz.isAgg232
 z46:=Tryz.sizeOf232
 v46:=Tryz.zeroValue232
 t51:=Tryz.underlying216
 a51:=Tryz.isAgg216
 z51:=Tryz.sizeOf216
 v51:=Tryz.zeroValue216
 t105:=Tryz.underlying160
 a105:=Tryz.isAgg160
 z105:=Tryz.sizeOf160
 v105:=Tryz.zeroValue160
 t119:=Tryz.underlying280
 a119:=Tryz.isAgg280
 z119:=Tryz.sizeOf280
 t138:=Tryz.underlying282
 a138:=Tryz.isAgg282
 z138:=Tryz.sizeOf282
 v138:=Tryz.zeroValue282
 t139:=Tryz.underlying283
 a139:=Tryz.isAgg283
 z139:=Tryz.sizeOf283
 v139:=Tryz.zeroValue283
 t146:=Tryz.underlying278
 a146:=Tryz.isAgg278
 z146:=Tryz.sizeOf278
 v146:=Tryz.zeroValue278
 g1:=by kernel_rfl
 g3:=by kernel_rfl
 g4:=by kernel_rfl }
open Go.RowKit Go.Lib in
theorem Tryz.strings_Split (s sep:ByteArray) (m:Int) (w:World) (hs:s.size < 4294967281) (hm:w.cell? ⟨1,0,none⟩=some (.int .i64 m)) (h1:1≤sep.size) :
  Calls Tryz.prog 214 #[.string s,.string sep] w fun e w' =>
   e=.returned (.slice (some ⟨w.heap.size,0,none⟩) (Lib.countB s sep + 1) (Lib.countB s sep + 1))∧w'=w.alloc (.cells ((Lib.splitB sep 0 (Lib.countB s sep) s).map Value.string).toArray 9):=Any.strings_Split Tryz.lays146 (by kernel_rfl) s sep m w hs hm h1
def Tryz.lays152_ren:Go.Shelf.Ren:=⟨fun|152=>113|137=>100|119=>169|224=>165|225=>164|217=>153|266=>207|n=>n,fun|9=>9|21=>21|3=>3|4=>4|5=>5|0=>0|46=>232|n=>n,fun|n=>n⟩
theorem Tryz.lays152:Go.Proofs.Lays.n152 Tryz.prog Tryz.lays152_ren:={
 mixed:=by kernel_rfl
 f119:=Tryz.func169.trans (congrArg some (by kernel_rfl))
 f137:=Tryz.func100.trans (congrArg some (by kernel_rfl))
 f152:=Tryz.func113.trans (congrArg some (by kernel_rfl))
 f217:=Tryz.func153.trans (congrArg some (by kernel_rfl))
 f224:=Tryz.func165.trans (congrArg some (by kernel_rfl))
 f225:=Tryz.func164.trans (congrArg some (by kernel_rfl))
 f266:=Tryz.func207.trans (congrArg some (by kernel_rfl))
 t0:=Tryz.underlying0
 a0:=Tryz.isAgg0
 z0:=Tryz.sizeOf0
 v0:=Tryz.zeroValue0
 t3:=Tryz.underlying3
 a3:=Tryz.isAgg3
 z3:=Tryz.sizeOf3
 v3:=Tryz.zeroValue3
 t4:=Tryz.underlying4
 a4:=Tryz.isAgg4
 z4:=Tryz.sizeOf4
 v4:=Tryz.zeroValue4
 t5:=Tryz.underlying5
 a5:=Tryz.isAgg5
 z5:=Tryz.sizeOf5
 v5:=Tryz.zeroValue5
 t9:=Tryz.underlying9
 a9:=Tryz.isAgg9
 z9:=Tryz.sizeOf9
 v9:=Tryz.zeroValue9
 t21:=Tryz.underlying21
 a21:=Tryz.isAgg21
 z21:=Tryz.sizeOf21
 v21:=Tryz.zeroValue21
 t46:=Tryz.underlying232
 a46:=Tryz.isAgg232
 z46:=Tryz.sizeOf232
 v46:=Tryz.zeroValue232 }
open Go.RowKit Go.Lib in
theorem Tryz.strings_IndexRune_ascii (s:ByteArray) (r:Int) (w:World) (h0:0≤r) (h1:r < 128) :
  Calls Tryz.prog 113 #[.string s,.int .i32 r] w fun e w'=>e=.returned (.int .i64 (Lib.indexByte s.data.toList r.toNat.toUInt8))∧w'=w:=Any.strings_IndexRune_ascii Tryz.lays152 s r w h0 h1
def Tryz.lays151_ren:Go.Shelf.Ren:=⟨fun|151=>67|152=>113|137=>100|119=>169|224=>165|225=>164|217=>153|266=>207|n=>n,fun|9=>9|21=>21|4=>4|3=>3|5=>5|0=>0|46=>232|n=>n,fun|n=>n⟩
theorem Tryz.lays151:Go.Proofs.Lays.n151 Tryz.prog Tryz.lays151_ren:={
 mixed:=by kernel_rfl
 f119:=Tryz.func169.trans (congrArg some (by kernel_rfl))
 f137:=Tryz.func100.trans (congrArg some (by kernel_rfl))
 f151:=Tryz.func67.trans (congrArg some (by kernel_rfl))
 f152:=Tryz.func113.trans (congrArg some (by kernel_rfl))
 f217:=Tryz.func153.trans (congrArg some (by kernel_rfl))
 f224:=Tryz.func165.trans (congrArg some (by kernel_rfl))
 f225:=Tryz.func164.trans (congrArg some (by kernel_rfl))
 f266:=Tryz.func207.trans (congrArg some (by kernel_rfl))
 t0:=Tryz.underlying0
 a0:=Tryz.isAgg0
 z0:=Tryz.sizeOf0
 v0:=Tryz.zeroValue0
 t3:=Tryz.underlying3
 a3:=Tryz.isAgg3
 z3:=Tryz.sizeOf3
 v3:=Tryz.zeroValue3
 t4:=Tryz.underlying4
 a4:=Tryz.isAgg4
 z4:=Tryz.sizeOf4
 v4:=Tryz.zeroValue4
 t5:=Tryz.underlying5
 a5:=Tryz.isAgg5
 z5:=Tryz.sizeOf5
 v5:=Tryz.zeroValue5
 t9:=Tryz.underlying9
 a9:=Tryz.isAgg9
 z9:=Tryz.sizeOf9
 v9:=Tryz.zeroValue9
 t21:=Tryz.underlying21
 a21:=Tryz.isAgg21
 z21:=Tryz.sizeOf21
 v21:=Tryz.zeroValue21
 t46:=Tryz.underlying232
 a46:=Tryz.isAgg232
 z46:=Tryz.sizeOf232
 v46:=Tryz.zeroValue232 }
open Go.RowKit Go.Lib in
theorem Tryz.strings_ContainsRune_ascii (s:ByteArray) (r:Int) (w:World) (h0:0≤r) (h1:r < 128) :
  Calls Tryz.prog 67 #[.string s,.int .i32 r] w fun e w'=>e=.returned (.bool (decide (0≤Lib.indexByte s.data.toList r.toNat.toUInt8)))∧w'=w:=Any.strings_ContainsRune_ascii Tryz.lays151 s r w h0 h1
def Tryz.lays226_ren:Go.Shelf.Ren:=⟨fun|226=>171|n=>n,fun|3=>3|4=>4|n=>n,fun|n=>n⟩
theorem Tryz.lays226:Go.Proofs.Lays.n226 Tryz.prog Tryz.lays226_ren:={
 mixed:=by kernel_rfl
 f226:=Tryz.func171.trans (congrArg some (by kernel_rfl))
 t3:=Tryz.underlying3
 a3:=Tryz.isAgg3
 z3:=Tryz.sizeOf3
 v3:=Tryz.zeroValue3
 t4:=Tryz.underlying4
 a4:=Tryz.isAgg4
 z4:=Tryz.sizeOf4
 v4:=Tryz.zeroValue4 }
open Go.RowKit Go.Lib in
theorem Tryz.strings_shouldUseASCIISet (n:Int) (w:World) :
  Calls Tryz.prog 171 #[.int .i64 n] w fun e w'=>e=.returned (.bool (decide (8 < n)))∧w'=w:=Any.strings_shouldUseASCIISet Tryz.lays226 n w
def Tryz.lays153_ren:Go.Shelf.Ren:=⟨fun|153=>115|152=>113|226=>171|227=>59|228=>109|137=>100|119=>169|224=>165|225=>164|217=>153|266=>207|n=>n,fun|9=>9|3=>3|4=>4|5=>5|21=>21|117=>105|116=>104|0=>0|46=>232|124=>108|n=>n,fun|n=>n⟩
theorem Tryz.lays153:Go.Proofs.Lays.n153 Tryz.prog Tryz.lays153_ren:={
 mixed:=by kernel_rfl
 f119:=Tryz.func169.trans (congrArg some (by kernel_rfl))
 f137:=Tryz.func100.trans (congrArg some (by kernel_rfl))
 f152:=Tryz.func113.trans (congrArg some (by kernel_rfl))
 f153:=Tryz.func115.trans (congrArg some (by kernel_rfl))
 f217:=Tryz.func153.trans (congrArg some (by kernel_rfl))
 f224:=Tryz.func165.trans (congrArg some (by kernel_rfl))
 f225:=Tryz.func164.trans (congrArg some (by kernel_rfl))
 f226:=Tryz.func171.trans (congrArg some (by kernel_rfl))
 f227:=Tryz.func59.trans (congrArg some (by kernel_rfl))
 f228:=Tryz.func109.trans (congrArg some (by kernel_rfl))
 f266:=Tryz.func207.trans (congrArg some (by kernel_rfl))
 t0:=Tryz.underlying0
 a0:=Tryz.isAgg0
 z0:=Tryz.sizeOf0
 v0:=Tryz.zeroValue0
 t3:=Tryz.underlying3
 a3:=Tryz.isAgg3
 z3:=Tryz.sizeOf3
 v3:=Tryz.zeroValue3
 t4:=Tryz.underlying4
 a4:=Tryz.isAgg4
 z4:=Tryz.sizeOf4
 v4:=Tryz.zeroValue4
 t5:=Tryz.underlying5
 a5:=Tryz.isAgg5
 z5:=Tryz.sizeOf5
 v5:=Tryz.zeroValue5
 t9:=Tryz.underlying9
 a9:=Tryz.isAgg9
 z9:=Tryz.sizeOf9
 v9:=Tryz.zeroValue9
 t21:=Tryz.underlying21
 a21:=Tryz.isAgg21
 z21:=Tryz.sizeOf21
 v21:=Tryz.zeroValue21
 t46:=Tryz.underlying232
 a46:=Tryz.isAgg232
 z46:=Tryz.sizeOf232
 v46:=Tryz.zeroValue232
 t116:=Tryz.underlying104
 a116:=Tryz.isAgg104
 z116:=Tryz.sizeOf104
 t117:=Tryz.underlying105
 a117:=Tryz.isAgg105
 z117:=Tryz.sizeOf105
 v117:=Tryz.zeroValue105
 t124:=Tryz.underlying108
 a124:=Tryz.isAgg108
 z124:=Tryz.sizeOf108
 v124:=Tryz.zeroValue108 }
open Go.RowKit Go.Lib in
theorem Tryz.strings_IndexAny_long (hv116:∀ w,(zeroValue 104).run Tryz.prog w=.ok (.agg (Array.replicate 256 (.bool false))) w) (s chars:ByteArray) (w:World) (h2:2≤chars.size) (h8:8 < s.size) (hs:s.size < 4294967281) (hcs:chars.size < 4294967281) (hascii:∀ (j:Nat) b,chars.data.toList[j]? = some b→b.toNat < 128) :
  Calls Tryz.prog 115 #[.string s,.string chars] w fun e w'=>e=.returned (.int .i64 (Lib.indexAny s.data.toList chars.data.toList))∧w'=((w.alloc (.cells (Lib.setCells chars.data.toList) 104)).alloc (.cells (Lib.setCells chars.data.toList) 104)):=Any.strings_IndexAny_long Tryz.lays153 hv116 (by kernel_rfl) s chars w h2 h8 hs hcs hascii
def Tryz.lays150_ren:Go.Shelf.Ren:=⟨fun|150=>69|153=>115|152=>113|226=>171|227=>59|228=>109|137=>100|119=>169|224=>165|225=>164|217=>153|266=>207|n=>n,fun|9=>9|4=>4|3=>3|5=>5|21=>21|117=>105|116=>104|0=>0|46=>232|124=>108|n=>n,fun|n=>n⟩
theorem Tryz.lays150:Go.Proofs.Lays.n150 Tryz.prog Tryz.lays150_ren:={
 mixed:=by kernel_rfl
 f119:=Tryz.func169.trans (congrArg some (by kernel_rfl))
 f137:=Tryz.func100.trans (congrArg some (by kernel_rfl))
 f150:=Tryz.func69.trans (congrArg some (by kernel_rfl))
 f152:=Tryz.func113.trans (congrArg some (by kernel_rfl))
 f153:=Tryz.func115.trans (congrArg some (by kernel_rfl))
 f217:=Tryz.func153.trans (congrArg some (by kernel_rfl))
 f224:=Tryz.func165.trans (congrArg some (by kernel_rfl))
 f225:=Tryz.func164.trans (congrArg some (by kernel_rfl))
 f226:=Tryz.func171.trans (congrArg some (by kernel_rfl))
 f227:=Tryz.func59.trans (congrArg some (by kernel_rfl))
 f228:=Tryz.func109.trans (congrArg some (by kernel_rfl))
 f266:=Tryz.func207.trans (congrArg some (by kernel_rfl))
 t0:=Tryz.underlying0
 a0:=Tryz.isAgg0
 z0:=Tryz.sizeOf0
 v0:=Tryz.zeroValue0
 t3:=Tryz.underlying3
 a3:=Tryz.isAgg3
 z3:=Tryz.sizeOf3
 v3:=Tryz.zeroValue3
 t4:=Tryz.underlying4
 a4:=Tryz.isAgg4
 z4:=Tryz.sizeOf4
 v4:=Tryz.zeroValue4
 t5:=Tryz.underlying5
 a5:=Tryz.isAgg5
 z5:=Tryz.sizeOf5
 v5:=Tryz.zeroValue5
 t9:=Tryz.underlying9
 a9:=Tryz.isAgg9
 z9:=Tryz.sizeOf9
 v9:=Tryz.zeroValue9
 t21:=Tryz.underlying21
 a21:=Tryz.isAgg21
 z21:=Tryz.sizeOf21
 v21:=Tryz.zeroValue21
 t46:=Tryz.underlying232
 a46:=Tryz.isAgg232
 z46:=Tryz.sizeOf232
 v46:=Tryz.zeroValue232
 t116:=Tryz.underlying104
 a116:=Tryz.isAgg104
 z116:=Tryz.sizeOf104
 t117:=Tryz.underlying105
 a117:=Tryz.isAgg105
 z117:=Tryz.sizeOf105
 v117:=Tryz.zeroValue105
 t124:=Tryz.underlying108
 a124:=Tryz.isAgg108
 z124:=Tryz.sizeOf108
 v124:=Tryz.zeroValue108 }
open Go.RowKit Go.Lib in
theorem Tryz.strings_ContainsAny_laid (s chars:ByteArray) (w:World) (hs:s.size < 4294967281) (hcs:chars.size < 4294967281) (has:∀ (j:Nat) b,s.data.toList[j]? = some b→b.toNat < 128) (hac:∀ (j:Nat) b,chars.data.toList[j]? = some b→b.toNat < 128) :
  Calls Tryz.prog 69 #[.string s,.string chars] w fun e w'=>e=.returned (.bool (Lib.containsAny s.data.toList chars.data.toList))∧Below w.heap.size w w':=Any.strings_ContainsAny_laid Tryz.lays150 (by kernel_rfl) s chars w hs hcs has hac
def Tryz.lays110_ren:Go.Shelf.Ren:=⟨fun|110=>116|109=>172|n=>n,fun|31=>25|9=>9|4=>4|3=>3|0=>0|n=>n,fun|n=>n⟩
theorem Tryz.lays110:Go.Proofs.Lays.n110 Tryz.prog Tryz.lays110_ren:={
 mixed:=by kernel_rfl
 f109:=Tryz.func172.trans (congrArg some (by kernel_rfl))
 f110:=Tryz.func116.trans (congrArg some (by kernel_rfl))
 t0:=Tryz.underlying0
 a0:=Tryz.isAgg0
 z0:=Tryz.sizeOf0
 v0:=Tryz.zeroValue0
 t3:=Tryz.underlying3
 a3:=Tryz.isAgg3
 z3:=Tryz.sizeOf3
 v3:=Tryz.zeroValue3
 t4:=Tryz.underlying4
 a4:=Tryz.isAgg4
 z4:=Tryz.sizeOf4
 v4:=Tryz.zeroValue4
 t9:=Tryz.underlying9
 a9:=Tryz.isAgg9
 z9:=Tryz.sizeOf9
 v9:=Tryz.zeroValue9
 t31:=Tryz.underlying25
 a31:=Tryz.isAgg25
 z31:=Tryz.sizeOf25
 v31:=Tryz.zeroValue25 }
open Go.Lib in
theorem Tryz.slices_Contains_string (b off n c:Nat) (zs:List ByteArray) (x:ByteArray) (w:World) (hz:n≤zs.length) (hbig:n≤9223372036854775807) (hc:∀ j,j < zs.length→w.cell? ⟨b,off + j,none⟩=some (.string (zs.getD j ByteArray.empty))) :
  Calls Tryz.prog 116 #[.slice (some ⟨b,off,none⟩) n c,.string x] w fun e w'=>e=.returned (.bool (Lib.containsS (zs.take n) x))∧w'=w:=Any.slices_Contains_string Tryz.lays110 b off n c zs x w hz hbig hc
def Tryz.laysNm216_ren:Go.Shelf.Ren:=⟨fun|16=>82|n=>n,fun|24=>25|9=>9|4=>4|n=>n,fun|n=>n⟩
theorem Tryz.laysNm216:Go.Proofs.Lays2.n16 Tryz.prog Tryz.laysNm216_ren:={
 mixed:=by kernel_rfl
 f16:=Tryz.func82.trans (congrArg some (by kernel_rfl))
 t4:=Tryz.underlying4
 a4:=Tryz.isAgg4
 z4:=Tryz.sizeOf4
 v4:=Tryz.zeroValue4
 t9:=Tryz.underlying9
 a9:=Tryz.isAgg9
 z9:=Tryz.sizeOf9
 v9:=Tryz.zeroValue9
 t24:=Tryz.underlying25
 a24:=Tryz.isAgg25
 z24:=Tryz.sizeOf25
 v24:=Tryz.zeroValue25
 i9:=by kernel_rfl }
open Go.RowKit Go.Lib in
theorem Tryz.slices_Clone_string (b off n c:Nat) (zs:List ByteArray) (w:World) (hz:n≤zs.length) (hbig:n * 16≤140737488355328) (hc:∀ j,j < zs.length→w.cell? ⟨b,off + j,none⟩=some (.string (zs.getD j ByteArray.empty))) :
  Calls Tryz.prog 82 #[.slice (some ⟨b,off,none⟩) n c] w fun e w'=>∃ v',e=.returned v'∧w'.ownsRow w.heap.size 9 1 v' n ((zs.take n).map (Value.string))∧v'≠.slice none 0 0∧Below w.heap.size w w':=Any.slices_Clone_string Tryz.laysNm216 b off n c zs w hz hbig hc
open Go.RowKit Go.Lib in
theorem Tryz.slices_Clone_string_nil (n c:Nat) (w:World) :
  Calls Tryz.prog 82 #[.slice none n c] w fun e w'=>e=.returned (.slice none 0 0)∧w'=w:=Any.slices_Clone_string_nil Tryz.laysNm216 n c w
def Tryz.laysSlE041_f82_ren:Go.Shelf.Ren:=⟨fun|41=>82|n=>n,fun|22=>25|23=>9|4=>4|n=>n,fun|n=>n⟩
theorem Tryz.laysSlE041_f82:Go.Proofs.SlLaysE0.n41 Tryz.prog Tryz.laysSlE041_f82_ren:={
 mixed:=by kernel_rfl
 f41:=⟨Tryz.f82.name,by decide,Tryz.func82.trans (congrArg some (by kernel_rfl))⟩
 t4:=Tryz.underlying4
 a4:=Tryz.isAgg4
 z4:=Tryz.sizeOf4
 v4:=Tryz.zeroValue4
 t22:=Tryz.underlying25
 a22:=Tryz.isAgg25
 z22:=Tryz.sizeOf25
 v22:=Tryz.zeroValue25 }
open Go.RowKit Go.Lib in
theorem Tryz.slices_Clone (i0:TypeInfo) (z:Value) (size bytes:Nat) (hi:Tryz.prog.info? 9=some i0) (hz0:i0.zero=some z) (hz1:i0.size=size) (hz2:i0.bytes=bytes) (hzs:z.cells.size=size) (hsz:0 < size) (z23:∀ w,(Go.sizeOf 9).run Tryz.prog w=.ok size w) (b off n c:Nat) (news:List Value) (w:World) (hl:news.length=n * size) (hn:n≤maxLen) (hbig:n * bytes≤140737488355328) (hc:∀ j u,news[j]? = some u→w.cell? ⟨b,off + j,none⟩=some u) (h1:∀ u∈news,u.oneCell'=true) :
  Calls Tryz.prog 82 #[.slice (some ⟨b,off,none⟩) n c] w fun e w'=>∃ v',e=.returned v'∧w'.ownsRow w.heap.size 9 size v' n news∧v'≠.slice none 0 0∧Below w.heap.size w w':=AnyE.slices_Clone Tryz.laysSlE041_f82 i0 z size bytes hi hz0 hz1 hz2 hzs hsz z23 b off n c news w hl hn hbig hc h1
open Go.RowKit Go.Lib in
theorem Tryz.slices_Clone_nil (n c:Nat) (w:World) :
  Calls Tryz.prog 82 #[.slice none n c] w fun e w'=>e=.returned (.slice none 0 0)∧w'=w:=AnyE.slices_Clone_nil Tryz.laysSlE041_f82 n c w
end Go.Proofs.YtdlkjofnnefjfaaGreatDoor

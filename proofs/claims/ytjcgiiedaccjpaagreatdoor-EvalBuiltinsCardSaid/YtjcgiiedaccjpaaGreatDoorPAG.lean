/- Parts. -/
import Derived.Shelf.Strings.Builder1
import Derived.Shelf.Strings.Builder2
import Derived.Shelf.Small.Bits
import Derived.Shelf.Small.Strs
import Derived.Shelf.Strings.BuilderF
import Derived.Shelf.Strings.BuilderK
import Derived.Shelf.Utf8.RuneCount
import Derived.Shelf.Strconv.Itoa0
import Derived.Shelf.Strconv.Itoa1
import Derived.Shelf.LaysM
import Derived.Shelf.Strconv.Itoa2
import Derived.Shelf.Strconv.Itoa3
import Derived.Shelf.Strconv.Itoa4
import Derived.Shelf.Strings.Search1
import Derived.Shelf.Strings.Search2
import Derived.Shelf.Strings.Search3
import Derived.Shelf.Strings.Count
import Derived.Shelf.Strings.Shaped
import Derived.Shelf.Sort.Plain
import Derived.Shelf.Strings.Split
import Derived.Shelf.Strings.Fields
import Derived.Shelf.Strings.Replace
import Derived.Shelf.Strings.SplitShaped
import Derived.Shelf.Unicode.Latin
import Derived.Shelf.Unicode.Decode
import Derived.Shelf.Strings.RuneCount
import Derived.Shelf.Unicode.DecodeSlow
import Derived.Shelf.Unicode.DecodeAny
import Derived.Shelf.Unicode.Is16White
import Derived.Shelf.Unicode.IsSpaceAny
import Derived.Shelf.Unicode.Is16WhiteD
import Derived.Shelf.Unicode.IsSpaceAnyD
import Derived.Shelf.Unicode.Is16Any
import Derived.Shelf.Unicode.Is32Any
import Derived.Shelf.Unicode.ExclAny
import Derived.Shelf.Slices.Turned
import Derived.Shelf.Slices.CompactS
import Derived.Shelf.Slices.Cells
import Derived.Shelf.Slices.In.SortNone
import Derived.Test.YtjcgiiedaccjpaaGreatDoorProg
import Derived.Lib.ItoaLen
import Derived.Test.YtjcgiiedaccjpaaGreatDoorPAB
set_option maxHeartbeats 16000000
namespace Go.Proofs
open _root_.Go.Proofs.Tryz
open Go.Shelf
def Tryz.lays137_ren: Go.Shelf.Ren:=⟨fun|137=>186|217=>222|266=>241|n=>n,fun|9=>9|5=>5|3=>3|n=>n,fun|n=>n⟩
theorem Tryz.lays137: Go.Proofs.Lays.n137 prog Tryz.lays137_ren:={
 mixed:=by kernel_rfl
 f137:=func186.trans (congrArg some (by kernel_rfl))
 f217:=func222.trans (congrArg some (by kernel_rfl))
 f266:=func241.trans (congrArg some (by kernel_rfl))
 t3:=Tryz.underlying3
 a3:=Tryz.isAgg3
 z3:=Tryz.sizeOf3
 v3:=Tryz.zeroValue3
 t5:=Tryz.underlying5
 a5:=Tryz.isAgg5
 z5:=Tryz.sizeOf5
 v5:=Tryz.zeroValue5
 t9:=Tryz.underlying9
 a9:=Tryz.isAgg9
 z9:=Tryz.sizeOf9
 v9:=Tryz.zeroValue9 }
open Go.RowKit in
theorem Tryz.strings_IndexByte(s:ByteArray)(c:Int)(w:World):
  Calls prog 186 #[.string s,.int .u8 c] w fun e w'=>e=.returned (.int .i64 (Lib.indexByte s.data.toList c.toNat.toUInt8))/\w'=w:=Any.strings_IndexByte Tryz.lays137 s c w
def Tryz.laysM173_ren: Go.Shelf.Ren:=⟨fun|173=>151|246=>183|283=>217|284=>218|285=>219|286=>220|129=>202|317=>235|318=>236|319=>237|320=>238|337=>244|338=>245|n=>n,fun|2=>2|3=>3|9=>9|4=>4|171=>251|0=>0|53=>195|37=>219|5=>5|173=>253|212=>270|51=>243|20=>20|213=>271|46=>211|232=>284|233=>285|n=>n,fun|17=>3|18=>6|19=>7|n=>n⟩
theorem Tryz.laysM173: Go.Proofs.LaysM.n173 prog Tryz.laysM173_ren:={
 mixed:=by kernel_rfl
 f129:=func202.trans (congrArg some (by kernel_rfl))
 f173:=func151.trans (congrArg some (by kernel_rfl))
 f246:=func183.trans (congrArg some (by kernel_rfl))
 f283:=func217.trans (congrArg some (by kernel_rfl))
 f284:=func218.trans (congrArg some (by kernel_rfl))
 f285:=func219.trans (congrArg some (by kernel_rfl))
 f286:=func220.trans (congrArg some (by kernel_rfl))
 f317:=func235.trans (congrArg some (by kernel_rfl))
 f318:=func236.trans (congrArg some (by kernel_rfl))
 f319:=func237.trans (congrArg some (by kernel_rfl))
 f320:=func238.trans (congrArg some (by kernel_rfl))
 f337:=func244.trans (congrArg some (by kernel_rfl))
 f338:=func245.trans (congrArg some (by kernel_rfl))
 t0:=Tryz.underlying0
 a0:=Tryz.isAgg0
 z0:=Tryz.sizeOf0
 v0:=Tryz.zeroValue0
 t2:=Tryz.underlying2
 a2:=Tryz.isAgg2
 z2:=Tryz.sizeOf2
 v2:=Tryz.zeroValue2
 t3:=Tryz.underlying3
 a3:=Tryz.isAgg3
 z3:=Tryz.sizeOf3
 v3:=Tryz.zeroValue3
 t4:=Tryz.underlying4
 a4:=Tryz.isAgg4
 z4:=Tryz.sizeOf4
 v4:=Tryz.zeroValue4
 t5:=Tryz.underlying5
 a5:=Tryz.isAgg5
 z5:=Tryz.sizeOf5
 v5:=Tryz.zeroValue5
 t9:=Tryz.underlying9
 a9:=Tryz.isAgg9
 z9:=Tryz.sizeOf9
 v9:=Tryz.zeroValue9
 t20:=Tryz.underlying20
 a20:=Tryz.isAgg20
 z20:=Tryz.sizeOf20
 v20:=Tryz.zeroValue20
 t37:=Tryz.underlying219
 a37:=Tryz.isAgg219
 z37:=Tryz.sizeOf219
 v37:=Tryz.zeroValue219
 t46:=Tryz.underlying211
 a46:=Tryz.isAgg211
 z46:=Tryz.sizeOf211
 v46:=Tryz.zeroValue211
 t51:=Tryz.underlying243
 a51:=Tryz.isAgg243
 z51:=Tryz.sizeOf243
 v51:=Tryz.zeroValue243
 t53:=Tryz.underlying195
 a53:=Tryz.isAgg195
 z53:=Tryz.sizeOf195
 v53:=Tryz.zeroValue195
 t171:=Tryz.underlying251
 a171:=Tryz.isAgg251
 z171:=Tryz.sizeOf251
 v171:=Tryz.zeroValue251
 t173:=Tryz.underlying253
 a173:=Tryz.isAgg253
 z173:=Tryz.sizeOf253
 v173:=Tryz.zeroValue253
 t212:=Tryz.underlying270
 a212:=Tryz.isAgg270
 z212:=Tryz.sizeOf270
 v212:=Tryz.zeroValue270
 t213:=Tryz.underlying271
 a213:=Tryz.isAgg271
 z213:=Tryz.sizeOf271
 t232:=Tryz.underlying284
 a232:=Tryz.isAgg284
 z232:=Tryz.sizeOf284
 v232:=Tryz.zeroValue284
 t233:=Tryz.underlying285
 a233:=Tryz.isAgg285
 z233:=Tryz.sizeOf285
 v233:=Tryz.zeroValue285
 g17:=by kernel_rfl
 g18:=by kernel_rfl
 g19:=by kernel_rfl
 i0:=by kernel_rfl
 i2:=by kernel_rfl
 i3:=by kernel_rfl
 i4:=by kernel_rfl
 i5:=by kernel_rfl
 i9:=by kernel_rfl
 i20:=by kernel_rfl
 i37:=by kernel_rfl
 i46:=by kernel_rfl
 i51:=by kernel_rfl
 i53:=by kernel_rfl
 i171:=by kernel_rfl
 i173:=by kernel_rfl
 i212:=by kernel_rfl
 i232:=by kernel_rfl
 i233:=by kernel_rfl
 m17:=by kernel_rfl
 m18:=by kernel_rfl
 m19:=by kernel_rfl }
open Go.RowKit Go.Sort Go.Lib in
theorem Tryz.strconv_FormatInt_10(n:Int)(h0:-9223372036854775808<=n)(h1:n<=9223372036854775807)(w:World)(htab:Lib.TabIs prog w "internal/strconv.uint64pow10" .u64 Lib.pow10Tab):
  Calls prog 151 #[.int .i64 n,.int .i64 10] w fun e w'=>e=.returned (.string ⟨(Lib.itoa n).toArray⟩)/\∃k os,w'=grow (w.drewN k) os:=Any.strconv_FormatInt_10 Tryz.laysM173 n h0 h1 w htab
def Tryz.lays190_ren: Go.Shelf.Ren:=⟨fun|190=>131|125=>170|258=>169|128=>201|129=>202|302=>192|303=>193|304=>194|305=>195|306=>196|307=>197|308=>198|309=>199|310=>200|333=>224|329=>225|330=>226|334=>227|335=>228|336=>229|344=>242|n=>n,fun|31=>27|9=>9|3=>3|46=>211|0=>0|51=>243|53=>195|4=>4|183=>235|182=>234|131=>240|5=>5|218=>256|222=>260|228=>274|229=>275|n=>n,fun|n=>n⟩
theorem Tryz.lays190: Go.Proofs.Lays.n190 prog Tryz.lays190_ren:={
 mixed:=by kernel_rfl
 f125:=func170.trans (congrArg some (by kernel_rfl))
 f128:=func201.trans (congrArg some (by kernel_rfl))
 f129:=func202.trans (congrArg some (by kernel_rfl))
 f190:=func131.trans (congrArg some (by kernel_rfl))
 f258:=func169.trans (congrArg some (by kernel_rfl))
 f302:=func192.trans (congrArg some (by kernel_rfl))
 f303:=func193.trans (congrArg some (by kernel_rfl))
 f304:=func194.trans (congrArg some (by kernel_rfl))
 f305:=func195.trans (congrArg some (by kernel_rfl))
 f306:=func196.trans (congrArg some (by kernel_rfl))
 f307:=func197.trans (congrArg some (by kernel_rfl))
 f308:=func198.trans (congrArg some (by kernel_rfl))
 f309:=func199.trans (congrArg some (by kernel_rfl))
 f310:=func200.trans (congrArg some (by kernel_rfl))
 f329:=func225.trans (congrArg some (by kernel_rfl))
 f330:=func226.trans (congrArg some (by kernel_rfl))
 f333:=func224.trans (congrArg some (by kernel_rfl))
 f334:=func227.trans (congrArg some (by kernel_rfl))
 f335:=func228.trans (congrArg some (by kernel_rfl))
 f336:=func229.trans (congrArg some (by kernel_rfl))
 f344:=func242.trans (congrArg some (by kernel_rfl))
 t0:=Tryz.underlying0
 a0:=Tryz.isAgg0
 z0:=Tryz.sizeOf0
 v0:=Tryz.zeroValue0
 t3:=Tryz.underlying3
 a3:=Tryz.isAgg3
 z3:=Tryz.sizeOf3
 v3:=Tryz.zeroValue3
 t4:=Tryz.underlying4
 a4:=Tryz.isAgg4
 z4:=Tryz.sizeOf4
 v4:=Tryz.zeroValue4
 t5:=Tryz.underlying5
 a5:=Tryz.isAgg5
 z5:=Tryz.sizeOf5
 v5:=Tryz.zeroValue5
 t9:=Tryz.underlying9
 a9:=Tryz.isAgg9
 z9:=Tryz.sizeOf9
 v9:=Tryz.zeroValue9
 t31:=Tryz.underlying27
 a31:=Tryz.isAgg27
 z31:=Tryz.sizeOf27
 v31:=Tryz.zeroValue27
 t46:=Tryz.underlying211
 a46:=Tryz.isAgg211
 z46:=Tryz.sizeOf211
 v46:=Tryz.zeroValue211
 t51:=Tryz.underlying243
 a51:=Tryz.isAgg243
 z51:=Tryz.sizeOf243
 v51:=Tryz.zeroValue243
 t53:=Tryz.underlying195
 a53:=Tryz.isAgg195
 z53:=Tryz.sizeOf195
 v53:=Tryz.zeroValue195
 t131:=Tryz.underlying240
 a131:=Tryz.isAgg240
 z131:=Tryz.sizeOf240
 v131:=Tryz.zeroValue240
 t182:=Tryz.underlying234
 a182:=Tryz.isAgg234
 z182:=Tryz.sizeOf234
 v182:=Tryz.zeroValue234
 t183:=Tryz.underlying235
 a183:=Tryz.isAgg235
 z183:=Tryz.sizeOf235
 v183:=Tryz.zeroValue235
 t218:=Tryz.underlying256
 a218:=Tryz.isAgg256
 z218:=Tryz.sizeOf256
 v218:=Tryz.zeroValue256
 t222:=Tryz.underlying260
 a222:=Tryz.isAgg260
 z222:=Tryz.sizeOf260
 v222:=Tryz.zeroValue260
 t228:=Tryz.underlying274
 a228:=Tryz.isAgg274
 z228:=Tryz.sizeOf274
 v228:=Tryz.zeroValue274
 t229:=Tryz.underlying275
 a229:=Tryz.isAgg275
 z229:=Tryz.sizeOf275
 v229:=Tryz.zeroValue275 }
open Go.Sort Go.RowKit in
theorem Tryz.slices_Sort_string(blk off cap:Nat)(ss:List (List UInt8))(w:World)(hH:Holds encStr w blk off ss.toArray)(hblk:blk<w.heap.size)(hsz:ss.length<4611686018427387904):
  Calls prog 131 #[.slice (some ⟨blk,off,none⟩) ss.length cap] w fun e w' =>
   e=.returned (.tuple #[])/\∃n os,w'=grow (putRow encStr (Sort.ahead w n) blk off (ss.mergeSort fun x y=>decide (x<=y)).toArray) os:=Any.slices_Sort_string Tryz.lays190 blk off cap ss w hH hblk hsz
def Tryz.lays154_ren: Go.Shelf.Ren:=⟨fun|154=>150|138=>177|165=>178|143=>179|166=>180|197=>181|169=>182|195=>211|218=>212|240=>213|241=>214|219=>215|260=>216|276=>230|277=>231|217=>222|225=>232|224=>233|267=>234|266=>241|314=>243|n=>n,fun|9=>9|3=>3|4=>4|72=>221|0=>0|76=>225|105=>227|21=>21|5=>5|70=>218|20=>20|37=>219|75=>224|127=>249|164=>262|46=>211|119=>265|139=>268|138=>267|146=>277|51=>243|80=>229|n=>n,fun|1=>0|3=>1|4=>2|n=>n⟩
theorem Tryz.lays154: Go.Proofs.Lays.n154 prog Tryz.lays154_ren:={
 mixed:=by kernel_rfl
 f138:=func177.trans (congrArg some (by kernel_rfl))
 f143:=func179.trans (congrArg some (by kernel_rfl))
 f154:=func150.trans (congrArg some (by kernel_rfl))
 f165:=func178.trans (congrArg some (by kernel_rfl))
 f166:=func180.trans (congrArg some (by kernel_rfl))
 f169:=func182.trans (congrArg some (by kernel_rfl))
 f195:=func211.trans (congrArg some (by kernel_rfl))
 f197:=func181.trans (congrArg some (by kernel_rfl))
 f217:=func222.trans (congrArg some (by kernel_rfl))
 f218:=func212.trans (congrArg some (by kernel_rfl))
 f219:=func215.trans (congrArg some (by kernel_rfl))
 f224:=func233.trans (congrArg some (by kernel_rfl))
 f225:=func232.trans (congrArg some (by kernel_rfl))
 f240:=func213.trans (congrArg some (by kernel_rfl))
 f241:=func214.trans (congrArg some (by kernel_rfl))
 f260:=func216.trans (congrArg some (by kernel_rfl))
 f266:=func241.trans (congrArg some (by kernel_rfl))
 f267:=func234.trans (congrArg some (by kernel_rfl))
 f276:=func230.trans (congrArg some (by kernel_rfl))
 f277:=func231.trans (congrArg some (by kernel_rfl))
 f314:=func243.trans (congrArg some (by kernel_rfl))
 t0:=Tryz.underlying0
 a0:=Tryz.isAgg0
 z0:=Tryz.sizeOf0
 v0:=Tryz.zeroValue0
 t3:=Tryz.underlying3
 a3:=Tryz.isAgg3
 z3:=Tryz.sizeOf3
 v3:=Tryz.zeroValue3
 t4:=Tryz.underlying4
 a4:=Tryz.isAgg4
 z4:=Tryz.sizeOf4
 v4:=Tryz.zeroValue4
 t5:=Tryz.underlying5
 a5:=Tryz.isAgg5
 z5:=Tryz.sizeOf5
 v5:=Tryz.zeroValue5
 t9:=Tryz.underlying9
 a9:=Tryz.isAgg9
 z9:=Tryz.sizeOf9
 v9:=Tryz.zeroValue9
 t20:=Tryz.underlying20
 a20:=Tryz.isAgg20
 z20:=Tryz.sizeOf20
 v20:=Tryz.zeroValue20
 t21:=Tryz.underlying21
 a21:=Tryz.isAgg21
 z21:=Tryz.sizeOf21
 v21:=Tryz.zeroValue21
 t37:=Tryz.underlying219
 a37:=Tryz.isAgg219
 z37:=Tryz.sizeOf219
 v37:=Tryz.zeroValue219
 t46:=Tryz.underlying211
 a46:=Tryz.isAgg211
 z46:=Tryz.sizeOf211
 v46:=Tryz.zeroValue211
 t51:=Tryz.underlying243
 a51:=Tryz.isAgg243
 z51:=Tryz.sizeOf243
 v51:=Tryz.zeroValue243
 t70:=Tryz.underlying218
 a70:=Tryz.isAgg218
 z70:=Tryz.sizeOf218
 v70:=Tryz.zeroValue218
 t72:=Tryz.underlying221
 a72:=Tryz.isAgg221
 z72:=Tryz.sizeOf221
 v72:=Tryz.zeroValue221
 t75:=Tryz.underlying224
 a75:=Tryz.isAgg224
 z75:=Tryz.sizeOf224
 v75:=Tryz.zeroValue224
 t76:=Tryz.underlying225
 a76:=Tryz.isAgg225
 z76:=Tryz.sizeOf225
 v76:=Tryz.zeroValue225
 t105:=Tryz.underlying227
 a105:=Tryz.isAgg227
 z105:=Tryz.sizeOf227
 v105:=Tryz.zeroValue227
 t119:=Tryz.underlying265
 a119:=Tryz.isAgg265
 z119:=Tryz.sizeOf265
 t127:=Tryz.underlying249
 a127:=Tryz.isAgg249
 z127:=Tryz.sizeOf249
 v127:=Tryz.zeroValue249
 t138:=Tryz.underlying267
 a138:=Tryz.isAgg267
 z138:=Tryz.sizeOf267
 v138:=Tryz.zeroValue267
 t139:=Tryz.underlying268
 a139:=Tryz.isAgg268
 z139:=Tryz.sizeOf268
 v139:=Tryz.zeroValue268
 t146:=Tryz.underlying277
 a146:=Tryz.isAgg277
 z146:=Tryz.sizeOf277
 v146:=Tryz.zeroValue277
 t164:=Tryz.underlying262
 a164:=Tryz.isAgg262
 z164:=Tryz.sizeOf262
 v164:=Tryz.zeroValue262
 g1:=by kernel_rfl
 g3:=by kernel_rfl
 g4:=by kernel_rfl }
theorem Tryz.Builder_Extra_154: Builder.Extra prog Tryz.lays154_ren:={
 sizeBuilder:=by kernel_rfl
 liesBuilder:=by kernel_rfl
 t5:=Tryz.underlying5
 a5:=Tryz.isAgg5
 z5:=Tryz.sizeOf5
 v5:=Tryz.zeroValue5
 infoByte:=by kernel_rfl
 cellsByte:=by kernel_rfl
 sizeByte:=by kernel_rfl
 neB5:=by decide }
open Go.RowKit Go.Lib in
theorem Tryz.strings_Replace(s old new:ByteArray)(n:Int)(m:Int)(w:World)(hs:s.size<4294967281)(hm:w.cell? ⟨0,0,none⟩=some (.int .i64 m))(h1:1<=old.size)(hlen:s.size+Lib.countB s old*new.size<=140737488355328):
  Calls prog 150 #[.string s,.string old,.string new,.int .i64 n] w fun e w' =>
   e=.returned (.string ⟨(Lib.replace s.data.toList old.data.toList new.data.toList n).toArray⟩)/\Below w.heap.size w w':=Any.strings_Replace Tryz.lays154 Tryz.Builder_Extra_154 s old new n m w hs hm h1 hlen
def Tryz.laysM157_ren: Go.Shelf.Ren:=⟨fun|157=>221|229=>239|199=>240|261=>246|311=>247|312=>248|n=>n,fun|9=>9|31=>27|3=>3|5=>5|4=>4|119=>265|0=>0|40=>273|152=>279|21=>21|154=>281|51=>243|141=>283|196=>289|193=>286|198=>292|49=>290|194=>287|201=>295|226=>297|46=>211|227=>298|n=>n,fun|0=>4|6=>5|n=>n⟩
theorem Tryz.laysM157: Go.Proofs.LaysM.n157 prog Tryz.laysM157_ren:={
 mixed:=by kernel_rfl
 f157:=func221.trans (congrArg some (by kernel_rfl))
 f199:=func240.trans (congrArg some (by kernel_rfl))
 f229:=func239.trans (congrArg some (by kernel_rfl))
 f261:=func246.trans (congrArg some (by kernel_rfl))
 f311:=func247.trans (congrArg some (by kernel_rfl))
 f312:=func248.trans (congrArg some (by kernel_rfl))
 t0:=Tryz.underlying0
 a0:=Tryz.isAgg0
 z0:=Tryz.sizeOf0
 v0:=Tryz.zeroValue0
 t3:=Tryz.underlying3
 a3:=Tryz.isAgg3
 z3:=Tryz.sizeOf3
 v3:=Tryz.zeroValue3
 t4:=Tryz.underlying4
 a4:=Tryz.isAgg4
 z4:=Tryz.sizeOf4
 v4:=Tryz.zeroValue4
 t5:=Tryz.underlying5
 a5:=Tryz.isAgg5
 z5:=Tryz.sizeOf5
 v5:=Tryz.zeroValue5
 t9:=Tryz.underlying9
 a9:=Tryz.isAgg9
 z9:=Tryz.sizeOf9
 v9:=Tryz.zeroValue9
 t21:=Tryz.underlying21
 a21:=Tryz.isAgg21
 z21:=Tryz.sizeOf21
 v21:=Tryz.zeroValue21
 t31:=Tryz.underlying27
 a31:=Tryz.isAgg27
 z31:=Tryz.sizeOf27
 v31:=Tryz.zeroValue27
 t40:=Tryz.underlying273
 a40:=Tryz.isAgg273
 z40:=Tryz.sizeOf273
 v40:=Tryz.zeroValue273
 t46:=Tryz.underlying211
 a46:=Tryz.isAgg211
 z46:=Tryz.sizeOf211
 v46:=Tryz.zeroValue211
 t49:=Tryz.underlying290
 a49:=Tryz.isAgg290
 z49:=Tryz.sizeOf290
 v49:=Tryz.zeroValue290
 t51:=Tryz.underlying243
 a51:=Tryz.isAgg243
 z51:=Tryz.sizeOf243
 v51:=Tryz.zeroValue243
 t119:=Tryz.underlying265
 a119:=Tryz.isAgg265
 z119:=Tryz.sizeOf265
 t141:=Tryz.underlying283
 a141:=Tryz.isAgg283
 z141:=Tryz.sizeOf283
 v141:=Tryz.zeroValue283
 t152:=Tryz.underlying279
 a152:=Tryz.isAgg279
 z152:=Tryz.sizeOf279
 v152:=Tryz.zeroValue279
 t154:=Tryz.underlying281
 a154:=Tryz.isAgg281
 z154:=Tryz.sizeOf281
 v154:=Tryz.zeroValue281
 t193:=Tryz.underlying286
 a193:=Tryz.isAgg286
 z193:=Tryz.sizeOf286
 v193:=Tryz.zeroValue286
 t194:=Tryz.underlying287
 a194:=Tryz.isAgg287
 z194:=Tryz.sizeOf287
 v194:=Tryz.zeroValue287
 t196:=Tryz.underlying289
 a196:=Tryz.isAgg289
 z196:=Tryz.sizeOf289
 v196:=Tryz.zeroValue289
 t198:=Tryz.underlying292
 a198:=Tryz.isAgg292
 z198:=Tryz.sizeOf292
 v198:=Tryz.zeroValue292
 t201:=Tryz.underlying295
 a201:=Tryz.isAgg295
 z201:=Tryz.sizeOf295
 v201:=Tryz.zeroValue295
 t226:=Tryz.underlying297
 a226:=Tryz.isAgg297
 z226:=Tryz.sizeOf297
 v226:=Tryz.zeroValue297
 t227:=Tryz.underlying298
 a227:=Tryz.isAgg298
 z227:=Tryz.sizeOf298
 v227:=Tryz.zeroValue298
 g0:=by kernel_rfl
 g6:=by kernel_rfl
 i0:=by kernel_rfl
 i3:=by kernel_rfl
 i4:=by kernel_rfl
 i5:=by kernel_rfl
 i9:=by kernel_rfl
 i21:=by kernel_rfl
 i31:=by kernel_rfl
 i40:=by kernel_rfl
 i46:=by kernel_rfl
 i49:=by kernel_rfl
 i51:=by kernel_rfl
 i141:=by kernel_rfl
 i152:=by kernel_rfl
 i154:=by kernel_rfl
 i193:=by kernel_rfl
 i194:=by kernel_rfl
 i196:=by kernel_rfl
 i198:=by kernel_rfl
 i201:=by kernel_rfl
 i226:=by kernel_rfl
 i227:=by kernel_rfl
 m0:=by kernel_rfl
 m6:=by kernel_rfl }
open Go.RowKit Go.Lib in
theorem Tryz.strings_Fields_laid(s:ByteArray)(w:World)(hs:s.size<4294967281)(hascii:∀(j:Nat) b,s.data.toList[j]?=some b->b.toNat<128)(htab:Lib.TabIs prog w "strings.asciiSpace" .u8 Lib.asciiSpaceTab):
  Calls prog 221 #[.string s] w fun e w' =>
   e=.returned (.slice (some ⟨w.heap.size,0,none⟩) (Lib.fields s.data.toList).length (Lib.fields s.data.toList).length)/\w'=w.alloc (.cells ((Lib.fields s.data.toList).map fun l=>Value.string ⟨l.toArray⟩).toArray 9):=Any.strings_Fields_laid Tryz.laysM157 s w hs hascii htab
def Tryz.lays194_ren: Go.Shelf.Ren:=⟨fun|194=>132|n=>n,fun|31=>27|9=>9|3=>3|4=>4|0=>0|n=>n,fun|n=>n⟩
theorem Tryz.lays194: Go.Proofs.Lays.n194 prog Tryz.lays194_ren:={
 mixed:=by kernel_rfl
 f194:=func132.trans (congrArg some (by kernel_rfl))
 t0:=Tryz.underlying0
 a0:=Tryz.isAgg0
 z0:=Tryz.sizeOf0
 v0:=Tryz.zeroValue0
 t3:=Tryz.underlying3
 a3:=Tryz.isAgg3
 z3:=Tryz.sizeOf3
 v3:=Tryz.zeroValue3
 t4:=Tryz.underlying4
 a4:=Tryz.isAgg4
 z4:=Tryz.sizeOf4
 v4:=Tryz.zeroValue4
 t9:=Tryz.underlying9
 a9:=Tryz.isAgg9
 z9:=Tryz.sizeOf9
 v9:=Tryz.zeroValue9
 t31:=Tryz.underlying27
 a31:=Tryz.isAgg27
 z31:=Tryz.sizeOf27
 v31:=Tryz.zeroValue27 }
open Go.RowKit Go.Lib Go.Sort in
theorem Tryz.slices_Compact_string(blk off cap:Nat)(zs:List (List UInt8))(w:World)(hH:Holds encStr w blk off zs.toArray)(hsz:zs.length<=9223372036854775807)(hcap:zs.length<=cap):
  Calls prog 132 #[.slice (some ⟨blk,off,none⟩) zs.length cap] w fun e w'=>e=.returned (.slice (some ⟨blk,off,none⟩) (Lib.compact zs).length cap)/\∃q,w'=putRow encStr (Sort.ahead w q) blk off (Lib.compact zs++List.replicate (zs.length-(Lib.compact zs).length) []).toArray:=Any.slices_Compact_string Tryz.lays194 blk off cap zs w hH hsz hcap
end Go.Proofs
namespace Go.Proofs.YtjcgiiedaccjpaaGreatDoor
open _root_.Go.Proofs.Tryz
open Go.Sx Go.RowKit
theorem zVR: zBU prog 216=some 1:=by kernel_rfl
theorem zb3: zBU prog 219=some 1:=by kernel_rfl
theorem zad: (zCB prog 216).isSome=true:=by kernel_rfl
theorem zXm: zCB prog 216=some 2:=by kernel_rfl
theorem zab: zCB prog 219=some 5:=by kernel_rfl
theorem zTd: zBh prog 2=some (false,1):=by kernel_rfl
theorem za6: (zBv prog 2).isSome=true:=by kernel_rfl
theorem zck: (zBv prog 5).isSome=true:=by kernel_rfl
theorem ui64: prog.underlying 2=some (.int .i64):=by kernel_rfl
theorem uint: prog.underlying 3=some (.int .i64):=by kernel_rfl
theorem uu64: prog.underlying 195=some (.int .u64):=by kernel_rfl
theorem uu8: prog.underlying 5=some (.int .u8):=by kernel_rfl
theorem ustr: prog.underlying 9=some .string:=by kernel_rfl
theorem zIM: prog.underlying 4=some .bool:=by kernel_rfl
theorem uu8s: prog.underlying 219=some (.slice 5):=by kernel_rfl
theorem si64: (prog.underlying 2).isSome=true:=by kernel_rfl
theorem su64: (prog.underlying 195).isSome=true:=by kernel_rfl
theorem si32: (prog.underlying 21).isSome=true:=by kernel_rfl
theorem zGF: zAQ prog 149=true:=by kernel_rfl
theorem zZ8: zAQ prog 88=true:=by kernel_rfl
theorem zZ6: zAQ prog 90=true:=by kernel_rfl
theorem zZ7: zAQ prog 92=true:=by kernel_rfl
theorem zUk: zAQ prog 94=true:=by kernel_rfl
theorem zUj: zAQ prog 97=true:=by kernel_rfl
theorem zZ5: zAQ prog 148=true:=by kernel_rfl
theorem zXN: zAQ prog 107=true:=by kernel_rfl
theorem zIj: zAQ prog 161=true:=by kernel_rfl
theorem zaF: zAQ prog 206=true:=by kernel_rfl
theorem zaA: zAQ prog 207=true:=by kernel_rfl
theorem zaB: zAQ prog 208=true:=by kernel_rfl
theorem zaE: zAQ prog 209=true:=by kernel_rfl
theorem zaC: zAQ prog 210=true:=by kernel_rfl
theorem zRE: zAQ prog 175=true:=by kernel_rfl
theorem zKz: zAQ prog 187=true:=by kernel_rfl
theorem zPt: zAQ prog 205=true:=by kernel_rfl
theorem zSX: zAQ prog 150=true:=by kernel_rfl
theorem zOZ: zAQ prog 151=true:=by kernel_rfl
def ints(L:List Int): D:=.slice (L.map i64)
theorem zCD(n:Int): IntKind.u64.wrap n=n%18446744073709551616:=by simp[IntKind.wrap,IntKind.bits,IntKind.signed]
theorem zD6(n:Int): IntKind.i64.wrap n=(n+9223372036854775808)%18446744073709551616-9223372036854775808:=by
 simp[IntKind.wrap,IntKind.bits,IntKind.signed];split <;> omega
theorem zTI(n:Int): IntKind.u8.wrap n=n%256:=by simp[IntKind.wrap,IntKind.bits,IntKind.signed]
def W(n:Int): Int:=(n+4611686018427387904)%9223372036854775808-4611686018427387904
theorem W_bd(n:Int): -4611686018427387904<=W n/\W n<=4611686018427387903:=by unfold W;omega
theorem zPM(n:Int)(h0:-9223372036854775808<=n)(h1:n<=9223372036854775807): zAX prog 151 [i64 n,i64 10] (str (Lib.itoa n)) :=
 zHy (us:=[.int .i64 n,.int .i64 10]) (fun _ _=>.val _) fun _ w hgl=>(Tryz.strconv_FormatInt_10 n h0 h1 w (by
  obtain⟨_,_,⟨e,t,h3⟩,_⟩:=hgl
  have key:∀(o:Option Nat),o=some 3->(o.bind fun g=>match w.heap[g]? with|some (.cells cs _ _)=>some cs|_=>none)=some (Lib.pow10Tab.map fun z=>Value.int .u64 z).toArray:=by
   rintro _ rfl;simp only[qBQ,h3]
  exact key _ kR)).mono fun e w' ⟨he,k,os,hw⟩=>⟨he,by
   subst hw
   exact⟨rfl,rfl,rfl,by simp[Sort.grow,World.drewN],fun i hi=>by simp[Sort.grow,World.drewN,Array.getElem?_append,hi]⟩⟩
theorem zS8(s a b:List UInt8)(n:Int)(ha:1<=a.length)(hs:s.length<=1000)(hb:b.length<=1000): zAX prog 150 [str s,str a,str b,i64 n] (str (Lib.replace s a b n)) :=
 zHy (us:=[.string ⟨s.toArray⟩,.string ⟨a.toArray⟩,.string ⟨b.toArray⟩,.int .i64 n]) (fun _ _=>.val _) fun _ w hgl=>by
  obtain⟨_,⟨m,e,t,h0⟩,_⟩:=hgl
  refine(Tryz.strings_Replace ⟨s.toArray⟩ ⟨a.toArray⟩ ⟨b.toArray⟩ n m w (by rw[zDR];omega) ?_ (by rw[zDR];exact ha) ?_).mono fun e w' ⟨he,hw⟩=>⟨he,hw⟩
  ·exact cell_of_row w 0 0 _ e t h0
  ·have h1:=Lib.count_le s a
   have h2:Lib.countB ⟨s.toArray⟩ ⟨a.toArray⟩=Lib.count s a:=rfl
   rw[h2,zDR,zDR]
   have h3:=Nat.mul_le_mul (show Lib.count s a<=1001 by omega) hb
   omega
end Go.Proofs.YtjcgiiedaccjpaaGreatDoor
namespace Go.Proofs.YtjcgiiedaccjpaaGreatDoor
open Go.Sx
structure Tk where
 kind:Int
 text:List UInt8
 num:Int
 pos:Int
deriving DecidableEq
def signL: List UInt8:=[33,36,37,38,42,43,45,47,58,60,61,62,63,64,94,124]
def zFV(c:UInt8): Bool:=signL.contains c
def zGS(c:UInt8): Bool:=decide (97<=c.toNat/\c.toNat<=122)
def zGT(c:UInt8): Bool:=decide (65<=c.toNat/\c.toNat<=90)
def zH3(c:UInt8): Bool:=decide (48<=c.toNat/\c.toNat<=57)
def zG0(c:UInt8): Bool:=zGS c||zGT c||zH3 c||c==95||c==39
def kws: List (List UInt8):=[[108,101,116],[114,101,99],[105,110],[102,117,110],[105,102],[116,104,101,110],[101,108,115,101],[109,97,116,99,104],[119,105,116,104],[101,110,100],[114,97,105,115,101],[116,114,121],[111,112,101,110],[116,121,112,101],[111,102],[105,110,102,105,120,108],[105,110,102,105,120,114],[105,110,102,105,120],[45,62],[61],[124],[40],[41],[95],[59,59]]
def zSS(s:List UInt8): Bool:=kws.contains s
def zLV(p:UInt8->Bool): List UInt8->Nat
 |[]=>0
 |c::s=>if p c then zLV p s+1 else 0
open _root_.Go.Proofs.Tryz
open Go.RowKit
theorem zA6: zBU prog 27=some 1:=by kernel_rfl
theorem zBz: (zCB prog 27).isSome=true:=by kernel_rfl
theorem zBL: zCB prog 27=some 9:=by kernel_rfl
theorem fo_0: zA7 prog 163 0=some 0:=by kernel_rfl
theorem fo_1: zA7 prog 163 1=some 1:=by kernel_rfl
theorem fo_2: zA7 prog 163 2=some 2:=by kernel_rfl
theorem fo_3: zA7 prog 163 3=some 3:=by kernel_rfl
theorem zNo: zBh prog 9=some (false,1):=by kernel_rfl
theorem zLl: zBh prog 3=some (false,1):=by kernel_rfl
theorem zTc: zBh prog 161=some (false,1):=by kernel_rfl
theorem zCK: zBh prog 27=some (false,1):=by kernel_rfl
theorem zDe: zDf prog 9=some 1:=by kernel_rfl
theorem zCx: zDZ prog 27=some 16:=by kernel_rfl
theorem zCq: (zBv prog 9).isSome=true:=by kernel_rfl
theorem zEq: zBv prog 163=some [.int .i64 0,.string ByteArray.empty,.int .i64 0,.int .i64 0]:=by kernel_rfl
theorem zYm: zAQ prog 155=true:=by kernel_rfl
theorem zXM: zAQ prog 185=true:=by kernel_rfl
theorem zRD: zAQ prog 156=true:=by kernel_rfl
theorem zRF: zAQ prog 157=true:=by kernel_rfl
theorem zXT: zAQ prog 184=true:=by kernel_rfl
theorem zXS: zAQ prog 154=true:=by kernel_rfl
theorem zZ9: zAQ prog 158=true:=by kernel_rfl
theorem zYl: zAQ prog 153=true:=by kernel_rfl
theorem zIl: zAQ prog 109=true:=by kernel_rfl
theorem zOX: zAQ prog 152=true:=by kernel_rfl
theorem zH6: zAQ prog 173=true:=by kernel_rfl
theorem zXV: zAQ prog 204=true:=by kernel_rfl
theorem zUr: zAQ prog 221=true:=by kernel_rfl
theorem zOY: zAQ prog 186=true:=by kernel_rfl
theorem zUm: zAQ prog 188=true:=by kernel_rfl
theorem zaD: zAQ prog 167=true:=by kernel_rfl
theorem zbd: zAQ prog 165=true:=by kernel_rfl
theorem zRC: zAQ prog 166=true:=by kernel_rfl
theorem zCv: zAQ prog 122=true:=by kernel_rfl
def Tk.av(n:Tk): D:=.agg [.val (.int .i64 n.kind),.val (.string ⟨n.text.toArray⟩),.val (.int .i64 n.num),.val (.int .i64 n.pos)]
def strs(L:List (List UInt8)): D:=.slice (L.map str)
theorem zMA(L:List (List UInt8)): zC2 (L.map str)=L.map str:=by
 induction L with
 |nil=>rfl
 |cons x r ih=>exact congrArg (_ :: ·) ih
theorem zWp{w:World}{b:Nat}{L:List (List UInt8)}{e:TypeId}{t:Nat×Nat}{St:Stab}(hs:∀o,St b o)(hm:L.length<=maxLen)(h:w.heap[b]?=some (.cells (L.map fun l=>Value.string ⟨l.toArray⟩).toArray e t)):
  RepD St w (.slice (some ⟨b,0,none⟩) L.length L.length) (strs L):=by
 refine .slice _ _ _ 1 (L.map str) (L.map fun l=>Value.string ⟨l.toArray⟩) sI (qAN _) hm (fun x hx=>?_) (by rw[zMA];simp) (fun u hu=>?_) (fun _=>⟨_,rfl,fun j u hu=>⟨hs _,?_⟩⟩) (fun j u d hu hd=>?_)
 ·obtain⟨l,_,rfl⟩:=qAo.1 hx;rfl
 ·obtain⟨l,_,rfl⟩:=qAo.1 hu;rfl
 ·rw[Addr.add_lit,qAS,cell_of_row w b j _ e t h];simpa using hu
 ·rw[zMA,qAJ]at hd
  rw[qAJ]at hu
  cases hl:L[j]? with
  |none=>rw[hl]at hu;cases hu
  |some l=>rw[hl]at hu hd;cases hu;cases hd;exact .val _
def wordsT: List UInt8:=[108,101,116,32,114,101,99,32,105,110,32,102,117,110,32,105,102,32,116,104,101,110,32,101,108,115,101,32,109,97,116,99,104,32,119,105,116,104,32,101,110,100,32,114,97,105,115,101,32,116,114,121,32,111,112,101,110,32,116,121,112,101,32,111,102,32,105,110,102,105,120,108,32,105,110,102,105,120,114,32,105,110,102,105,120,32,45,62,32,61,32,124,32,40,32,41,32,95,32,59,59]
theorem zRy: Lib.fields wordsT=kws:=by decide +kernel
theorem zYB{s:List UInt8}(h:s.all (fun b=>decide (b.toNat<128))=true): ∀(j:Nat) b,s[j]?=some b->b.toNat<128:=fun _j b hb=>of_decide_eq_true (qAI.1 h b (qAC hb))
theorem zWQ: zAX prog 221 [str wordsT] (strs kws):=by
 intro St w vs hst hgl hr
 obtain⟨v,rfl,hv⟩:∃v,vs=[v]/\v=.string ⟨wordsT.toArray⟩:=by
  have:=RepDs.vals (us:=[.string ⟨wordsT.toArray⟩]) hr
  exact⟨_,this,rfl⟩
 subst hv
 refine(Tryz.strings_Fields_laid ⟨wordsT.toArray⟩ w dC (zYB dC) ?_).mono fun e w' ⟨he,hw⟩=>?_
 ·obtain⟨_,_,_,e,t,h0⟩:=hgl
  have key:∀(o:Option Nat),o=some 4->(o.bind fun g=>match w.heap[g]? with|some (.cells cs _ _)=>some cs|_=>none)=some (Lib.asciiSpaceTab.map fun z=>Value.int .u8 z).toArray:=by
   rintro _ rfl;simp only[qBQ,h0]
  exact key _ kR
 ·rw[show Lib.fields (⟨wordsT.toArray⟩:ByteArray).data.toList=kws from zRy]at he hw
  subst hw
  refine⟨_,fun b o=>St b o\/b=w.heap.size,he,zWp (fun _=>.inr rfl) dC (t:=(0,0)) (by show (w.heap.push _)[w.heap.size]?=_;exact Array.getElem?_push_size),(Below.refl _ _).alloc (qAN _) _,?_,fun b o h=>h.imp id (fun h=>by omega),fun b o h=>?_⟩
  ·refine⟨fun _ _ h=>.inl h,fun b o u hc hu=>?_,fun b hc=>?_⟩
   ·exact(World.cell?_of_block (a:=⟨b,o,none⟩) (Below.heap_alloc _ _ _ (hst b o hc))).trans hu
   ·exact Below.heap_alloc _ _ _ (hst b 0 (hc 0))
  ·show b<(w.heap.push _).size
   rw[Array.size_push];rcases h with h|h
   ·have:=hst b o h;omega
   ·omega
theorem zPL(s:List UInt8)(c:UInt8): zAX prog 186 [str s,.val (.int .u8 c.toNat)] (i64 (Lib.indexByte s c)) :=
 zHy (us:=[.string ⟨s.toArray⟩,.int .u8 c.toNat]) (fun _ _=>.val _) fun _ w _=>(Tryz.strings_IndexByte _ _ w).mono fun e w' ⟨he,hw⟩=>⟨by rw[he];simp,by subst hw;exact Below.refl _ _⟩

/- Parts of the proof. -/
import Derived.Test.YtcagoomibpcdlaaGreatDoorProg
import Derived.Laws.StructEq
import Derived.ChangeKeysEq
import Derived.Test.YtcagoomibpcdlaaGreatDoorRows
import Derived.ProofKit
import Derived.Deep.Fields
import Derived.ChangeSame
import Derived.Shelf.Strings.Builder1
import Derived.Shelf.Strings.Builder2
import Derived.Shelf.Small.Strs
import Derived.Shelf.Strings.BuilderF
import Derived.Shelf.Strings.BuilderK
import Derived.Shelf.Utf8.RuneCount
import Derived.Shelf.Strconv.Itoa0
import Derived.Shelf.Strconv.Itoa1
import Derived.Shelf.LaysM
import Derived.Shelf.Strconv.Itoa2
import Derived.Shelf.Strconv.Itoa3
import Derived.Shelf.Strconv.Itoa4
import Derived.Shelf.Strings.Search1
import Derived.Shelf.Strings.Search2
import Derived.Shelf.Strings.Search3
import Derived.Shelf.Strings.Count
import Derived.Shelf.Strings.Shaped
import Derived.Shelf.Strings.Split
import Derived.Shelf.Strings.Fields
import Derived.Shelf.Strings.Replace
import Derived.Shelf.Strings.SplitShaped
import Derived.Shelf.Unicode.Latin
import Derived.Shelf.Unicode.Decode
import Derived.Shelf.Strings.RuneCount
import Derived.Shelf.Unicode.DecodeSlow
import Derived.Shelf.Unicode.DecodeAny
import Derived.Shelf.Unicode.Is16White
import Derived.Shelf.Unicode.IsSpaceAny
import Derived.Shelf.Unicode.Is16WhiteD
import Derived.Shelf.Unicode.IsSpaceAnyD
import Derived.Shelf.Unicode.Is16Any
import Derived.Shelf.Unicode.Is32Any
import Derived.Shelf.Unicode.ExclAny
import Derived.Shelf.Slices.Turned
import Derived.Shelf.Slices.Equal
import Derived.Ground.Names2Prog
import Derived.Shelf.Slices.Clone
import Derived.Shelf.Slices.Empties2
import Derived.Ground.SlgnProg
import Derived.Shelf.SlicesE.Clone
import Derived.Lib.ItoaLen
import Derived.Lib.IndexAny
import Derived.Lib.IndexLaws
import Derived.Test.YtcagoomibpcdlaaGreatDoorMAA
set_option maxHeartbeats 16000000
namespace Go.Proofs.YtcagoomibpcdlaaGreatDoor
open _root_.Go.Proofs.Tryz
open Go.Sx
theorem zE2: zA2 prog 29=some 4:=by kernel_rfl
theorem zA5: zA2 prog 121=some 1:=by kernel_rfl
theorem zEJ: (zBd prog 29).isSome=true:=by kernel_rfl
theorem zCP: (zBd prog 121).isSome=true:=by kernel_rfl
theorem zEj: zBd prog 29=some 49:=by kernel_rfl
theorem zA0: zBd prog 121=some 3:=by kernel_rfl
theorem fn_2: zAy prog 49 2=some 2:=by kernel_rfl
theorem zAP: zBL prog 3=some (false,1):=by kernel_rfl
theorem zEP: zBL prog 2=some (false,1):=by kernel_rfl
theorem zEO: zBL prog 9=some (false,1):=by kernel_rfl
theorem zAb: zBL prog 4=some (false,1):=by kernel_rfl
theorem zIt: zBL prog 29=some (false,1):=by kernel_rfl
theorem zAt: zBL prog 121=some (false,1):=by kernel_rfl
theorem zKy: zC3 prog 49=some 4:=by kernel_rfl
theorem zHD: zC3 prog 3=some 1:=by kernel_rfl
theorem zI7: zCZ prog 29=some 40:=by kernel_rfl
theorem zFl: zCZ prog 121=some 8:=by kernel_rfl
theorem zKw: (zB5 prog 49).isSome=true:=by kernel_rfl
theorem zCL: (zB5 prog 3).isSome=true:=by kernel_rfl
theorem zKx: zB5 prog 49=some [.int .i64 0,.string ByteArray.empty,.int .i64 0,.int .i64 0]:=by kernel_rfl
theorem zWG: zB5 prog 3=some [.int .i64 0]:=by kernel_rfl
theorem zZi: zAO prog 102=true:=by kernel_rfl
theorem zVc: prog.underlying 3=some (.int .i64):=by kernel_rfl
def ival(n:Int): D:=.val (.int .i64 n)
def zBW(L:List Int): D:=.slice (L.map ival)
end Go.Proofs.YtcagoomibpcdlaaGreatDoor
namespace Go.Proofs.YtcagoomibpcdlaaGreatDoor
open Go.Sx
attribute [local irreducible] Ylds zBE alex zB0 zBk awp zAg zB9 zB8 zAU zA6 zBn zBC zBq zBz zB7

open _root_.Go.Proofs.Tryz
open Go.RowKit
theorem zIZ{α:Type}{A B:List α}{i:Nat}{x:α}(h:A.take i=B.take i)(ha:A[i]?=some x)(hb:B[i]?=some x): A.take (i+1)=B.take (i+1):=by
 rw[qBQ,qBQ,h,ha,hb]
theorem zaF(A B:List Int)(hL:A.length<=2000000): zAg prog 102 [zBW A,zBW B] (bl (decide (A=B))):=by
 refine zAr func102 rfl ntmps102 results102 rfl ?_
 intro wb St0
 repeat' first|apply en_n|apply zAG|apply zAA|apply zAD|apply w0|apply ay (hd:=rfl)|exact zAF rfl|exact zAB rfl|exact zBD rfl zCP|exact zIX rfl rfl|(apply zBa;exact rfl;all_goals intro hb)|apply zAK|apply zAR|apply zAQ|apply en_r|apply zAT|refine res1 rfl ?_
 ·have:A≠B:=fun e=>by subst e;omega
  rw[decide_eq_false this]
 ·have hlen:A.length=B.length:=by omega
  refine zBV (α:=Nat) (fun i=>i<=A.length/\A.take i=B.take i) (fun i=>[(0,.d (zBW A)),(1,.d (zBW B)),(5,.d (i64 (i:Int)))]) (fun _=>[]) (fun i=>A.length-i) 0 ⟨qAV _,rfl⟩
   (zAS (Le_all rfl) zAs rfl rfl) ?_
  rintro i ⟨hi1,hi2⟩
  repeat' first|apply en_n|apply zAG|apply zAA|apply zAD|apply w0|(apply aI (hd:=rfl);(first|exact zCQ rfl|exact zCp rfl rfl rfl|exact Co_nn rfl);exact rfl;(with_reducible exact zA5);exact fun _=>rfl;rotate_left;intro v hv;rotate_right)|apply ay (hd:=rfl)|exact zAF rfl|exact zAB rfl|exact zCK rfl zAP|exact zBD rfl zCP|exact zEM rfl rfl|exact zIX rfl rfl|refine zBG rfl rfl ?_|(apply zBa;exact rfl;all_goals intro hb)|apply zAK|apply zAR|apply zAQ|apply zBX|refine zAf (by kernel_rfl) (by kernel_rfl) ?_|apply en_r|apply en_e|apply eb_n|apply eb_r|apply eb_e|apply zAT|refine res1 rfl ?_
  ·omega
  ·omega
  ·rename_i b1 b2 u hu
   have:A≠B:=by rintro rfl;rw[hu]at hv;exact hb (qBB hv)
   rw[decide_eq_false this]
  ·omega
  ·rename_i b1 b2 u hu
   obtain rfl:u=v:=Decidable.not_not.1 hb
   exact⟨i+1,⟨by omega,zIZ (i:=i) hi2 hu hv⟩,by omega,zAS (Le_all rfl) zAs rfl rfl⟩
  ·have h1:=hi2
   rw[show i=A.length by omega,qA8,hlen,qA8]at h1
   rw[decide_eq_true h1]
end Go.Proofs.YtcagoomibpcdlaaGreatDoor
namespace Go.Proofs.YtcagoomibpcdlaaGreatDoor
open _root_.Go.Proofs.Tryz
open Go.ChangeShapes Go.WideShapes Go.ChangeAt Go.RowKit Go.Deep Go.Sx
def big(W:World): Stab:=fun b _=>b<W.heap.size
theorem zX7{W:World}{a:Addr}{u:Value}(h:W.cell? a=some u): a.block<W.heap.size:=by
 unfold World.cell? at h
 rcases qAQ a.block W.heap.size with h1|h1
 ·exact h1
 ·rw[Array.getElem?_eq_none h1]at h;cases h
theorem zGI{α:Type}{Q:Nat->α->Prop}: ∀n:Nat,(∀i,i<n->∃x,Q i x)->∃L:List α,L.length=n/\∀i x,L[i]?=some x->Q i x
 |0,_=>⟨[],rfl,fun i x h=>by simp at h⟩
 |n+1,h=>by
  obtain⟨L,hl,hq⟩:=zGI n (fun i hi=>h i (by omega))
  obtain⟨y,hy⟩:=h n (by omega)
  refine⟨L++[y],by simp[hl],fun i x hx=>?_⟩
  rcases qAQ i n with h1|h1
  ·rw[qAF (by omega)]at hx;exact hq i x hx
  ·rw[qAG (by omega),hl]at hx
   rcases qAQ n i with h2|h2
   ·rw[qA3 (by simp;omega)]at hx;cases hx
   ·have:i=n:=by omega
    subst this;simp at hx;subst hx;exact hy
theorem zL8{W:World}{a:Addr}{len cap sz:Nat}{xs:List D}(hl:len=xs.length)(hc:len<=cap)(hm:cap<=maxLen)(hsz:∀x∈xs,x.flat.length=sz)(hp:0<sz)
  (h:∀(i:Nat) (d:D),xs[i]?=some d->∀(o:Nat) (c:D),d.flat[o]?=some c->∃u,W.cell? (a.add (i*sz+o))=some u/\u.oneCell'=true/\RepD (big W) W u c) :
  RepD (big W) W (.slice (some a) len cap) (.slice xs):=by
 have hfl:=zBu hsz
 obtain⟨us,hul,huq⟩:=zGI (Q:=fun j u=>W.cell? (a.add j)=some u/\u.oneCell'=true/\∀c,(zCH xs)[j]?=some c->RepD (big W) W u c) (xs.length*sz) (fun j hj=>by
  have hi:j / sz<xs.length:=by rw[Nat.div_lt_iff_lt_mul hp];exact hj
  have ho:j%sz<sz:=Nat.mod_lt _ hp
  have hjj:j / sz*sz+j%sz=j:=by rw[Nat.mul_comm];exact Nat.div_add_mod j sz
  have hd:xs[j / sz]?=some xs[j / sz]:=qAB hi
  have hdl:=hsz _ (qBH hi)
  have hc':(xs[j / sz]).flat[j%sz]?=some ((xs[j / sz]).flat[j%sz]'(by omega)):=qAB (by omega)
  obtain⟨u,h1,h2,h3⟩:=h _ _ hd _ _ hc'
  refine⟨u,by rw[<-hjj];exact h1,h2,fun c hcc=>?_⟩
  have h4:=zFY hsz hd ho
  rw[hjj,hcc,hc']at h4
  injection h4 with h4;rw[h4];exact h3)
 refine .slice (some a) len cap sz xs us hl hc hm hsz (by rw[hul,hfl]) (fun u hu=>?_) (fun _=>⟨a,rfl,fun j u hu=>⟨?_,(huq j u hu).1⟩⟩) (fun j u d hu hd=>(huq j u hu).2.2 d hd)
 ·obtain⟨j,hj,rfl⟩:=List.getElem_of_mem hu
  exact(huq j _ (qAB hj)).2.1
 ·have h1:=zX7 (huq j u hu).1
  have h2:(a.add j).block=a.block:=by unfold Addr.add;split <;> rfl
  rw[h2]at h1;exact h1
theorem zRL{W:World}: RepD (big W) W (.slice none 0 0) (.slice []) :=
 .slice none 0 0 0 [] [] rfl (qAN _) (qAV _) (by simp) (by simp[zCH]) (by simp) (fun h=>absurd h (by simp)) (fun j u d h=>by simp at h)
theorem zYj: prog.underlying 2=some (.int .i64):=by kernel_rfl
theorem zYh: prog.underlying 9=some .string:=by kernel_rfl
section
variable {H:Type}{enc:TypeId×Value->H}{P:Program}{w:World}{base:Nat}{spare:Nat->Bool}{held:Bool}
theorem zJh{t e:TypeId}{fs:Array Field}{fuel:Nat}{cs:List Value}{x:DataW H×List MemPlace}(ht:P.underlying t=some (.slice e))(he:P.underlying e=some (.struct fs))
  (hone:oneCellFields P fs=true) (hC:P.cellsOf e=fs.size) (h:DataW.trod enc P w base spare held fuel t cs=some x) :
  cs=[.slice none 0 0]\/
  ∃(a:Addr) (len cap:Nat),cs=[.slice (some a) len cap]/\len<=cap/\cap<=maxLen/\
   ∀i,i<len->∃n:Nat,∀(j:Nat) (f:Field),fs[j]?=some f->∃(v:Value) (y:DataW H×List MemPlace),w.cell? (a.add (i*fs.size+j))=some v/\DataW.trod enc P w base spare held n f.type [v]=some y:=by
 rcases open_slice ht h with h0|⟨a,len,cap,m,n,D,Pl,hcs,hb,hl,hm,hmm,hx,hi⟩
 ·exact .inl h0.1
 ·refine .inr ⟨a,len,cap,hcs,hl,hm,fun i him=>?_⟩
  obtain⟨cs',hc,ht'⟩:=hi i (by rw[hmm];split <;> omega)
  rw[hC]at hc
  obtain⟨ys,n',hn',hy,hlen,hyl,hf⟩:=DataW.trod_struct he ht'
  obtain⟨_,hcl,hat⟩:=World.cells?_some hc
  refine⟨n',fun j f hj=>?_⟩
  obtain⟨ho,hk⟩:=hone_of hone j f hj
  have hjl:j<fs.size:=(qAr.1 hj).1
  have hcell:=hat j hjl
  have hv:cs'[j]?=some (cs'[j]'(by omega)):=qAB (by omega)
  have h1:=hf j f hj
  rw[ho,hk]at h1
  have hone':(cs'.drop j).take 1=[cs'[j]'(by omega)]:=by
   rw[qA5 (by omega)]
   rfl
  rw[hone']at h1
  have hys:ys[j]?=some (ys[j]'(by omega)):=qAB (by omega)
  refine⟨_,_,?_,h1.trans hys⟩
  rw[<-Go.Deep.add_add,hcell,hv]
end
end Go.Proofs.YtcagoomibpcdlaaGreatDoor
namespace Go.Proofs
open _root_.Go.Proofs.Tryz
open Go.Shelf
def Tryz.lays137_ren: Go.Shelf.Ren:=⟨fun|137=>199|217=>186|266=>200|n=>n,fun|9=>9|5=>5|3=>3|n=>n,fun|n=>n⟩
theorem Tryz.lays137: Go.Proofs.Lays.n137 prog Tryz.lays137_ren:={
 mixed:=by kernel_rfl
 f137:=func199.trans (congrArg some (by kernel_rfl))
 f217:=func186.trans (congrArg some (by kernel_rfl))
 f266:=func200.trans (congrArg some (by kernel_rfl))
 t3:=Tryz.underlying3
 a3:=Tryz.isAgg3
 z3:=Tryz.sizeOf3
 v3:=Tryz.zeroValue3
 t5:=Tryz.underlying5
 a5:=Tryz.isAgg5
 z5:=Tryz.sizeOf5
 v5:=Tryz.zeroValue5
 t9:=Tryz.underlying9
 a9:=Tryz.isAgg9
 z9:=Tryz.sizeOf9
 v9:=Tryz.zeroValue9 }
open Go.RowKit in
theorem Tryz.strings_IndexByte(s:ByteArray)(c:Int)(w:World):
  Calls prog 199 #[.string s,.int .u8 c] w fun e w'=>e=.returned (.int .i64 (Lib.indexByte s.data.toList c.toNat.toUInt8))/\w'=w:=Any.strings_IndexByte Tryz.lays137 s c w
def Tryz.laysM173_ren: Go.Shelf.Ren:=⟨fun|173=>136|246=>160|283=>170|284=>171|285=>172|286=>173|129=>191|317=>190|318=>192|319=>193|320=>194|337=>202|338=>203|n=>n,fun|2=>2|3=>3|9=>9|4=>4|171=>227|0=>0|53=>57|37=>167|5=>5|173=>230|212=>245|51=>246|20=>20|213=>247|46=>100|232=>256|233=>257|n=>n,fun|17=>4|18=>5|19=>6|n=>n⟩
theorem Tryz.laysM173: Go.Proofs.LaysM.n173 prog Tryz.laysM173_ren:={
 mixed:=by kernel_rfl
 f129:=func191.trans (congrArg some (by kernel_rfl))
 f173:=func136.trans (congrArg some (by kernel_rfl))
 f246:=func160.trans (congrArg some (by kernel_rfl))
 f283:=func170.trans (congrArg some (by kernel_rfl))
 f284:=func171.trans (congrArg some (by kernel_rfl))
 f285:=func172.trans (congrArg some (by kernel_rfl))
 f286:=func173.trans (congrArg some (by kernel_rfl))
 f317:=func190.trans (congrArg some (by kernel_rfl))
 f318:=func192.trans (congrArg some (by kernel_rfl))
 f319:=func193.trans (congrArg some (by kernel_rfl))
 f320:=func194.trans (congrArg some (by kernel_rfl))
 f337:=func202.trans (congrArg some (by kernel_rfl))
 f338:=func203.trans (congrArg some (by kernel_rfl))
 t0:=Tryz.underlying0
 a0:=Tryz.isAgg0
 z0:=Tryz.sizeOf0
 v0:=Tryz.zeroValue0
 t2:=Tryz.underlying2
 a2:=Tryz.isAgg2
 z2:=Tryz.sizeOf2
 v2:=Tryz.zeroValue2
 t3:=Tryz.underlying3
 a3:=Tryz.isAgg3
 z3:=Tryz.sizeOf3
 v3:=Tryz.zeroValue3
 t4:=Tryz.underlying4
 a4:=Tryz.isAgg4
 z4:=Tryz.sizeOf4
 v4:=Tryz.zeroValue4
 t5:=Tryz.underlying5
 a5:=Tryz.isAgg5
 z5:=Tryz.sizeOf5
 v5:=Tryz.zeroValue5
 t9:=Tryz.underlying9
 a9:=Tryz.isAgg9
 z9:=Tryz.sizeOf9
 v9:=Tryz.zeroValue9
 t20:=Tryz.underlying20
 a20:=Tryz.isAgg20
 z20:=Tryz.sizeOf20
 v20:=Tryz.zeroValue20
 t37:=Tryz.underlying167
 a37:=Tryz.isAgg167
 z37:=Tryz.sizeOf167
 v37:=Tryz.zeroValue167
 t46:=Tryz.underlying100
 a46:=Tryz.isAgg100
 z46:=Tryz.sizeOf100
 v46:=Tryz.zeroValue100
 t51:=Tryz.underlying246
 a51:=Tryz.isAgg246
 z51:=Tryz.sizeOf246
 v51:=Tryz.zeroValue246
 t53:=Tryz.underlying57
 a53:=Tryz.isAgg57
 z53:=Tryz.sizeOf57
 v53:=Tryz.zeroValue57
 t171:=Tryz.underlying227
 a171:=Tryz.isAgg227
 z171:=Tryz.sizeOf227
 v171:=Tryz.zeroValue227
 t173:=Tryz.underlying230
 a173:=Tryz.isAgg230
 z173:=Tryz.sizeOf230
 v173:=Tryz.zeroValue230
 t212:=Tryz.underlying245
 a212:=Tryz.isAgg245
 z212:=Tryz.sizeOf245
 v212:=Tryz.zeroValue245
 t213:=Tryz.underlying247
 a213:=Tryz.isAgg247
 z213:=Tryz.sizeOf247
 t232:=Tryz.underlying256
 a232:=Tryz.isAgg256
 z232:=Tryz.sizeOf256
 v232:=Tryz.zeroValue256
 t233:=Tryz.underlying257
 a233:=Tryz.isAgg257
 z233:=Tryz.sizeOf257
 v233:=Tryz.zeroValue257
 g17:=by kernel_rfl
 g18:=by kernel_rfl
 g19:=by kernel_rfl
 i0:=by kernel_rfl
 i2:=by kernel_rfl
 i3:=by kernel_rfl
 i4:=by kernel_rfl
 i5:=by kernel_rfl
 i9:=by kernel_rfl
 i20:=by kernel_rfl
 i37:=by kernel_rfl
 i46:=by kernel_rfl
 i51:=by kernel_rfl
 i53:=by kernel_rfl
 i171:=by kernel_rfl
 i173:=by kernel_rfl
 i212:=by kernel_rfl
 i232:=by kernel_rfl
 i233:=by kernel_rfl
 m17:=by kernel_rfl
 m18:=by kernel_rfl
 m19:=by kernel_rfl }
open Go.RowKit Go.Sort Go.Lib in
theorem Tryz.strconv_FormatInt_10(n:Int)(h0:-9223372036854775808<=n)(h1:n<=9223372036854775807)(w:World)(htab:Lib.TabIs prog w "internal/strconv.uint64pow10" .u64 Lib.pow10Tab):
  Calls prog 136 #[.int .i64 n,.int .i64 10] w fun e w'=>e=.returned (.string ⟨(Lib.itoa n).toArray⟩)/\∃k os,w'=grow (w.drewN k) os:=Any.strconv_FormatInt_10 Tryz.laysM173 n h0 h1 w htab
def Tryz.lays154_ren: Go.Shelf.Ren:=⟨fun|154=>135|138=>154|165=>155|143=>156|166=>157|197=>158|169=>159|195=>164|218=>165|240=>166|241=>167|219=>168|260=>169|276=>184|277=>185|217=>186|225=>187|224=>188|267=>189|266=>200|314=>201|n=>n,fun|9=>9|3=>3|4=>4|72=>210|0=>0|76=>213|105=>215|21=>21|5=>5|70=>208|20=>20|37=>167|75=>212|127=>225|164=>237|46=>100|119=>240|139=>243|138=>242|146=>251|51=>246|80=>217|n=>n,fun|1=>1|3=>2|4=>3|n=>n⟩
theorem Tryz.lays154: Go.Proofs.Lays.n154 prog Tryz.lays154_ren:={
 mixed:=by kernel_rfl
 f138:=func154.trans (congrArg some (by kernel_rfl))
 f143:=func156.trans (congrArg some (by kernel_rfl))
 f154:=func135.trans (congrArg some (by kernel_rfl))
 f165:=func155.trans (congrArg some (by kernel_rfl))
 f166:=func157.trans (congrArg some (by kernel_rfl))
 f169:=func159.trans (congrArg some (by kernel_rfl))
 f195:=func164.trans (congrArg some (by kernel_rfl))
 f197:=func158.trans (congrArg some (by kernel_rfl))
 f217:=func186.trans (congrArg some (by kernel_rfl))
 f218:=func165.trans (congrArg some (by kernel_rfl))
 f219:=func168.trans (congrArg some (by kernel_rfl))
 f224:=func188.trans (congrArg some (by kernel_rfl))
 f225:=func187.trans (congrArg some (by kernel_rfl))
 f240:=func166.trans (congrArg some (by kernel_rfl))
 f241:=func167.trans (congrArg some (by kernel_rfl))
 f260:=func169.trans (congrArg some (by kernel_rfl))
 f266:=func200.trans (congrArg some (by kernel_rfl))
 f267:=func189.trans (congrArg some (by kernel_rfl))
 f276:=func184.trans (congrArg some (by kernel_rfl))
 f277:=func185.trans (congrArg some (by kernel_rfl))
 f314:=func201.trans (congrArg some (by kernel_rfl))
 t0:=Tryz.underlying0
 a0:=Tryz.isAgg0
 z0:=Tryz.sizeOf0
 v0:=Tryz.zeroValue0
 t3:=Tryz.underlying3
 a3:=Tryz.isAgg3
 z3:=Tryz.sizeOf3
 v3:=Tryz.zeroValue3
 t4:=Tryz.underlying4
 a4:=Tryz.isAgg4
 z4:=Tryz.sizeOf4
 v4:=Tryz.zeroValue4
 t5:=Tryz.underlying5
 a5:=Tryz.isAgg5
 z5:=Tryz.sizeOf5
 v5:=Tryz.zeroValue5
 t9:=Tryz.underlying9
 a9:=Tryz.isAgg9
 z9:=Tryz.sizeOf9
 v9:=Tryz.zeroValue9
 t20:=Tryz.underlying20
 a20:=Tryz.isAgg20
 z20:=Tryz.sizeOf20
 v20:=Tryz.zeroValue20
 t21:=Tryz.underlying21
 a21:=Tryz.isAgg21
 z21:=Tryz.sizeOf21
 v21:=Tryz.zeroValue21
 t37:=Tryz.underlying167
 a37:=Tryz.isAgg167
 z37:=Tryz.sizeOf167
 v37:=Tryz.zeroValue167
 t46:=Tryz.underlying100
 a46:=Tryz.isAgg100
 z46:=Tryz.sizeOf100
 v46:=Tryz.zeroValue100
 t51:=Tryz.underlying246
 a51:=Tryz.isAgg246
 z51:=Tryz.sizeOf246
 v51:=Tryz.zeroValue246
 t70:=Tryz.underlying208
 a70:=Tryz.isAgg208
 z70:=Tryz.sizeOf208
 v70:=Tryz.zeroValue208
 t72:=Tryz.underlying210
 a72:=Tryz.isAgg210
 z72:=Tryz.sizeOf210
 v72:=Tryz.zeroValue210
 t75:=Tryz.underlying212
 a75:=Tryz.isAgg212
 z75:=Tryz.sizeOf212
 v75:=Tryz.zeroValue212
 t76:=Tryz.underlying213
 a76:=Tryz.isAgg213
 z76:=Tryz.sizeOf213
 v76:=Tryz.zeroValue213
 t105:=Tryz.underlying215
 a105:=Tryz.isAgg215
 z105:=Tryz.sizeOf215
 v105:=Tryz.zeroValue215
 t119:=Tryz.underlying240
 a119:=Tryz.isAgg240
 z119:=Tryz.sizeOf240
 t127:=Tryz.underlying225
 a127:=Tryz.isAgg225
 z127:=Tryz.sizeOf225
 v127:=Tryz.zeroValue225
 t138:=Tryz.underlying242
 a138:=Tryz.isAgg242
 z138:=Tryz.sizeOf242
 v138:=Tryz.zeroValue242
 t139:=Tryz.underlying243
 a139:=Tryz.isAgg243
 z139:=Tryz.sizeOf243
 v139:=Tryz.zeroValue243
 t146:=Tryz.underlying251
 a146:=Tryz.isAgg251
 z146:=Tryz.sizeOf251
 v146:=Tryz.zeroValue251
 t164:=Tryz.underlying237
 a164:=Tryz.isAgg237
 z164:=Tryz.sizeOf237
 v164:=Tryz.zeroValue237
 g1:=by kernel_rfl
 g3:=by kernel_rfl
 g4:=by kernel_rfl }
theorem Tryz.Builder_Extra_154: Builder.Extra prog Tryz.lays154_ren:={
 sizeBuilder:=by kernel_rfl
 liesBuilder:=by kernel_rfl
 t5:=Tryz.underlying5
 a5:=Tryz.isAgg5
 z5:=Tryz.sizeOf5
 v5:=Tryz.zeroValue5
 infoByte:=by kernel_rfl
 cellsByte:=by kernel_rfl
 sizeByte:=by kernel_rfl
 neB5:=by decide }
open Go.RowKit Go.Lib in
theorem Tryz.strings_Replace(s old new:ByteArray)(n:Int)(m:Int)(w:World)(hs:s.size<4294967281)(hm:w.cell? ⟨1,0,none⟩=some (.int .i64 m))(h1:1<=old.size)(hlen:s.size+Lib.countB s old*new.size<=140737488355328):
  Calls prog 135 #[.string s,.string old,.string new,.int .i64 n] w fun e w' =>
   e=.returned (.string ⟨(Lib.replace s.data.toList old.data.toList new.data.toList n).toArray⟩)/\Below w.heap.size w w':=Any.strings_Replace Tryz.lays154 Tryz.Builder_Extra_154 s old new n m w hs hm h1 hlen
def Tryz.laysM157_ren: Go.Shelf.Ren:=⟨fun|157=>205|229=>206|199=>207|261=>208|311=>209|312=>210|n=>n,fun|9=>9|31=>30|3=>3|5=>5|4=>4|119=>240|0=>0|40=>259|152=>260|21=>21|154=>262|51=>246|141=>264|196=>268|193=>265|198=>271|49=>269|194=>266|201=>274|226=>276|46=>100|227=>277|n=>n,fun|0=>7|6=>8|n=>n⟩
theorem Tryz.laysM157: Go.Proofs.LaysM.n157 prog Tryz.laysM157_ren:={
 mixed:=by kernel_rfl
 f157:=func205.trans (congrArg some (by kernel_rfl))
 f199:=func207.trans (congrArg some (by kernel_rfl))
 f229:=func206.trans (congrArg some (by kernel_rfl))
 f261:=func208.trans (congrArg some (by kernel_rfl))
 f311:=func209.trans (congrArg some (by kernel_rfl))
 f312:=func210.trans (congrArg some (by kernel_rfl))
 t0:=Tryz.underlying0
 a0:=Tryz.isAgg0
 z0:=Tryz.sizeOf0
 v0:=Tryz.zeroValue0
 t3:=Tryz.underlying3
 a3:=Tryz.isAgg3
 z3:=Tryz.sizeOf3
 v3:=Tryz.zeroValue3
 t4:=Tryz.underlying4
 a4:=Tryz.isAgg4
 z4:=Tryz.sizeOf4
 v4:=Tryz.zeroValue4
 t5:=Tryz.underlying5
 a5:=Tryz.isAgg5
 z5:=Tryz.sizeOf5
 v5:=Tryz.zeroValue5
 t9:=Tryz.underlying9
 a9:=Tryz.isAgg9
 z9:=Tryz.sizeOf9
 v9:=Tryz.zeroValue9
 t21:=Tryz.underlying21
 a21:=Tryz.isAgg21
 z21:=Tryz.sizeOf21
 v21:=Tryz.zeroValue21
 t31:=Tryz.underlying30
 a31:=Tryz.isAgg30
 z31:=Tryz.sizeOf30
 v31:=Tryz.zeroValue30
 t40:=Tryz.underlying259
 a40:=Tryz.isAgg259
 z40:=Tryz.sizeOf259
 v40:=Tryz.zeroValue259
 t46:=Tryz.underlying100
 a46:=Tryz.isAgg100
 z46:=Tryz.sizeOf100
 v46:=Tryz.zeroValue100
 t49:=Tryz.underlying269
 a49:=Tryz.isAgg269
 z49:=Tryz.sizeOf269
 v49:=Tryz.zeroValue269
 t51:=Tryz.underlying246
 a51:=Tryz.isAgg246
 z51:=Tryz.sizeOf246
 v51:=Tryz.zeroValue246
 t119:=Tryz.underlying240
 a119:=Tryz.isAgg240
 z119:=Tryz.sizeOf240
 t141:=Tryz.underlying264
 a141:=Tryz.isAgg264
 z141:=Tryz.sizeOf264
 v141:=Tryz.zeroValue264
 t152:=Tryz.underlying260
 a152:=Tryz.isAgg260
 z152:=Tryz.sizeOf260
 v152:=Tryz.zeroValue260
 t154:=Tryz.underlying262
 a154:=Tryz.isAgg262
 z154:=Tryz.sizeOf262
 v154:=Tryz.zeroValue262
 t193:=Tryz.underlying265
 a193:=Tryz.isAgg265
 z193:=Tryz.sizeOf265
 v193:=Tryz.zeroValue265
 t194:=Tryz.underlying266
 a194:=Tryz.isAgg266
 z194:=Tryz.sizeOf266
 v194:=Tryz.zeroValue266
 t196:=Tryz.underlying268
 a196:=Tryz.isAgg268
 z196:=Tryz.sizeOf268
 v196:=Tryz.zeroValue268
 t198:=Tryz.underlying271
 a198:=Tryz.isAgg271
 z198:=Tryz.sizeOf271
 v198:=Tryz.zeroValue271
 t201:=Tryz.underlying274
 a201:=Tryz.isAgg274
 z201:=Tryz.sizeOf274
 v201:=Tryz.zeroValue274
 t226:=Tryz.underlying276
 a226:=Tryz.isAgg276
 z226:=Tryz.sizeOf276
 v226:=Tryz.zeroValue276
 t227:=Tryz.underlying277
 a227:=Tryz.isAgg277
 z227:=Tryz.sizeOf277
 v227:=Tryz.zeroValue277
 g0:=by kernel_rfl
 g6:=by kernel_rfl
 i0:=by kernel_rfl
 i3:=by kernel_rfl
 i4:=by kernel_rfl
 i5:=by kernel_rfl
 i9:=by kernel_rfl
 i21:=by kernel_rfl
 i31:=by kernel_rfl
 i40:=by kernel_rfl
 i46:=by kernel_rfl
 i49:=by kernel_rfl
 i51:=by kernel_rfl
 i141:=by kernel_rfl
 i152:=by kernel_rfl
 i154:=by kernel_rfl
 i193:=by kernel_rfl
 i194:=by kernel_rfl
 i196:=by kernel_rfl
 i198:=by kernel_rfl
 i201:=by kernel_rfl
 i226:=by kernel_rfl
 i227:=by kernel_rfl
 m0:=by kernel_rfl
 m6:=by kernel_rfl }
open Go.RowKit Go.Lib in
theorem Tryz.strings_Fields_laid(s:ByteArray)(w:World)(hs:s.size<4294967281)(hascii:∀(j:Nat) b,s.data.toList[j]?=some b->b.toNat<128)(htab:Lib.TabIs prog w "strings.asciiSpace" .u8 Lib.asciiSpaceTab):
  Calls prog 205 #[.string s] w fun e w' =>
   e=.returned (.slice (some ⟨w.heap.size,0,none⟩) (Lib.fields s.data.toList).length (Lib.fields s.data.toList).length)/\w'=w.alloc (.cells ((Lib.fields s.data.toList).map fun l=>Value.string ⟨l.toArray⟩).toArray 9):=Any.strings_Fields_laid Tryz.laysM157 s w hs hascii htab
end Go.Proofs
namespace Go.Proofs.YtcagoomibpcdlaaGreatDoor
open _root_.Go.Proofs.Tryz
open Go.Sx Go.RowKit
theorem zSP: zA2 prog 206=some 1:=by kernel_rfl
theorem zVt: zA2 prog 167=some 1:=by kernel_rfl
theorem zX0: (zBd prog 206).isSome=true:=by kernel_rfl
theorem zZm: (zBd prog 167).isSome=true:=by kernel_rfl
theorem zU2: zBd prog 206=some 2:=by kernel_rfl
theorem zXz: zBd prog 167=some 5:=by kernel_rfl
theorem zQv: zBL prog 2=some (false,1):=by kernel_rfl
theorem zZu: zCZ prog 167=some 1:=by kernel_rfl
theorem zYe: (zB5 prog 2).isSome=true:=by kernel_rfl
theorem ui64: prog.underlying 2=some (.int .i64):=by kernel_rfl
theorem uint: prog.underlying 3=some (.int .i64):=by kernel_rfl
theorem uu64: prog.underlying 57=some (.int .u64):=by kernel_rfl
theorem uu8: prog.underlying 5=some (.int .u8):=by kernel_rfl
theorem ustr: prog.underlying 9=some .string:=by kernel_rfl
theorem zYk: prog.underlying 4=some .bool:=by kernel_rfl
theorem uu8s: prog.underlying 167=some (.slice 5):=by kernel_rfl
theorem si64: (prog.underlying 2).isSome=true:=by kernel_rfl
theorem su64: (prog.underlying 57).isSome=true:=by kernel_rfl
theorem su8: (prog.underlying 5).isSome=true:=by kernel_rfl
theorem si32: (prog.underlying 21).isSome=true:=by kernel_rfl
theorem zEy: zAO prog 37=true:=by kernel_rfl
theorem zXp: zAO prog 82=true:=by kernel_rfl
theorem zXl: zAO prog 84=true:=by kernel_rfl
theorem zXm: zAO prog 86=true:=by kernel_rfl
theorem zXo: zAO prog 89=true:=by kernel_rfl
theorem zXn: zAO prog 91=true:=by kernel_rfl
theorem zXk: zAO prog 134=true:=by kernel_rfl
theorem zUs: zAO prog 96=true:=by kernel_rfl
theorem zOp: zAO prog 58=true:=by kernel_rfl
theorem zXt: zAO prog 103=true:=by kernel_rfl
theorem zQD: zAO prog 135=true:=by kernel_rfl
theorem zMh: zAO prog 136=true:=by kernel_rfl
def ints(L:List Int): D:=.slice (L.map i64)
theorem zDd(n:Int): IntKind.u64.wrap n=n%18446744073709551616:=by simp[IntKind.wrap,IntKind.bits,IntKind.signed]
theorem zEs(n:Int): IntKind.i64.wrap n=(n+9223372036854775808)%18446744073709551616-9223372036854775808:=by
 simp[IntKind.wrap,IntKind.bits,IntKind.signed];split <;> omega
theorem zWH(n:Int): IntKind.u8.wrap n=n%256:=by simp[IntKind.wrap,IntKind.bits,IntKind.signed]
def W(n:Int): Int:=(n+4611686018427387904)%9223372036854775808-4611686018427387904
theorem W_bd(n:Int): -4611686018427387904<=W n/\W n<=4611686018427387903:=by unfold W;omega
theorem zNC(n:Int)(h0:-9223372036854775808<=n)(h1:n<=9223372036854775807): zAg prog 136 [i64 n,i64 10] (str (Lib.itoa n)) :=
 zHR (us:=[.int .i64 n,.int .i64 10]) (fun _ _=>.val _) fun _ w hgl=>(Tryz.strconv_FormatInt_10 n h0 h1 w (by
  obtain⟨_,_,⟨e,t,h3⟩,_⟩:=hgl
  have key:∀(o:Option Nat),o=some 4->(o.bind fun g=>match w.heap[g]? with|some (.cells cs _ _)=>some cs|_=>none)=some (Lib.pow10Tab.map fun z=>Value.int .u64 z).toArray:=by
   rintro _ rfl;simp only[Option.bind_some,h3]
  exact key _ (by kernel_rfl))).mono fun e w' ⟨he,k,os,hw⟩=>⟨he,by
   subst hw
   exact⟨rfl,rfl,rfl,by simp[Sort.grow,World.drewN],fun i hi=>by simp[Sort.grow,World.drewN,Array.getElem?_append,hi]⟩⟩
theorem zQZ(s a b:List UInt8)(n:Int)(ha:1<=a.length)(hs:s.length<=1000)(hb:b.length<=1000): zAg prog 135 [str s,str a,str b,i64 n] (str (Lib.replace s a b n)) :=
 zHR (us:=[.string ⟨s.toArray⟩,.string ⟨a.toArray⟩,.string ⟨b.toArray⟩,.int .i64 n]) (fun _ _=>.val _) fun _ w hgl=>by
  obtain⟨_,⟨m,e,t,h0⟩,_⟩:=hgl
  refine(Tryz.strings_Replace ⟨s.toArray⟩ ⟨a.toArray⟩ ⟨b.toArray⟩ n m w (by rw[zCy];omega) ?_ (by rw[zCy];exact ha) ?_).mono fun e w' ⟨he,hw⟩=>⟨he,hw⟩
  ·exact cell_of_row w 1 0 _ e t h0
  ·have h1:=Lib.count_le s a
   have h2:Lib.countB ⟨s.toArray⟩ ⟨a.toArray⟩=Lib.count s a:=rfl
   rw[h2,zCy,zCy]
   have h3:=Nat.mul_le_mul (show Lib.count s a<=1001 by omega) hb
   omega
end Go.Proofs.YtcagoomibpcdlaaGreatDoor
namespace Go.Proofs.YtcagoomibpcdlaaGreatDoor
open Go.Sx
structure Tk where
 kind:Int
 text:List UInt8
 num:Int
 pos:Int
deriving DecidableEq
def signL: List UInt8:=[33,36,37,38,42,43,45,47,58,60,61,62,63,64,94,124]
def zEq(c:UInt8): Bool:=signL.contains c
def zFg(c:UInt8): Bool:=decide (97<=c.toNat/\c.toNat<=122)
def zFh(c:UInt8): Bool:=decide (65<=c.toNat/\c.toNat<=90)
def zHV(c:UInt8): Bool:=decide (48<=c.toNat/\c.toNat<=57)
def zF9(c:UInt8): Bool:=zFg c||zFh c||zHV c||c==95||c==39
def kws: List (List UInt8):=[[108,101,116],[114,101,99],[105,110],[102,117,110],[105,102],[116,104,101,110],[101,108,115,101],[109,97,116,99,104],[119,105,116,104],[101,110,100],[114,97,105,115,101],[116,114,121],[111,112,101,110],[116,121,112,101],[111,102],[105,110,102,105,120,108],[105,110,102,105,120,114],[105,110,102,105,120],[45,62],[61],[124],[40],[41],[95],[59,59]]
def zP7(s:List UInt8): Bool:=kws.contains s
def zKO(p:UInt8->Bool): List UInt8->Nat
 |[]=>0
 |c::s=>if p c then zKO p s+1 else 0
open _root_.Go.Proofs.Tryz
open Go.RowKit
theorem zGe: zA2 prog 30=some 1:=by kernel_rfl
theorem zSO: (zBd prog 30).isSome=true:=by kernel_rfl
theorem zG7: zBd prog 30=some 9:=by kernel_rfl
theorem fo_0: zAy prog 221 0=some 0:=by kernel_rfl
theorem fo_1: zAy prog 221 1=some 1:=by kernel_rfl
theorem fo_2: zAy prog 221 2=some 2:=by kernel_rfl
theorem fo_3: zAy prog 221 3=some 3:=by kernel_rfl
theorem zLv: zBL prog 9=some (false,1):=by kernel_rfl
theorem zVf: zBL prog 3=some (false,1):=by kernel_rfl
theorem zQu: zBL prog 219=some (false,1):=by kernel_rfl
theorem zIH: zBL prog 30=some (false,1):=by kernel_rfl
theorem zVa: zC3 prog 9=some 1:=by kernel_rfl
theorem zSb: zCZ prog 30=some 16:=by kernel_rfl
theorem zN4: (zB5 prog 9).isSome=true:=by kernel_rfl
theorem zVZ: zB5 prog 221=some [.int .i64 0,.string ByteArray.empty,.int .i64 0,.int .i64 0]:=by kernel_rfl
theorem zVs: zAO prog 180=true:=by kernel_rfl
theorem zUr: zAO prog 198=true:=by kernel_rfl
theorem zOo: zAO prog 181=true:=by kernel_rfl
theorem zOq: zAO prog 182=true:=by kernel_rfl
theorem zUv: zAO prog 196=true:=by kernel_rfl
theorem zUu: zAO prog 179=true:=by kernel_rfl
theorem zXq: zAO prog 183=true:=by kernel_rfl
theorem zVr: zAO prog 178=true:=by kernel_rfl
theorem zUw: zAO prog 163=true:=by kernel_rfl
theorem zMf: zAO prog 177=true:=by kernel_rfl
theorem zNn: zAO prog 197=true:=by kernel_rfl
theorem zUx: zAO prog 204=true:=by kernel_rfl
theorem zSE: zAO prog 205=true:=by kernel_rfl
theorem zMg: zAO prog 199=true:=by kernel_rfl
theorem zSD: zAO prog 195=true:=by kernel_rfl
theorem zXs: zAO prog 176=true:=by kernel_rfl
theorem zZh: zAO prog 174=true:=by kernel_rfl
theorem zOn: zAO prog 175=true:=by kernel_rfl
theorem zQC: zAO prog 161=true:=by kernel_rfl
def Tk.av(n:Tk): D:=.agg [.val (.int .i64 n.kind),.val (.string ⟨n.text.toArray⟩),.val (.int .i64 n.num),.val (.int .i64 n.pos)]
def strs(L:List (List UInt8)): D:=.slice (L.map str)
theorem zKn(L:List (List UInt8)): zCH (L.map str)=L.map str:=by
 induction L with
 |nil=>rfl
 |cons x r ih=>exact congrArg (_ :: ·) ih
theorem zT9{w:World}{b:Nat}{L:List (List UInt8)}{e:TypeId}{t:Nat×Nat}{St:Stab}(hs:∀o,St b o)(hm:L.length<=maxLen)(h:w.heap[b]?=some (.cells (L.map fun l=>Value.string ⟨l.toArray⟩).toArray e t)):
  RepD St w (.slice (some ⟨b,0,none⟩) L.length L.length) (strs L):=by
 refine .slice _ _ _ 1 (L.map str) (L.map fun l=>Value.string ⟨l.toArray⟩) (by simp) (qAN _) hm (fun x hx=>?_) (by rw[zKn];simp) (fun u hu=>?_) (fun _=>⟨_,rfl,fun j u hu=>⟨hs _,?_⟩⟩) (fun j u d hu hd=>?_)
 ·obtain⟨l,_,rfl⟩:=qBO.1 hx;rfl
 ·obtain⟨l,_,rfl⟩:=qBO.1 hu;rfl
 ·rw[Addr.add_lit,qAU,cell_of_row w b j _ e t h];simpa using hu
 ·rw[zKn,qAL]at hd
  rw[qAL]at hu
  cases hl:L[j]? with
  |none=>rw[hl]at hu;cases hu
  |some l=>rw[hl]at hu hd;cases hu;cases hd;exact .val _
def wordsT: List UInt8:=[108,101,116,32,114,101,99,32,105,110,32,102,117,110,32,105,102,32,116,104,101,110,32,101,108,115,101,32,109,97,116,99,104,32,119,105,116,104,32,101,110,100,32,114,97,105,115,101,32,116,114,121,32,111,112,101,110,32,116,121,112,101,32,111,102,32,105,110,102,105,120,108,32,105,110,102,105,120,114,32,105,110,102,105,120,32,45,62,32,61,32,124,32,40,32,41,32,95,32,59,59]
theorem zPX: Lib.fields wordsT=kws:=by decide +kernel
theorem zVG{s:List UInt8}(h:s.all (fun b=>decide (b.toNat<128))=true): ∀(j:Nat) b,s[j]?=some b->b.toNat<128:=fun _j b hb=>of_decide_eq_true (qAX.1 h b (qAH hb))
theorem zTE: zAg prog 205 [str wordsT] (strs kws):=by
 intro St w vs hst hgl hr
 obtain⟨v,rfl,hv⟩:∃v,vs=[v]/\v=.string ⟨wordsT.toArray⟩:=by
  have:=RepDs.vals (us:=[.string ⟨wordsT.toArray⟩]) hr
  exact⟨_,this,rfl⟩
 subst hv
 refine(Tryz.strings_Fields_laid ⟨wordsT.toArray⟩ w (by decide) (zVG (by decide)) ?_).mono fun e w' ⟨he,hw⟩=>?_
 ·obtain⟨_,_,_,e,t,h0⟩:=hgl
  have key:∀(o:Option Nat),o=some 7->(o.bind fun g=>match w.heap[g]? with|some (.cells cs _ _)=>some cs|_=>none)=some (Lib.asciiSpaceTab.map fun z=>Value.int .u8 z).toArray:=by
   rintro _ rfl;simp only[Option.bind_some,h0]
  exact key _ (by kernel_rfl)
 ·rw[show Lib.fields (⟨wordsT.toArray⟩:ByteArray).data.toList=kws from zPX]at he hw
  subst hw
  refine⟨_,fun b o=>St b o\/b=w.heap.size,he,zT9 (fun _=>.inr rfl) (by decide) (t:=(0,0)) (by show (w.heap.push _)[w.heap.size]?=_;exact Array.getElem?_push_size),(Below.refl _ _).alloc (qAN _) _,?_,fun b o h=>h.imp id (fun h=>by omega),fun b o h=>?_⟩
  ·refine⟨fun _ _ h=>.inl h,fun b o u hc hu=>?_,fun b hc=>?_⟩
   ·exact(World.cell?_of_block (a:=⟨b,o,none⟩) (Below.heap_alloc _ _ _ (hst b o hc))).trans hu
   ·exact Below.heap_alloc _ _ _ (hst b 0 (hc 0))
  ·show b<(w.heap.push _).size
   rw[Array.size_push];rcases h with h|h
   ·have:=hst b o h;omega
   ·omega
theorem zM9(s:List UInt8)(c:UInt8): zAg prog 199 [str s,.val (.int .u8 c.toNat)] (i64 (Lib.indexByte s c)) :=
 zHR (us:=[.string ⟨s.toArray⟩,.int .u8 c.toNat]) (fun _ _=>.val _) fun _ w _=>(Tryz.strings_IndexByte _ _ w).mono fun e w' ⟨he,hw⟩=>⟨by rw[he];simp,by subst hw;exact Below.refl _ _⟩
end Go.Proofs.YtcagoomibpcdlaaGreatDoor
namespace Go.Proofs.YtcagoomibpcdlaaGreatDoor
open _root_.Go.Proofs.Tryz
open Go.Sx
attribute [local irreducible] zAO Program.underlying Ylds zBE alex zB0 zBk awp zAg zB9 zB8 zAU zA6 zBn zBC zBq zBz zB7 zBm
abbrev u8(c:UInt8): D:=.val (.int .u8 (c.toNat:Int))
theorem zDR{a b:Bool}(h:a=b): D.val (Value.bool a)=bl b:=by subst h;rfl
theorem zKk{a b:Int}(h:a=b): D.val (Value.int .i64 a)=i64 b:=by subst h;rfl
theorem zOI(c:UInt8): zAg prog 181 [u8 c] (bl (zFg c)):=by
 refine zAr func181 rfl ntmps181 results181 rfl ?_
 intro wb St0
 repeat' first|apply en_n|apply zAG|apply zAA|apply zAD|apply w0|refine k1u (hd:=rfl) rfl rfl ?_|apply ay (hd:=rfl)|exact zAF rfl|exact zAB rfl|exact zGk rfl rfl|exact zAZ rfl rfl|exact zAV rfl rfl|refine w1 rfl rfl ?_|(apply gD;exact rfl;exact rfl;all_goals intro hb)|apply zAQ|apply zAT|refine res1 rfl ?_
 all_goals exact zDR (by simp only[zFg];first|(rw[decide_eq_decide];omega)|(symm;rw[decide_eq_false_iff_not];omega))
theorem zOr(c:UInt8): zAg prog 182 [u8 c] (bl (zFh c)):=by
 refine zAr func182 rfl ntmps182 results182 rfl ?_
 intro wb St0
 repeat' first|apply en_n|apply zAG|apply zAA|apply zAD|apply w0|refine k1u (hd:=rfl) rfl rfl ?_|apply ay (hd:=rfl)|exact zAF rfl|exact zAB rfl|exact zGk rfl rfl|exact zAZ rfl rfl|exact zAV rfl rfl|refine w1 rfl rfl ?_|(apply gD;exact rfl;exact rfl;all_goals intro hb)|apply zAQ|apply zAT|refine res1 rfl ?_
 all_goals exact zDR (by simp only[zFh];first|(rw[decide_eq_decide];omega)|(symm;rw[decide_eq_false_iff_not];omega))
theorem zU4(c:UInt8): zAg prog 196 [u8 c] (bl (zHV c)):=by
 refine zAr func196 rfl ntmps196 results196 rfl ?_
 intro wb St0
 repeat' first|apply en_n|apply zAG|apply zAA|apply zAD|apply w0|refine k1u (hd:=rfl) rfl rfl ?_|apply ay (hd:=rfl)|exact zAF rfl|exact zAB rfl|exact zGk rfl rfl|exact zAZ rfl rfl|exact zAV rfl rfl|refine w1 rfl rfl ?_|(apply gD;exact rfl;exact rfl;all_goals intro hb)|apply zAQ|apply zAT|refine res1 rfl ?_
 all_goals exact zDR (by simp only[zHV];first|(rw[decide_eq_decide];omega)|(symm;rw[decide_eq_false_iff_not];omega))
theorem zYl(c d:UInt8): (c==d)=decide ((c.toNat:Int)=(d.toNat:Int)):=by
 cases h:c==d with
 |true=>rw[eq_of_beq h];simp
 |false =>
  symm;rw[decide_eq_false_iff_not];intro h2
  have:c=d:=UInt8.toNat_inj.1 (by omega)
  rw[this]at h;simp at h
theorem zUp(c:UInt8): zAg prog 179 [u8 c] (bl (zF9 c)):=by
 refine zAr func179 rfl ntmps179 results179 rfl ?_
 intro wb St0
 repeat' first|apply en_n|apply zAG|apply zAA|apply zAD|apply w0|refine k0u (hd:=rfl) rfl rfl ?_|(apply zAd (hb:=zOo) (hc:=zOI c))|(apply zAd (hb:=zOq) (hc:=zOr c))|(apply zAd (hb:=zUv) (hc:=zU4 c))|apply ay (hd:=rfl)|exact zAF rfl|exact zAB rfl|exact zE6 rfl rfl|exact zAZ rfl rfl|exact zAV rfl rfl|refine w1 rfl rfl ?_|(apply gD;exact rfl;exact rfl;all_goals intro hb)|apply zAQ|apply zAT|refine res1 rfl ?_|exact zAM|refine zAY rfl ?_
 all_goals refine zDR ?_
 all_goals simp only[zF9,zFg,zFh,zHV,zYl,<-Bool.decide_or,show ((95:UInt8).toNat:Int)=95 from rfl,show ((39:UInt8).toNat:Int)=39 from rfl]at *
 all_goals first|(rw[decide_eq_decide];omega)|(symm;rw[decide_eq_true_eq];omega)
theorem zZg(c:UInt8): decide (Lib.indexByte signL c>=0)=zEq c:=by rw[zEq,Lib.contains_iff_indexByte]
theorem zWw(c:UInt8): zAg prog 183 [u8 c] (bl (zEq c)):=by
 refine zAr func183 rfl ntmps183 results183 rfl ?_
 intro wb St0
 repeat' first|apply en_n|apply zAG|apply zAA|apply zAD|apply w0|(apply zAd (hb:=zMg) (hc:=zM9 signL c))|apply ay (hd:=rfl)|exact zAF rfl|exact zAB rfl|exact zH9 rfl rfl|apply zAQ|apply zAT|refine res1 rfl ?_|exact zAM|refine zAY rfl ?_
 exact zDR (zZg c)
def isK(c:UInt8): Int:=if zEq c then 5 else if zFg c then 1 else if zFh c then 2 else if zHV c then 3 else if c=95\/c=39 then 4 else 0
theorem zTw{c:UInt8}{i:Nat}(h:i<16)(h1:((signL.getD i 0).toNat:Int)=(c.toNat:Int)): zEq c=true:=by
 have:signL.getD i 0=c:=UInt8.toNat_inj.1 (by omega)
 have h2:i<signL.length:=h
 rw[zEq,<-this,qAE,qAB h2]
 simp
theorem zL1{c:UInt8}(h:∀j,j<16->(signL.getD j 0)≠c): zEq c=false:=by
 cases h2:zEq c with
 |false=>rfl
 |true =>
  rw[zEq]at h2
  obtain⟨j,hj,e⟩:=List.getElem_of_mem (List.contains_iff_mem.1 h2)
  refine absurd ?_ (h j hj)
  rw[qAE,qAB hj];exact e
theorem zZc(c:UInt8): zAg prog 174 [u8 c] (i64 (isK c)):=by
 refine zAr func174 rfl ntmps174 results174 rfl ?_
 intro wb St0
 repeat' first|apply en_n|apply zAG|apply zAA|apply zAD|apply w0|apply ay (hd:=rfl)|exact zAB rfl|apply zAK
 refine zBV (α:=Nat) (fun i=>i<=16/\∀j,j<i->signL.getD j 0≠c) (fun i=>[(0,.d (u8 c)),(3,.d (str signL)),(4,.d (i64 (i:Int)))]) (fun _=>[]) (fun i=>16-i) 0 ⟨qAV _,by omega⟩
   (zAS (Le_all rfl) zAs rfl rfl) ?_
 rintro i ⟨hi1,hi2⟩
 have hL:signL.length=16:=rfl
 repeat' first|apply en_n|apply zAG|apply zAA|apply zAD|apply w0|refine k1u (hd:=rfl) rfl rfl ?_|refine k0u (hd:=rfl) rfl rfl ?_|(apply zEY;exact rfl;with_reducible exact ustr)|(apply zKI;exact rfl;exact rfl;with_reducible exact ustr;(first|assumption|omega))|apply ay (hd:=rfl)|exact zAF rfl|exact zAB rfl|exact zEM rfl rfl|exact zGk rfl rfl|exact zH9 rfl rfl|exact zE6 rfl rfl|refine zBG rfl rfl ?_|exact zAZ rfl rfl|exact zAV rfl rfl|refine w1 rfl rfl ?_|(apply gD;exact rfl;exact rfl;all_goals intro hb)|(apply zBa;exact rfl;all_goals intro hb)|refine zAI rfl ?_|refine zAJ rfl ?_|apply zAK|apply zAR|apply zAQ|apply zBX|apply en_r|apply en_e|apply eb_n|apply eb_r|apply eb_e|apply zAT|refine res1 rfl ?_
 ·rename_i h1;rw[hL]at h1
  exact zKk (by rw[isK,zTw (by omega) hb,if_pos rfl])
 ·omega
 ·rename_i h1;rw[hL]at h1
  refine⟨i+1,⟨by omega,fun j hj=>?_⟩,by omega,zAS (Le_all rfl) zAs rfl rfl⟩
  rcases qAQ j i with h|h
  ·exact hi2 j h
  ·rw[show j=i by omega];rintro rfl;exact hb rfl
 all_goals
  have hs:zEq c=false:=zL1 fun j hj=>hi2 j (by omega)
  have e95:c=95↔(c.toNat:Int)=95:=by rw[<-UInt8.toNat_inj];show _=95↔_;omega
  have e39:c=39↔(c.toNat:Int)=39:=by rw[<-UInt8.toNat_inj];show _=39↔_;omega
  refine zKk ?_
  rw[isK,hs,if_neg (by decide)]
  simp only[zFg,zFh,zHV,decide_eq_true_eq,e95,e39]
  repeat' split
  all_goals first|rfl|omega
theorem zIx(p:UInt8->Bool): ∀(s:List UInt8) (n:Nat),n<=s.length->(∀j,j<n->p (s.getD j 0)=true)->(n=s.length\/p (s.getD n 0)=false)->zKO p s=n
 |[],n,h,_,_=>by rw[zKO];simp at h;omega
 |c::s,n,h,h1,h2=>by
  rw[zKO]
  cases n with
  |zero =>
   have h2:p c=false:=by
    rcases h2 with h2|h2
    ·simp at h2
    ·exact h2
   rw[h2];rfl
  |succ n =>
   have h3:p c=true:=h1 0 (by omega)
   rw[if_pos h3,zIx p s n (by simpa using h) (fun j hj=>h1 (j+1) (by omega)) (by simpa using h2)]
theorem getB{l:List UInt8}{i:Nat}(h:i<(⟨l.toArray⟩:ByteArray).size): (⟨l.toArray⟩:ByteArray)[i]'h=l.getD i 0:=by
 have hlt:i<l.length:=by rw[zCy]at h;exact h
 rw[qAE,qAB hlt];rfl
theorem zSR{l:List UInt8}{i:Nat}(h:i<l.length)(h1:¬((Utf8.decode ⟨l.toArray⟩ i).1:Int)>126): (Utf8.decode ⟨l.toArray⟩ i).2=1/\(Utf8.decode ⟨l.toArray⟩ i).1=(l.getD i 0).toNat/\(l.getD i 0).toNat<=126:=by
 have hs:i<(⟨l.toArray⟩:ByteArray).size:=by rw[zCy];exact h
 rcases qAQ ((⟨l.toArray⟩:ByteArray)[i]'hs).toNat 128 with h3|h3
 ·have e:=decode_ascii ⟨l.toArray⟩ i hs h3
  rw[getB hs]at e
  rw[e]at h1 ⊢
  dsimp only at h1
  exact⟨rfl,rfl,by omega⟩
 ·have:=(decode_high ⟨l.toArray⟩ i hs h3).1
  omega
theorem zQH{l:List UInt8}{i:Nat}(h:i<l.length)(h1:((Utf8.decode ⟨l.toArray⟩ i).1:Int)>126): (l.getD i 0).toNat>126:=by
 have hs:i<(⟨l.toArray⟩:ByteArray).size:=by rw[zCy];exact h
 rcases qAQ ((⟨l.toArray⟩:ByteArray)[i]'hs).toNat 128 with h3|h3
 ·have e:=decode_ascii ⟨l.toArray⟩ i hs h3
  rw[getB hs]at e
  rw[e]at h1
  dsimp only at h1
  omega
 ·rw[getB hs]at h3
  omega
def allF(p:UInt8->Bool)(s:List UInt8): Bool:=s.all p && !s.isEmpty
theorem zSp{p:UInt8->Bool}{s:List UInt8}{i:Nat}(h:i<s.length)(h1:p (s.getD i 0)=false): allF p s=false:=by
 have:s.all p=false:=by
  rw[List.all_eq_false]
  refine⟨s.getD i 0,?_,by rw[h1];decide⟩
  rw[qAE,qAB h];simp
 rw[allF,this];rfl
theorem zZ2{p:UInt8->Bool}{s:List UInt8}(h:∀j,j<s.length->p (s.getD j 0)=true): allF p s=decide (s≠[]):=by
 have:s.all p=true:=by
  rw[qAX];intro x hx
  obtain⟨j,hj,rfl⟩:=List.getElem_of_mem hx
  have:=h j hj
  rwa [qAE,qAB hj]at this
 rw[allF,this]
 cases s <;> simp
theorem zV0(f:FuncId)(p:UInt8->Bool)(hb:zAO prog f=true)(hp:∀c,zAg prog f [u8 c] (bl (p c)))(hp2:∀c,c.toNat>126->p c=false)(s:List UInt8):
  zA6 prog 178 [.d (str s),.clo f []] [] (bl (allF p s)):=by
 have hbf:=hb;clear hb
 refine zCb func178 rfl ntmps178 results178 rfl ?_
 intro wb St0
 repeat' first|apply en_n|apply zAG|apply zAA|apply zAD|apply w0|(apply zZ3 (hd:=rfl) (hro:=rfl);exact rfl;with_reducible exact ustr)|apply ay (hd:=rfl)|exact zAF rfl|exact zAB rfl|apply zAK
 refine zBV (α:=Nat) (fun i=>i<=s.length/\∀j,j<i->p (s.getD j 0)=true)
  (fun i=>[(0,.d (str s)),(1,.clo f []),(8,.ptr 0 0)]) (fun i=>[.iter ⟨s.toArray⟩ i]) (fun i=>s.length-i) 0 ⟨qAV _,by omega⟩
   (zAS (Le_all rfl) (zAN rfl rfl zAs) rfl rfl) ?_
 rintro i ⟨hi1,hi2⟩
 repeat' first|apply en_n|apply zAG|apply zAA|apply zAD|apply w0|refine k0u (hd:=rfl) rfl rfl ?_|exact zSy rfl rfl|(apply zbD (hd:=rfl) (hro:=rfl);exact rfl;exact rfl;all_goals intro hb)|exact zAh rfl|(apply zEA;exact rfl;with_reducible exact si32;with_reducible exact uu8)|(apply zSx (hb:=hbf) (hc:=hp (s.getD i 0));exact rfl)|apply ay (hd:=rfl)|exact zAF rfl|exact zAB rfl|exact zGM rfl rfl|exact zBS rfl|exact zAZ rfl rfl|exact zAV rfl rfl|exact zAk rfl rfl|refine w1 rfl rfl ?_|(apply gD;exact rfl;exact rfl;all_goals intro hb)|refine zAI rfl ?_|refine zAJ rfl ?_|(apply zE3;exact rfl;all_goals intro hb)|apply zAK|apply zAR|apply zAQ|apply zBX|apply en_r|apply en_e|apply eb_n|apply eb_r|apply eb_e|apply zAT|refine res1 rfl ?_
 ·rename_i h0
  have hlt:i<s.length:=by rw[zCy]at h0;exact h0
  exact zDR (zSp hlt (hp2 _ (zQH hlt hb))).symm
 ·rename_i h0
  have hlt:i<s.length:=by rw[zCy]at h0;exact h0
  obtain⟨_,e,hl⟩:=zSR hlt hb
  refine zAY ?_ zAM
  show SV.d (D.val (.int .u8 (IntKind.u8.wrap (((Utf8.decode ⟨s.toArray⟩ i).1:Nat):Int))))=_
  rw[e,zWH,show (((s.getD i 0).toNat:Nat):Int)%256=((s.getD i 0).toNat:Int) by omega]
 ·rename_i h0 h1
  have hlt:i<s.length:=by rw[zCy]at h0;exact h0
  exact zDR (zSp hlt (by simpa using hb)).symm
 ·rename_i h0 h1
  have hlt:i<s.length:=by rw[zCy]at h0;exact h0
  obtain⟨e1,_,hl⟩:=zSR hlt h1
  refine⟨i+1,⟨by omega,fun j hj=>?_⟩,by omega,zAS (Le_all rfl) (zAN rfl (by rw[e1]) zAs) rfl rfl⟩
  rcases qAQ j i with h|h
  ·exact hi2 j h
  ·rw[show j=i by omega];simpa using hb
 ·have hge:¬i<s.length:=by rw[zCy]at hb;exact hb
  exact zDR (zZ2 fun j hj=>hi2 j (by omega)).symm
def btw(lo hi:Int)(c:UInt8): Bool:=decide (lo<=isK c/\isK c<=hi)
theorem zJ1(s:List UInt8)(a j:Nat): (s.drop a).getD j 0=s.getD (a+j) 0:=by
 rw[qAE,qAE,qAh]
theorem zLp(s:List UInt8)(at_:Nat)(lo hi:Int)(hs:s.length<=9223372036854775807)(ha:at_<=s.length):
  zAg prog 175 [str s,i64 (at_:Int),i64 lo,i64 hi] (i64 ((at_+zKO (btw lo hi) (s.drop at_):Nat):Int)):=by
 refine zAr func175 rfl ntmps175 results175 rfl ?_
 intro wb St0
 repeat' first|apply en_n|apply zAG|apply zAA|apply zAD|apply w0|apply ay (hd:=rfl)|exact zAB rfl|apply zAK
 refine zBV (α:=Nat) (fun i=>at_+i<=s.length/\∀j,j<i->btw lo hi ((s.drop at_).getD j 0)=true) (fun i=>[(0,.d (str s)),(1,.d (i64 ((at_+i:Nat):Int))),(2,.d (i64 lo)),(3,.d (i64 hi))]) (fun _=>[]) (fun i=>s.length-(at_+i)) 0 ⟨by omega,by omega⟩
   (zAS (Le_all rfl) zAs rfl rfl) ?_
 rintro i ⟨hi1,hi2⟩
 repeat' first|apply en_n|apply zAG|apply zAA|apply zAD|apply w0|refine k1u (hd:=rfl) rfl rfl ?_|(apply zEY;exact rfl;with_reducible exact ustr)|(apply zKI;exact rfl;exact rfl;with_reducible exact ustr;(first|assumption|omega))|(apply zAd (hb:=zZh) (hc:=zZc (s.getD (at_+i) 0)))|apply ay (hd:=rfl)|exact zAF rfl|exact zAB rfl|exact zEM rfl rfl|exact zGk rfl rfl|exact zH9 rfl rfl|refine zBG rfl rfl ?_|exact zAZ rfl rfl|exact zAV rfl rfl|refine w1 rfl rfl ?_|(apply gD;exact rfl;exact rfl;all_goals intro hb)|(apply zBa;exact rfl;all_goals intro hb)|refine zAJ rfl ?_|apply zAK|apply zAR|apply zAQ|apply zBX|apply en_e|apply eb_n|apply eb_e|apply zAT|refine res1 rfl ?_|exact zAM|refine zAY rfl ?_
 ·omega
 ·rename_i h1 h2
  have hb:btw lo hi ((s.drop at_).getD i 0)=true:=by
   rw[zJ1,btw,decide_eq_true_eq];exact⟨h2,hb⟩
  refine⟨i+1,⟨by omega,fun j hj=>?_⟩,by omega,zAS (Le_cons rfl (Le_d rfl (by rw[Int.natCast_add,Int.natCast_add,Int.natCast_add,Int.add_assoc];rfl) (Le_all rfl))) zAs rfl rfl⟩
  rcases qAQ j i with h|h
  ·exact hi2 j h
  ·rw[show j=i by omega];exact hb
 ·rename_i h1 h2
  have hb:btw lo hi ((s.drop at_).getD i 0)=false:=by
   rw[zJ1,btw,decide_eq_false_iff_not];exact fun h=>hb h.2
  rw[zIx _ _ i (by rw[qAb];omega) hi2 (.inr hb)]
 ·rename_i h1
  have hb:btw lo hi ((s.drop at_).getD i 0)=false:=by
   rw[zJ1,btw,decide_eq_false_iff_not];exact fun h=>hb h.1
  rw[zIx _ _ i (by rw[qAb];omega) hi2 (.inr hb)]
 ·rw[zIx _ _ i (by rw[qAb];omega) hi2 (.inl (by rw[qAb];omega))]
end Go.Proofs.YtcagoomibpcdlaaGreatDoor
namespace Go.Proofs.YtcagoomibpcdlaaGreatDoor
open Go.Sx Go.RowKit
attribute [local irreducible] Ylds zBE alex zB0 zBk awp zAg zB9 zB8 zAU zA6 zBn zBC zBq zBz zB7
end Go.Proofs.YtcagoomibpcdlaaGreatDoor
namespace Go.Proofs.YtcagoomibpcdlaaGreatDoor
end Go.Proofs.YtcagoomibpcdlaaGreatDoor

import Derived.Test.YtcagoomibpcdlaaGreatDoorProg
import Derived.Laws.StructEq
import Derived.ChangeKeysEq
import Derived.Test.YtcagoomibpcdlaaGreatDoorRows
import Derived.ProofKit
import Derived.Deep.Fields
import Derived.ChangeSame
import Derived.Shelf.Strings.Builder1
import Derived.Shelf.Strings.Builder2
import Derived.Shelf.Small.Strs
import Derived.Shelf.Strings.BuilderF
import Derived.Shelf.Strings.BuilderK
import Derived.Shelf.Utf8.RuneCount
import Derived.Shelf.Strconv.Itoa0
import Derived.Shelf.Strconv.Itoa1
import Derived.Shelf.LaysM
import Derived.Shelf.Strconv.Itoa2
import Derived.Shelf.Strconv.Itoa3
import Derived.Shelf.Strconv.Itoa4
import Derived.Shelf.Strings.Search1
import Derived.Shelf.Strings.Search2
import Derived.Shelf.Strings.Search3
import Derived.Shelf.Strings.Count
import Derived.Shelf.Strings.Shaped
import Derived.Shelf.Strings.Split
import Derived.Shelf.Strings.Fields
import Derived.Shelf.Strings.Replace
import Derived.Shelf.Strings.SplitShaped
import Derived.Shelf.Unicode.Latin
import Derived.Shelf.Unicode.Decode
import Derived.Shelf.Strings.RuneCount
import Derived.Shelf.Unicode.DecodeSlow
import Derived.Shelf.Unicode.DecodeAny
import Derived.Shelf.Unicode.Is16White
import Derived.Shelf.Unicode.IsSpaceAny
import Derived.Shelf.Unicode.Is16WhiteD
import Derived.Shelf.Unicode.IsSpaceAnyD
import Derived.Shelf.Unicode.Is16Any
import Derived.Shelf.Unicode.Is32Any
import Derived.Shelf.Unicode.ExclAny
import Derived.Shelf.Slices.Turned
import Derived.Shelf.Slices.Equal
import Derived.Ground.Names2Prog
import Derived.Shelf.Slices.Clone
import Derived.Shelf.Slices.Empties2
import Derived.Ground.SlgnProg
import Derived.Shelf.SlicesE.Clone
import Derived.Lib.ItoaLen
import Derived.Lib.IndexAny
import Derived.Lib.IndexLaws
import Derived.Test.YtcagoomibpcdlaaGreatDoorMAB
set_option maxHeartbeats 16000000
namespace Go.Proofs.YtcagoomibpcdlaaGreatDoor
section
open _root_.Go.Proofs.Tryz
open Go.Sx
theorem zDW: zA3 prog 29=some 4:=by kernel_rfl
theorem zBf: zA3 prog 121=some 1:=by kernel_rfl
theorem zDK: (zBb prog 29).isSome=true:=by kernel_rfl
theorem zCp: (zBb prog 121).isSome=true:=by kernel_rfl
theorem zDT: zBb prog 29=some 49:=by kernel_rfl
theorem zBn: zBb prog 121=some 3:=by kernel_rfl
theorem fn_2: zAk prog 49 2=some 2:=by kernel_rfl
theorem zAY: zBD prog 3=some (false,1):=by kernel_rfl
theorem zBo: zBD prog 2=some (false,1):=by kernel_rfl
theorem zDL: zBD prog 9=some (false,1):=by kernel_rfl
theorem zAm: zBD prog 4=some (false,1):=by kernel_rfl
theorem zGb: zBD prog 29=some (false,1):=by kernel_rfl
theorem zB1: zBD prog 121=some (false,1):=by kernel_rfl
theorem zZw: zBD prog 49=some (true,4):=by kernel_rfl
theorem zIo: zC6 prog 49=some 4:=by kernel_rfl
theorem zHg: zC6 prog 3=some 1:=by kernel_rfl
theorem zHc: zCX prog 29=some 40:=by kernel_rfl
theorem zFk: zCX prog 121=some 8:=by kernel_rfl
theorem zIn: (zBq prog 49).isSome=true:=by kernel_rfl
theorem zET: (zBq prog 3).isSome=true:=by kernel_rfl
theorem zHj: zBq prog 49=some [.int .i64 0,.string ByteArray.empty,.int .i64 0,.int .i64 0]:=by kernel_rfl
theorem zZT: zBq prog 3=some [.int .i64 0]:=by kernel_rfl
theorem zbQ: zAL prog 26=true:=by kernel_rfl
theorem zdT: zAL prog 102=true:=by kernel_rfl
theorem zYm: prog.underlying 3=some (.int .i64):=by kernel_rfl
structure Nd where
 kind:Int
 text:List UInt8
 num:Int
 kids:Int
deriving DecidableEq
def Nd.av(n:Nd): D:=.agg [.val (.int .i64 n.kind),.val (.string ⟨n.text.toArray⟩),.val (.int .i64 n.num),.val (.int .i64 n.kids)]
def zSc(L:List Nd): D:=.slice (L.map Nd.av)
def ival(n:Int): D:=.val (.int .i64 n)
def zBU(L:List Int): D:=.slice (L.map ival)
end
section
open Go.Sx
attribute [local irreducible] Ylds zA2 alex zBZ zBP awp zAb zBh zBg zAW zAp zBR zAr zBV zBY zBe

open _root_.Go.Proofs.Tryz
open Go.RowKit
theorem zGc{α:Type}{A B:List α}{i:Nat}{x:α}(h:A.take i=B.take i)(ha:A[i]?=some x)(hb:B[i]?=some x): A.take (i+1)=B.take (i+1):=by
 rw[qA7,qA7,h,ha,hb]
theorem zd3(A B:List Int)(hL:A.length<=2000000): zAb prog 102 [zBU A,zBU B] (bl (decide (A=B))):=by
 refine zAj func102 rfl ntmps102 results102 rfl ?_
 intro wb St0
 repeat' first|apply en_n|apply zAE|apply zAA|apply zAB|apply w0|refine ayA rfl ?_|apply ay (hd:=rfl)|exact zJf rfl rfl|(apply zBO;exact rfl;all_goals intro hb)|apply zAO|apply zAP|apply zAM|apply en_r|apply zAS|refine res1 rfl ?_
 ·have:A≠B:=fun e=>by subst e;omega
  rw[decide_eq_false this]
 ·have hlen:A.length=B.length:=by omega
  refine zBA (α:=Nat) (fun i=>i<=A.length/\A.take i=B.take i) (fun i=>[(0,.d (zBU A)),(1,.d (zBU B)),(5,.d (i64 (i:Int)))]) (fun _=>[]) (fun i=>A.length-i) 0 ⟨qAQ _,rfl⟩
   (zAU (Le_all rfl) zAe rfl rfl) ?_
  rintro i ⟨hi1,hi2⟩
  repeat' first|apply en_n|apply zAE|apply zAA|apply zAB|apply w0|(apply aI (hd:=rfl);(first|exact zA0 rfl|exact zBX rfl rfl rfl|exact Co_nn rfl);exact rfl;(with_reducible exact zBf);exact fun _=>rfl;rotate_left;intro v hv;rotate_right)|refine ayA rfl ?_|apply ay (hd:=rfl)|exact zES rfl rfl|exact zJf rfl rfl|refine zBp rfl rfl ?_|(apply zBO;exact rfl;all_goals intro hb)|apply zAO|apply zAP|apply zAM|apply zBH|refine awDA ?_|apply en_r|apply en_e|apply eb_n|apply eb_r|apply eb_e|apply zAS|refine res1 rfl ?_
  ·omega
  ·omega
  ·rename_i b1 b2 u hu
   have:A≠B:=by rintro rfl;rw[hu]at hv;exact hb (qBA hv)
   rw[decide_eq_false this]
  ·omega
  ·rename_i b1 b2 u hu
   obtain rfl:u=v:=Decidable.not_not.1 hb
   exact⟨i+1,⟨by omega,zGc (i:=i) hi2 hu hv⟩,by omega,zAU (Le_all rfl) zAe rfl rfl⟩
  ·have h1:=hi2
   rw[show i=A.length by omega,qAw,hlen,qAw]at h1
   rw[decide_eq_true h1]
theorem fd37: (prog.fieldsOf 49).toList=[⟨"Kind",47,0,false, "", "",0⟩,⟨"Text",9,1,false, "", "",8⟩,⟨"Num",2,2,false, "", "",24⟩,⟨"Kids",3,3,false, "", "",32⟩]:=by kernel_rfl
def Nd.vals(n:Nd): List Value:=[.int .i64 n.kind,.string ⟨n.text.toArray⟩,.int .i64 n.num,.int .i64 n.kids]
theorem zdH(a b:Nd): a=b↔a.kind=b.kind/\a.text=b.text/\a.num=b.num/\a.kids=b.kids:=by
 cases a;cases b;simp
theorem zdG(a b:Nd)(x y:Operand)(w:World): ((do eqGuard .neq 49 x y (.agg a.vals.toArray) (.agg b.vals.toArray);binOp .neq 49 (.agg a.vals.toArray) (.agg b.vals.toArray):Sem Value)).run prog w=.ok (.bool (decide (a≠b))) w:=by
 have hS:prog.underlying 49=some (.struct (prog.fieldsOf 49)):=by kernel_rfl
 have hp:prog.stoodInHeld 49=false:=by kernel_rfl
 have hg:prog.eqGuardType prog.depth 49=false:=by kernel_rfl
 have u1:prog.underlying 47=some (.int .i64):=by kernel_rfl
 have u2:prog.underlying 9=some .string:=by kernel_rfl
 have u3:prog.underlying 2=some (.int .i64):=by kernel_rfl
 have u4:prog.underlying 3=some (.int .i64):=by kernel_rfl
 have p1:prog.plainKey 47=true:=by kernel_rfl
 have p2:prog.plainKey 9=true:=by kernel_rfl
 have p3:prog.plainKey 2=true:=by kernel_rfl
 have p4:prog.plainKey 3=true:=by kernel_rfl
 have hk:∀(n:Nd) (w:World),(part 47 n.vals.toArray 0).run prog w=.ok (.int .i64 n.kind) w:=fun n w=>run_part_plain (w:=w) p1 rfl
 have ht:∀(n:Nd) (w:World),(part 9 n.vals.toArray 1).run prog w=.ok (.string ⟨n.text.toArray⟩) w:=fun n w=>run_part_plain (w:=w) p2 rfl
 have hn:∀(n:Nd) (w:World),(part 2 n.vals.toArray 2).run prog w=.ok (.int .i64 n.num) w:=fun n w=>run_part_plain (w:=w) p3 rfl
 have hi:∀(n:Nd) (w:World),(part 3 n.vals.toArray 3).run prog w=.ok (.int .i64 n.kids) w:=fun n w=>run_part_plain (w:=w) p4 rfl
 simp only[Sem.run_bind,run_eqGuard_agg w .neq _ x y _ _ hg,Result.andThen_ok,run_neq_struct]
 rw[show (10000:Nat)=9998+1+1 from rfl,run_equalIn_agg w (9998+1) _ _ _ hS hp,fd37]
 have c1:("Kind"≠"_")=True:=by simp
 have c2:("Text"≠"_")=True:=by simp
 have c3:("Num"≠"_")=True:=by simp
 have c4:("Kids"≠"_")=True:=by simp
 simp only[Op.eqFields,c1,c2,c3,c4,if_true,hk,Sem.run_bind,Result.andThen_ok,run_equalIn_int _ _ _ _ _ _ _ u1]
 rw[show decide (a≠b)=decide (¬(a.kind=b.kind/\a.text=b.text/\a.num=b.num/\a.kids=b.kids))from decide_eq_decide.2 (not_congr (zdH a b))]
 by_cases h1:a.kind=b.kind <;> by_cases h2:a.text=b.text <;> by_cases h3:a.num=b.num <;> by_cases h4:a.kids=b.kids <;> simp[h1,h2,h3,h4,ht,hn,hi,run_equalIn_int _ _ _ _ _ _ _ u3,run_equalIn_int _ _ _ _ _ _ _ u4,run_equalIn_string _ _ _ _ _ u2]
theorem zYZ{η:List Ob}{σ:Sl}{dst:Option Nat}{ty:TypeId}{pos:String}{after:Array Edge}{gd:Option (Nat×Bool)}{x y:Operand}{yt:TypeId}{a b:Nd}(hx:oval σ x=.d a.av)(hy:oval σ y=.d b.av):
  Ylds prog η σ ⟨dst,.binOp .neq 49 x y yt,ty,pos,after,gd⟩ (.d (.val (.bool (decide (a≠b))))) :=
 zdz (us:=a.vals) (vs:=b.vals) hx hy (zdG a b x y)
theorem zbz(A B:List Nd)(hL:A.length<=2000000): zAb prog 26 [zSc A,zSc B] (bl (decide (A=B))):=by
 refine zAj func26 rfl ntmps26 results26 rfl ?_
 intro wb St0
 repeat' first|apply en_n|apply zAE|apply zAA|apply zAB|apply w0|refine ayA rfl ?_|apply ay (hd:=rfl)|exact zJf rfl rfl|(apply zBO;exact rfl;all_goals intro hb)|apply zAO|apply zAP|apply zAM|apply en_r|apply zAS|refine res1 rfl ?_
 ·have:A≠B:=fun e=>by subst e;omega
  rw[decide_eq_false this]
 ·have hlen:A.length=B.length:=by omega
  refine zBA (α:=Nat) (fun i=>i<=A.length/\A.take i=B.take i) (fun i=>[(0,.d (zSc A)),(1,.d (zSc B)),(5,.d (i64 (i:Int)))]) (fun _=>[]) (fun i=>A.length-i) 0 ⟨qAQ _,rfl⟩
   (zAU (Le_all rfl) zAe rfl rfl) ?_
  rintro i ⟨hi1,hi2⟩
  repeat' first|apply en_n|apply zAE|apply zAA|apply zAB|apply w0|exact zYZ rfl rfl|(apply aI (hd:=rfl);(first|exact zA0 rfl|exact zBX rfl rfl rfl|exact Co_nn rfl);exact rfl;(with_reducible exact zDW);exact fun _=>rfl;rotate_left;intro v hv;rotate_right)|refine ayA rfl ?_|apply ay (hd:=rfl)|exact zES rfl rfl|refine zBp rfl rfl ?_|(apply zBO;exact rfl;all_goals intro hb)|apply zAO|apply zAP|apply zAM|apply zBH|refine awDA ?_|apply en_r|apply en_e|apply eb_n|apply eb_r|apply eb_e|apply zAS|refine res1 rfl ?_
  ·omega
  ·omega
  ·rename_i b1 b2 u hu
   have:A≠B:=by rintro rfl;rw[hu]at hv;exact hb (qBA hv)
   rw[decide_eq_false this]
  ·omega
  ·rename_i b1 b2 u hu
   obtain rfl:u=v:=Decidable.not_not.1 hb
   exact⟨i+1,⟨by omega,zGc (i:=i) hi2 hu hv⟩,by omega,zAU (Le_all rfl) zAe rfl rfl⟩
  ·have h1:=hi2
   rw[show i=A.length by omega,qAw,hlen,qAw]at h1
   rw[decide_eq_true h1]
end
section
open _root_.Go.Proofs.Tryz
open Go.ChangeShapes Go.WideShapes Go.ChangeAt Go.RowKit Go.Deep Go.Sx
def big(W:World): Stab:=fun b _=>b<W.heap.size
theorem zbf{W:World}{a:Addr}{u:Value}(h:W.cell? a=some u): a.block<W.heap.size:=by
 unfold World.cell? at h
 rcases qAR a.block W.heap.size with h1|h1
 ·exact h1
 ·rw[Array.getElem?_eq_none h1]at h;cases h
theorem zHb{α:Type}{Q:Nat->α->Prop}: ∀n:Nat,(∀i,i<n->∃x,Q i x)->∃L:List α,L.length=n/\∀i x,L[i]?=some x->Q i x
 |0,_=>⟨[],rfl,fun i x h=>by simp at h⟩
 |n+1,h=>by
  obtain⟨L,hl,hq⟩:=zHb n (fun i hi=>h i (by omega))
  obtain⟨y,hy⟩:=h n (by omega)
  refine⟨L++[y],by simp[hl],fun i x hx=>?_⟩
  rcases qAR i n with h1|h1
  ·rw[qAI (by omega)]at hx;exact hq i x hx
  ·rw[qAJ (by omega),hl]at hx
   rcases qAR n i with h2|h2
   ·rw[qAv (by simp;omega)]at hx;cases hx
   ·have:i=n:=by omega
    subst this;simp at hx;subst hx;exact hy
theorem zOC{W:World}{a:Addr}{len cap sz:Nat}{xs:List D}(hl:len=xs.length)(hc:len<=cap)(hm:cap<=maxLen)(hsz:∀x∈xs,x.flat.length=sz)(hp:0<sz)
  (h:∀(i:Nat) (d:D),xs[i]?=some d->∀(o:Nat) (c:D),d.flat[o]?=some c->∃u,W.cell? (a.add (i*sz+o))=some u/\u.oneCell'=true/\RepD (big W) W u c) :
  RepD (big W) W (.slice (some a) len cap) (.slice xs):=by
 have hfl:=zB9 hsz
 obtain⟨us,hul,huq⟩:=zHb (Q:=fun j u=>W.cell? (a.add j)=some u/\u.oneCell'=true/\∀c,(zCM xs)[j]?=some c->RepD (big W) W u c) (xs.length*sz) (fun j hj=>by
  have hi:j / sz<xs.length:=by rw[Nat.div_lt_iff_lt_mul hp];exact hj
  have ho:j%sz<sz:=Nat.mod_lt _ hp
  have hjj:j / sz*sz+j%sz=j:=by rw[Nat.mul_comm];exact Nat.div_add_mod j sz
  have hd:xs[j / sz]?=some xs[j / sz]:=qAB hi
  have hdl:=hsz _ (qA8 hi)
  have hc':(xs[j / sz]).flat[j%sz]?=some ((xs[j / sz]).flat[j%sz]'(by omega)):=qAB (by omega)
  obtain⟨u,h1,h2,h3⟩:=h _ _ hd _ _ hc'
  refine⟨u,by rw[<-hjj];exact h1,h2,fun c hcc=>?_⟩
  have h4:=zGj hsz hd ho
  rw[hjj,hcc,hc']at h4
  injection h4 with h4;rw[h4];exact h3)
 refine .slice (some a) len cap sz xs us hl hc hm hsz (by rw[hul,hfl]) (fun u hu=>?_) (fun _=>⟨a,rfl,fun j u hu=>⟨?_,(huq j u hu).1⟩⟩) (fun j u d hu hd=>(huq j u hu).2.2 d hd)
 ·obtain⟨j,hj,rfl⟩:=List.getElem_of_mem hu
  exact(huq j _ (qAB hj)).2.1
 ·have h1:=zbf (huq j u hu).1
  have h2:(a.add j).block=a.block:=by unfold Addr.add;split <;> rfl
  rw[h2]at h1;exact h1
theorem zT2{W:World}: RepD (big W) W (.slice none 0 0) (.slice []) :=
 .slice none 0 0 0 [] [] rfl (qAP _) (qAQ _) (by simp) (by simp[zCM]) (by simp) (fun h=>absurd h (by simp)) (fun j u d h=>by simp at h)
theorem zcH: prog.underlying 2=some (.int .i64):=by kernel_rfl
theorem zcF: prog.underlying 9=some .string:=by kernel_rfl
section
variable {H:Type}{enc:TypeId×Value->H}{P:Program}{w:World}{base:Nat}{spare:Nat->Bool}{held:Bool}
theorem zLM{t e:TypeId}{fs:Array Field}{fuel:Nat}{cs:List Value}{x:DataW H×List MemPlace}(ht:P.underlying t=some (.slice e))(he:P.underlying e=some (.struct fs))
  (hone:oneCellFields P fs=true) (hC:P.cellsOf e=fs.size) (h:DataW.trod enc P w base spare held fuel t cs=some x) :
  cs=[.slice none 0 0]\/
  ∃(a:Addr) (len cap:Nat),cs=[.slice (some a) len cap]/\len<=cap/\cap<=maxLen/\
   ∀i,i<len->∃n:Nat,∀(j:Nat) (f:Field),fs[j]?=some f->∃(v:Value) (y:DataW H×List MemPlace),w.cell? (a.add (i*fs.size+j))=some v/\DataW.trod enc P w base spare held n f.type [v]=some y:=by
 rcases open_slice ht h with h0|⟨a,len,cap,m,n,D,Pl,hcs,hb,hl,hm,hmm,hx,hi⟩
 ·exact .inl h0.1
 ·refine .inr ⟨a,len,cap,hcs,hl,hm,fun i him=>?_⟩
  obtain⟨cs',hc,ht'⟩:=hi i (by rw[hmm];split <;> omega)
  rw[hC]at hc
  obtain⟨ys,n',hn',hy,hlen,hyl,hf⟩:=DataW.trod_struct he ht'
  obtain⟨_,hcl,hat⟩:=World.cells?_some hc
  refine⟨n',fun j f hj=>?_⟩
  obtain⟨ho,hk⟩:=hone_of hone j f hj
  have hjl:j<fs.size:=(qAt.1 hj).1
  have hcell:=hat j hjl
  have hv:cs'[j]?=some (cs'[j]'(by omega)):=qAB (by omega)
  have h1:=hf j f hj
  rw[ho,hk]at h1
  have hone':(cs'.drop j).take 1=[cs'[j]'(by omega)]:=by
   rw[qA9 (by omega)]
   rfl
  rw[hone']at h1
  have hys:ys[j]?=some (ys[j]'(by omega)):=qAB (by omega)
  refine⟨_,_,?_,h1.trans hys⟩
  rw[<-Go.Deep.add_add,hcell,hv]
end
end
end Go.Proofs.YtcagoomibpcdlaaGreatDoor
namespace Go.Proofs
open _root_.Go.Proofs.Tryz
open Go.Shelf
def Tryz.lays137_ren: Go.Shelf.Ren:=⟨fun|137=>199|217=>186|266=>200|n=>n,fun|9=>9|5=>5|3=>3|n=>n,fun|n=>n⟩
theorem Tryz.lays137: Go.Proofs.Lays.n137 prog Tryz.lays137_ren:={
 mixed:=by kernel_rfl
 f137:=func199.trans (congrArg some (by kernel_rfl))
 f217:=func186.trans (congrArg some (by kernel_rfl))
 f266:=func200.trans (congrArg some (by kernel_rfl))
 t3:=Tryz.underlying3
 a3:=Tryz.isAgg3
 z3:=Tryz.sizeOf3
 v3:=Tryz.zeroValue3
 t5:=Tryz.underlying5
 a5:=Tryz.isAgg5
 z5:=Tryz.sizeOf5
 v5:=Tryz.zeroValue5
 t9:=Tryz.underlying9
 a9:=Tryz.isAgg9
 z9:=Tryz.sizeOf9
 v9:=Tryz.zeroValue9 }
open Go.RowKit in
theorem Tryz.strings_IndexByte(s:ByteArray)(c:Int)(w:World):
  Calls prog 199 #[.string s,.int .u8 c] w fun e w'=>e=.returned (.int .i64 (Lib.indexByte s.data.toList c.toNat.toUInt8))/\w'=w:=Any.strings_IndexByte Tryz.lays137 s c w
def Tryz.laysM173_ren: Go.Shelf.Ren:=⟨fun|173=>136|246=>160|283=>170|284=>171|285=>172|286=>173|129=>191|317=>190|318=>192|319=>193|320=>194|337=>202|338=>203|n=>n,fun|2=>2|3=>3|9=>9|4=>4|171=>227|0=>0|53=>57|37=>167|5=>5|173=>230|212=>245|51=>246|20=>20|213=>247|46=>100|232=>256|233=>257|n=>n,fun|17=>4|18=>5|19=>6|n=>n⟩
theorem Tryz.laysM173: Go.Proofs.LaysM.n173 prog Tryz.laysM173_ren:={
 mixed:=by kernel_rfl
 f129:=func191.trans (congrArg some (by kernel_rfl))
 f173:=func136.trans (congrArg some (by kernel_rfl))
 f246:=func160.trans (congrArg some (by kernel_rfl))
 f283:=func170.trans (congrArg some (by kernel_rfl))
 f284:=func171.trans (congrArg some (by kernel_rfl))
 f285:=func172.trans (congrArg some (by kernel_rfl))
 f286:=func173.trans (congrArg some (by kernel_rfl))
 f317:=func190.trans (congrArg some (by kernel_rfl))
 f318:=func192.trans (congrArg some (by kernel_rfl))
 f319:=func193.trans (congrArg some (by kernel_rfl))
 f320:=func194.trans (congrArg some (by kernel_rfl))
 f337:=func202.trans (congrArg some (by kernel_rfl))
 f338:=func203.trans (congrArg some (by kernel_rfl))
 t0:=Tryz.underlying0
 a0:=Tryz.isAgg0
 z0:=Tryz.sizeOf0
 v0:=Tryz.zeroValue0
 t2:=Tryz.underlying2
 a2:=Tryz.isAgg2
 z2:=Tryz.sizeOf2
 v2:=Tryz.zeroValue2
 t3:=Tryz.underlying3
 a3:=Tryz.isAgg3
 z3:=Tryz.sizeOf3
 v3:=Tryz.zeroValue3
 t4:=Tryz.underlying4
 a4:=Tryz.isAgg4
 z4:=Tryz.sizeOf4
 v4:=Tryz.zeroValue4
 t5:=Tryz.underlying5
 a5:=Tryz.isAgg5
 z5:=Tryz.sizeOf5
 v5:=Tryz.zeroValue5
 t9:=Tryz.underlying9
 a9:=Tryz.isAgg9
 z9:=Tryz.sizeOf9
 v9:=Tryz.zeroValue9
 t20:=Tryz.underlying20
 a20:=Tryz.isAgg20
 z20:=Tryz.sizeOf20
 v20:=Tryz.zeroValue20
 t37:=Tryz.underlying167
 a37:=Tryz.isAgg167
 z37:=Tryz.sizeOf167
 v37:=Tryz.zeroValue167
 t46:=Tryz.underlying100
 a46:=Tryz.isAgg100
 z46:=Tryz.sizeOf100
 v46:=Tryz.zeroValue100
 t51:=Tryz.underlying246
 a51:=Tryz.isAgg246
 z51:=Tryz.sizeOf246
 v51:=Tryz.zeroValue246
 t53:=Tryz.underlying57
 a53:=Tryz.isAgg57
 z53:=Tryz.sizeOf57
 v53:=Tryz.zeroValue57
 t171:=Tryz.underlying227
 a171:=Tryz.isAgg227
 z171:=Tryz.sizeOf227
 v171:=Tryz.zeroValue227
 t173:=Tryz.underlying230
 a173:=Tryz.isAgg230
 z173:=Tryz.sizeOf230
 v173:=Tryz.zeroValue230
 t212:=Tryz.underlying245
 a212:=Tryz.isAgg245
 z212:=Tryz.sizeOf245
 v212:=Tryz.zeroValue245
 t213:=Tryz.underlying247
 a213:=Tryz.isAgg247
 z213:=Tryz.sizeOf247
 t232:=Tryz.underlying256
 a232:=Tryz.isAgg256
 z232:=Tryz.sizeOf256
 v232:=Tryz.zeroValue256
 t233:=Tryz.underlying257
 a233:=Tryz.isAgg257
 z233:=Tryz.sizeOf257
 v233:=Tryz.zeroValue257
 g17:=by kernel_rfl
 g18:=by kernel_rfl
 g19:=by kernel_rfl
 i0:=by kernel_rfl
 i2:=by kernel_rfl
 i3:=by kernel_rfl
 i4:=by kernel_rfl
 i5:=by kernel_rfl
 i9:=by kernel_rfl
 i20:=by kernel_rfl
 i37:=by kernel_rfl
 i46:=by kernel_rfl
 i51:=by kernel_rfl
 i53:=by kernel_rfl
 i171:=by kernel_rfl
 i173:=by kernel_rfl
 i212:=by kernel_rfl
 i232:=by kernel_rfl
 i233:=by kernel_rfl
 m17:=by kernel_rfl
 m18:=by kernel_rfl
 m19:=by kernel_rfl }
open Go.RowKit Go.Sort Go.Lib in
theorem Tryz.strconv_FormatInt_10(n:Int)(h0:-9223372036854775808<=n)(h1:n<=9223372036854775807)(w:World)(htab:Lib.TabIs prog w "internal/strconv.uint64pow10" .u64 Lib.pow10Tab):
  Calls prog 136 #[.int .i64 n,.int .i64 10] w fun e w'=>e=.returned (.string ⟨(Lib.itoa n).toArray⟩)/\∃k os,w'=grow (w.drewN k) os:=Any.strconv_FormatInt_10 Tryz.laysM173 n h0 h1 w htab
def Tryz.lays154_ren: Go.Shelf.Ren:=⟨fun|154=>135|138=>154|165=>155|143=>156|166=>157|197=>158|169=>159|195=>164|218=>165|240=>166|241=>167|219=>168|260=>169|276=>184|277=>185|217=>186|225=>187|224=>188|267=>189|266=>200|314=>201|n=>n,fun|9=>9|3=>3|4=>4|72=>210|0=>0|76=>213|105=>215|21=>21|5=>5|70=>208|20=>20|37=>167|75=>212|127=>225|164=>237|46=>100|119=>240|139=>243|138=>242|146=>251|51=>246|80=>217|n=>n,fun|1=>1|3=>2|4=>3|n=>n⟩
theorem Tryz.lays154: Go.Proofs.Lays.n154 prog Tryz.lays154_ren:={
 mixed:=by kernel_rfl
 f138:=func154.trans (congrArg some (by kernel_rfl))
 f143:=func156.trans (congrArg some (by kernel_rfl))
 f154:=func135.trans (congrArg some (by kernel_rfl))
 f165:=func155.trans (congrArg some (by kernel_rfl))
 f166:=func157.trans (congrArg some (by kernel_rfl))
 f169:=func159.trans (congrArg some (by kernel_rfl))
 f195:=func164.trans (congrArg some (by kernel_rfl))
 f197:=func158.trans (congrArg some (by kernel_rfl))
 f217:=func186.trans (congrArg some (by kernel_rfl))
 f218:=func165.trans (congrArg some (by kernel_rfl))
 f219:=func168.trans (congrArg some (by kernel_rfl))
 f224:=func188.trans (congrArg some (by kernel_rfl))
 f225:=func187.trans (congrArg some (by kernel_rfl))
 f240:=func166.trans (congrArg some (by kernel_rfl))
 f241:=func167.trans (congrArg some (by kernel_rfl))
 f260:=func169.trans (congrArg some (by kernel_rfl))
 f266:=func200.trans (congrArg some (by kernel_rfl))
 f267:=func189.trans (congrArg some (by kernel_rfl))
 f276:=func184.trans (congrArg some (by kernel_rfl))
 f277:=func185.trans (congrArg some (by kernel_rfl))
 f314:=func201.trans (congrArg some (by kernel_rfl))
 t0:=Tryz.underlying0
 a0:=Tryz.isAgg0
 z0:=Tryz.sizeOf0
 v0:=Tryz.zeroValue0
 t3:=Tryz.underlying3
 a3:=Tryz.isAgg3
 z3:=Tryz.sizeOf3
 v3:=Tryz.zeroValue3
 t4:=Tryz.underlying4
 a4:=Tryz.isAgg4
 z4:=Tryz.sizeOf4
 v4:=Tryz.zeroValue4
 t5:=Tryz.underlying5
 a5:=Tryz.isAgg5
 z5:=Tryz.sizeOf5
 v5:=Tryz.zeroValue5
 t9:=Tryz.underlying9
 a9:=Tryz.isAgg9
 z9:=Tryz.sizeOf9
 v9:=Tryz.zeroValue9
 t20:=Tryz.underlying20
 a20:=Tryz.isAgg20
 z20:=Tryz.sizeOf20
 v20:=Tryz.zeroValue20
 t21:=Tryz.underlying21
 a21:=Tryz.isAgg21
 z21:=Tryz.sizeOf21
 v21:=Tryz.zeroValue21
 t37:=Tryz.underlying167
 a37:=Tryz.isAgg167
 z37:=Tryz.sizeOf167
 v37:=Tryz.zeroValue167
 t46:=Tryz.underlying100
 a46:=Tryz.isAgg100
 z46:=Tryz.sizeOf100
 v46:=Tryz.zeroValue100
 t51:=Tryz.underlying246
 a51:=Tryz.isAgg246
 z51:=Tryz.sizeOf246
 v51:=Tryz.zeroValue246
 t70:=Tryz.underlying208
 a70:=Tryz.isAgg208
 z70:=Tryz.sizeOf208
 v70:=Tryz.zeroValue208
 t72:=Tryz.underlying210
 a72:=Tryz.isAgg210
 z72:=Tryz.sizeOf210
 v72:=Tryz.zeroValue210
 t75:=Tryz.underlying212
 a75:=Tryz.isAgg212
 z75:=Tryz.sizeOf212
 v75:=Tryz.zeroValue212
 t76:=Tryz.underlying213
 a76:=Tryz.isAgg213
 z76:=Tryz.sizeOf213
 v76:=Tryz.zeroValue213
 t105:=Tryz.underlying215
 a105:=Tryz.isAgg215
 z105:=Tryz.sizeOf215
 v105:=Tryz.zeroValue215
 t119:=Tryz.underlying240
 a119:=Tryz.isAgg240
 z119:=Tryz.sizeOf240
 t127:=Tryz.underlying225
 a127:=Tryz.isAgg225
 z127:=Tryz.sizeOf225
 v127:=Tryz.zeroValue225
 t138:=Tryz.underlying242
 a138:=Tryz.isAgg242
 z138:=Tryz.sizeOf242
 v138:=Tryz.zeroValue242
 t139:=Tryz.underlying243
 a139:=Tryz.isAgg243
 z139:=Tryz.sizeOf243
 v139:=Tryz.zeroValue243
 t146:=Tryz.underlying251
 a146:=Tryz.isAgg251
 z146:=Tryz.sizeOf251
 v146:=Tryz.zeroValue251
 t164:=Tryz.underlying237
 a164:=Tryz.isAgg237
 z164:=Tryz.sizeOf237
 v164:=Tryz.zeroValue237
 g1:=by kernel_rfl
 g3:=by kernel_rfl
 g4:=by kernel_rfl }
theorem Tryz.Builder_Extra_154: Builder.Extra prog Tryz.lays154_ren:={
 sizeBuilder:=by kernel_rfl
 liesBuilder:=by kernel_rfl
 t5:=Tryz.underlying5
 a5:=Tryz.isAgg5
 z5:=Tryz.sizeOf5
 v5:=Tryz.zeroValue5
 infoByte:=by kernel_rfl
 cellsByte:=by kernel_rfl
 sizeByte:=by kernel_rfl
 neB5:=by decide }
open Go.RowKit Go.Lib in
theorem Tryz.strings_Replace(s old new:ByteArray)(n:Int)(m:Int)(w:World)(hs:s.size<4294967281)(hm:w.cell? ⟨1,0,none⟩=some (.int .i64 m))(h1:1<=old.size)(hlen:s.size+Lib.countB s old*new.size<=140737488355328):
  Calls prog 135 #[.string s,.string old,.string new,.int .i64 n] w fun e w' =>
   e=.returned (.string ⟨(Lib.replace s.data.toList old.data.toList new.data.toList n).toArray⟩)/\Below w.heap.size w w':=Any.strings_Replace Tryz.lays154 Tryz.Builder_Extra_154 s old new n m w hs hm h1 hlen
def Tryz.laysM157_ren: Go.Shelf.Ren:=⟨fun|157=>205|229=>206|199=>207|261=>208|311=>209|312=>210|n=>n,fun|9=>9|31=>30|3=>3|5=>5|4=>4|119=>240|0=>0|40=>259|152=>260|21=>21|154=>262|51=>246|141=>264|196=>268|193=>265|198=>271|49=>269|194=>266|201=>274|226=>276|46=>100|227=>277|n=>n,fun|0=>7|6=>8|n=>n⟩
theorem Tryz.laysM157: Go.Proofs.LaysM.n157 prog Tryz.laysM157_ren:={
 mixed:=by kernel_rfl
 f157:=func205.trans (congrArg some (by kernel_rfl))
 f199:=func207.trans (congrArg some (by kernel_rfl))
 f229:=func206.trans (congrArg some (by kernel_rfl))
 f261:=func208.trans (congrArg some (by kernel_rfl))
 f311:=func209.trans (congrArg some (by kernel_rfl))
 f312:=func210.trans (congrArg some (by kernel_rfl))
 t0:=Tryz.underlying0
 a0:=Tryz.isAgg0
 z0:=Tryz.sizeOf0
 v0:=Tryz.zeroValue0
 t3:=Tryz.underlying3
 a3:=Tryz.isAgg3
 z3:=Tryz.sizeOf3
 v3:=Tryz.zeroValue3
 t4:=Tryz.underlying4
 a4:=Tryz.isAgg4
 z4:=Tryz.sizeOf4
 v4:=Tryz.zeroValue4
 t5:=Tryz.underlying5
 a5:=Tryz.isAgg5
 z5:=Tryz.sizeOf5
 v5:=Tryz.zeroValue5
 t9:=Tryz.underlying9
 a9:=Tryz.isAgg9
 z9:=Tryz.sizeOf9
 v9:=Tryz.zeroValue9
 t21:=Tryz.underlying21
 a21:=Tryz.isAgg21
 z21:=Tryz.sizeOf21
 v21:=Tryz.zeroValue21
 t31:=Tryz.underlying30
 a31:=Tryz.isAgg30
 z31:=Tryz.sizeOf30
 v31:=Tryz.zeroValue30
 t40:=Tryz.underlying259
 a40:=Tryz.isAgg259
 z40:=Tryz.sizeOf259
 v40:=Tryz.zeroValue259
 t46:=Tryz.underlying100
 a46:=Tryz.isAgg100
 z46:=Tryz.sizeOf100
 v46:=Tryz.zeroValue100
 t49:=Tryz.underlying269
 a49:=Tryz.isAgg269
 z49:=Tryz.sizeOf269
 v49:=Tryz.zeroValue269
 t51:=Tryz.underlying246
 a51:=Tryz.isAgg246
 z51:=Tryz.sizeOf246
 v51:=Tryz.zeroValue246
 t119:=Tryz.underlying240
 a119:=Tryz.isAgg240
 z119:=Tryz.sizeOf240
 t141:=Tryz.underlying264
 a141:=Tryz.isAgg264
 z141:=Tryz.sizeOf264
 v141:=Tryz.zeroValue264
 t152:=Tryz.underlying260
 a152:=Tryz.isAgg260
 z152:=Tryz.sizeOf260
 v152:=Tryz.zeroValue260
 t154:=Tryz.underlying262
 a154:=Tryz.isAgg262
 z154:=Tryz.sizeOf262
 v154:=Tryz.zeroValue262
 t193:=Tryz.underlying265
 a193:=Tryz.isAgg265
 z193:=Tryz.sizeOf265
 v193:=Tryz.zeroValue265
 t194:=Tryz.underlying266
 a194:=Tryz.isAgg266
 z194:=Tryz.sizeOf266
 v194:=Tryz.zeroValue266
 t196:=Tryz.underlying268
 a196:=Tryz.isAgg268
 z196:=Tryz.sizeOf268
 v196:=Tryz.zeroValue268
 t198:=Tryz.underlying271
 a198:=Tryz.isAgg271
 z198:=Tryz.sizeOf271
 v198:=Tryz.zeroValue271
 t201:=Tryz.underlying274
 a201:=Tryz.isAgg274
 z201:=Tryz.sizeOf274
 v201:=Tryz.zeroValue274
 t226:=Tryz.underlying276
 a226:=Tryz.isAgg276
 z226:=Tryz.sizeOf276
 v226:=Tryz.zeroValue276
 t227:=Tryz.underlying277
 a227:=Tryz.isAgg277
 z227:=Tryz.sizeOf277
 v227:=Tryz.zeroValue277
 g0:=by kernel_rfl
 g6:=by kernel_rfl
 i0:=by kernel_rfl
 i3:=by kernel_rfl
 i4:=by kernel_rfl
 i5:=by kernel_rfl
 i9:=by kernel_rfl
 i21:=by kernel_rfl
 i31:=by kernel_rfl
 i40:=by kernel_rfl
 i46:=by kernel_rfl
 i49:=by kernel_rfl
 i51:=by kernel_rfl
 i141:=by kernel_rfl
 i152:=by kernel_rfl
 i154:=by kernel_rfl
 i193:=by kernel_rfl
 i194:=by kernel_rfl
 i196:=by kernel_rfl
 i198:=by kernel_rfl
 i201:=by kernel_rfl
 i226:=by kernel_rfl
 i227:=by kernel_rfl
 m0:=by kernel_rfl
 m6:=by kernel_rfl }
open Go.RowKit Go.Lib in
theorem Tryz.strings_Fields_laid(s:ByteArray)(w:World)(hs:s.size<4294967281)(hascii:∀(j:Nat) b,s.data.toList[j]?=some b->b.toNat<128)(htab:Lib.TabIs prog w "strings.asciiSpace" .u8 Lib.asciiSpaceTab):
  Calls prog 205 #[.string s] w fun e w' =>
   e=.returned (.slice (some ⟨w.heap.size,0,none⟩) (Lib.fields s.data.toList).length (Lib.fields s.data.toList).length)/\w'=w.alloc (.cells ((Lib.fields s.data.toList).map fun l=>Value.string ⟨l.toArray⟩).toArray 9):=Any.strings_Fields_laid Tryz.laysM157 s w hs hascii htab
end Go.Proofs
namespace Go.Proofs.YtcagoomibpcdlaaGreatDoor
section
open _root_.Go.Proofs.Tryz
open Go.Sx Go.RowKit
theorem zVI: zA3 prog 206=some 1:=by kernel_rfl
theorem zVH: zA3 prog 167=some 1:=by kernel_rfl
theorem zbW: (zBb prog 206).isSome=true:=by kernel_rfl
theorem zdX: (zBb prog 167).isSome=true:=by kernel_rfl
theorem zX4: zBb prog 206=some 2:=by kernel_rfl
theorem zVG: zBb prog 167=some 5:=by kernel_rfl
theorem zTW: zBD prog 2=some (false,1):=by kernel_rfl
theorem zdf: zCX prog 167=some 1:=by kernel_rfl
theorem zcC: (zBq prog 2).isSome=true:=by kernel_rfl
theorem zeC: (zBq prog 5).isSome=true:=by kernel_rfl
theorem ui64: prog.underlying 2=some (.int .i64):=by kernel_rfl
theorem uint: prog.underlying 3=some (.int .i64):=by kernel_rfl
theorem uu64: prog.underlying 57=some (.int .u64):=by kernel_rfl
theorem uu8: prog.underlying 5=some (.int .u8):=by kernel_rfl
theorem ustr: prog.underlying 9=some .string:=by kernel_rfl
theorem zZt: prog.underlying 4=some .bool:=by kernel_rfl
theorem uu8s: prog.underlying 167=some (.slice 5):=by kernel_rfl
theorem si64: (prog.underlying 2).isSome=true:=by kernel_rfl
theorem su64: (prog.underlying 57).isSome=true:=by kernel_rfl
theorem su8: (prog.underlying 5).isSome=true:=by kernel_rfl
theorem si32: (prog.underlying 21).isSome=true:=by kernel_rfl
theorem zFw: zAL prog 37=true:=by kernel_rfl
theorem zbJ: zAL prog 82=true:=by kernel_rfl
theorem zbF: zAL prog 84=true:=by kernel_rfl
theorem zbG: zAL prog 86=true:=by kernel_rfl
theorem zbI: zAL prog 89=true:=by kernel_rfl
theorem zbH: zAL prog 91=true:=by kernel_rfl
theorem zbE: zAL prog 134=true:=by kernel_rfl
theorem zXt: zAL prog 96=true:=by kernel_rfl
theorem zIV: zAL prog 58=true:=by kernel_rfl
theorem zbP: zAL prog 141=true:=by kernel_rfl
theorem zbM: zAL prog 142=true:=by kernel_rfl
theorem zbN: zAL prog 143=true:=by kernel_rfl
theorem zU5: zAL prog 144=true:=by kernel_rfl
theorem zU4: zAL prog 145=true:=by kernel_rfl
theorem zXv: zAL prog 112=true:=by kernel_rfl
theorem zLe: zAL prog 103=true:=by kernel_rfl
theorem zP3: zAL prog 146=true:=by kernel_rfl
theorem zSk: zAL prog 135=true:=by kernel_rfl
theorem zOr: zAL prog 136=true:=by kernel_rfl
def ints(L:List Int): D:=.slice (L.map i64)
theorem zB7(n:Int): IntKind.u64.wrap n=n%18446744073709551616:=by simp[IntKind.wrap,IntKind.bits,IntKind.signed]
theorem zD3(n:Int): IntKind.i64.wrap n=(n+9223372036854775808)%18446744073709551616-9223372036854775808:=by
 simp[IntKind.wrap,IntKind.bits,IntKind.signed];split <;> omega
theorem zTA(n:Int): IntKind.u8.wrap n=n%256:=by simp[IntKind.wrap,IntKind.bits,IntKind.signed]
def W(n:Int): Int:=(n+4611686018427387904)%9223372036854775808-4611686018427387904
theorem W_bd(n:Int): -4611686018427387904<=W n/\W n<=4611686018427387903:=by unfold W;omega
theorem zPR(n:Int)(h0:-9223372036854775808<=n)(h1:n<=9223372036854775807): zAb prog 136 [i64 n,i64 10] (str (Lib.itoa n)) :=
 zIx (us:=[.int .i64 n,.int .i64 10]) (fun _ _=>.val _) fun _ w hgl=>(Tryz.strconv_FormatInt_10 n h0 h1 w (by
  obtain⟨_,_,⟨e,t,h3⟩,_⟩:=hgl
  have key:∀(o:Option Nat),o=some 4->(o.bind fun g=>match w.heap[g]? with|some (.cells cs _ _)=>some cs|_=>none)=some (Lib.pow10Tab.map fun z=>Value.int .u64 z).toArray:=by
   rintro _ rfl;simp only[Option.bind_some,h3]
  exact key _ (by kernel_rfl))).mono fun e w' ⟨he,k,os,hw⟩=>⟨he,by
   subst hw
   exact⟨rfl,rfl,rfl,by simp[Sort.grow,World.drewN],fun i hi=>by simp[Sort.grow,World.drewN,Array.getElem?_append,hi]⟩⟩
theorem zS7(s a b:List UInt8)(n:Int)(ha:1<=a.length)(hs:s.length<=1000)(hb:b.length<=1000): zAb prog 135 [str s,str a,str b,i64 n] (str (Lib.replace s a b n)) :=
 zIx (us:=[.string ⟨s.toArray⟩,.string ⟨a.toArray⟩,.string ⟨b.toArray⟩,.int .i64 n]) (fun _ _=>.val _) fun _ w hgl=>by
  obtain⟨_,⟨m,e,t,h0⟩,_⟩:=hgl
  refine(Tryz.strings_Replace ⟨s.toArray⟩ ⟨a.toArray⟩ ⟨b.toArray⟩ n m w (by rw[zDQ];omega) ?_ (by rw[zDQ];exact ha) ?_).mono fun e w' ⟨he,hw⟩=>⟨he,hw⟩
  ·exact cell_of_row w 1 0 _ e t h0
  ·have h1:=Lib.count_le s a
   have h2:Lib.countB ⟨s.toArray⟩ ⟨a.toArray⟩=Lib.count s a:=rfl
   rw[h2,zDQ,zDQ]
   have h3:=Nat.mul_le_mul (show Lib.count s a<=1001 by omega) hb
   omega
end
section
open Go.Sx
structure Tk where
 kind:Int
 text:List UInt8
 num:Int
 pos:Int
deriving DecidableEq
def signL: List UInt8:=[33,36,37,38,42,43,45,47,58,60,61,62,63,64,94,124]
def zFm(c:UInt8): Bool:=signL.contains c
def zGt(c:UInt8): Bool:=decide (97<=c.toNat/\c.toNat<=122)
def zGu(c:UInt8): Bool:=decide (65<=c.toNat/\c.toNat<=90)
def zI1(c:UInt8): Bool:=decide (48<=c.toNat/\c.toNat<=57)
def zHR(c:UInt8): Bool:=zGt c||zGu c||zI1 c||c==95||c==39
def kws: List (List UInt8):=[[108,101,116],[114,101,99],[105,110],[102,117,110],[105,102],[116,104,101,110],[101,108,115,101],[109,97,116,99,104],[119,105,116,104],[101,110,100],[114,97,105,115,101],[116,114,121],[111,112,101,110],[116,121,112,101],[111,102],[105,110,102,105,120,108],[105,110,102,105,120,114],[105,110,102,105,120],[45,62],[61],[124],[40],[41],[95],[59,59]]
def zSe(s:List UInt8): Bool:=kws.contains s
def zL6(p:UInt8->Bool): List UInt8->Nat
 |[]=>0
 |c::s=>if p c then zL6 p s+1 else 0
open _root_.Go.Proofs.Tryz
open Go.RowKit
theorem zEn: zA3 prog 30=some 1:=by kernel_rfl
theorem zJ4: (zBb prog 30).isSome=true:=by kernel_rfl
theorem zFA: zBb prog 30=some 9:=by kernel_rfl
theorem fo_0: zAk prog 221 0=some 0:=by kernel_rfl
theorem fo_1: zAk prog 221 1=some 1:=by kernel_rfl
theorem fo_2: zAk prog 221 2=some 2:=by kernel_rfl
theorem fo_3: zAk prog 221 3=some 3:=by kernel_rfl
theorem zNv: zBD prog 9=some (false,1):=by kernel_rfl
theorem zYp: zBD prog 3=some (false,1):=by kernel_rfl
theorem zTV: zBD prog 219=some (false,1):=by kernel_rfl
theorem zE2: zBD prog 30=some (false,1):=by kernel_rfl
theorem zQN: zC6 prog 9=some 1:=by kernel_rfl
theorem zNY: zCX prog 30=some 16:=by kernel_rfl
theorem zKj: (zBq prog 9).isSome=true:=by kernel_rfl
theorem zYk: zBq prog 221=some [.int .i64 0,.string ByteArray.empty,.int .i64 0,.int .i64 0]:=by kernel_rfl
theorem zY3: zAL prog 180=true:=by kernel_rfl
theorem zXs: zAL prog 198=true:=by kernel_rfl
theorem zRB: zAL prog 181=true:=by kernel_rfl
theorem zRC: zAL prog 182=true:=by kernel_rfl
theorem zXx: zAL prog 196=true:=by kernel_rfl
theorem zXw: zAL prog 179=true:=by kernel_rfl
theorem zbK: zAL prog 183=true:=by kernel_rfl
theorem zY2: zAL prog 178=true:=by kernel_rfl
theorem zXy: zAL prog 163=true:=by kernel_rfl
theorem zOp: zAL prog 177=true:=by kernel_rfl
theorem zP6: zAL prog 197=true:=by kernel_rfl
theorem zXz: zAL prog 204=true:=by kernel_rfl
theorem zU6: zAL prog 205=true:=by kernel_rfl
theorem zOq: zAL prog 199=true:=by kernel_rfl
theorem zU2: zAL prog 195=true:=by kernel_rfl
theorem zbO: zAL prog 176=true:=by kernel_rfl
theorem zdS: zAL prog 174=true:=by kernel_rfl
theorem zRA: zAL prog 175=true:=by kernel_rfl
theorem zSj: zAL prog 161=true:=by kernel_rfl
def Tk.av(n:Tk): D:=.agg [.val (.int .i64 n.kind),.val (.string ⟨n.text.toArray⟩),.val (.int .i64 n.num),.val (.int .i64 n.pos)]
def strs(L:List (List UInt8)): D:=.slice (L.map str)
theorem zMW(L:List (List UInt8)): zCM (L.map str)=L.map str:=by
 induction L with
 |nil=>rfl
 |cons x r ih=>exact congrArg (_ :: ·) ih
theorem zXA{w:World}{b:Nat}{L:List (List UInt8)}{e:TypeId}{t:Nat×Nat}{St:Stab}(hs:∀o,St b o)(hm:L.length<=maxLen)(h:w.heap[b]?=some (.cells (L.map fun l=>Value.string ⟨l.toArray⟩).toArray e t)):
  RepD St w (.slice (some ⟨b,0,none⟩) L.length L.length) (strs L):=by
 refine .slice _ _ _ 1 (L.map str) (L.map fun l=>Value.string ⟨l.toArray⟩) (by simp) (qAP _) hm (fun x hx=>?_) (by rw[zMW];simp) (fun u hu=>?_) (fun _=>⟨_,rfl,fun j u hu=>⟨hs _,?_⟩⟩) (fun j u d hu hd=>?_)
 ·obtain⟨l,_,rfl⟩:=qA5.1 hx;rfl
 ·obtain⟨l,_,rfl⟩:=qA5.1 hu;rfl
 ·rw[Addr.add_lit,qAY,cell_of_row w b j _ e t h];simpa using hu
 ·rw[zMW,qAH]at hd
  rw[qAH]at hu
  cases hl:L[j]? with
  |none=>rw[hl]at hu;cases hu
  |some l=>rw[hl]at hu hd;cases hu;cases hd;exact .val _
def wordsT: List UInt8:=[108,101,116,32,114,101,99,32,105,110,32,102,117,110,32,105,102,32,116,104,101,110,32,101,108,115,101,32,109,97,116,99,104,32,119,105,116,104,32,101,110,100,32,114,97,105,115,101,32,116,114,121,32,111,112,101,110,32,116,121,112,101,32,111,102,32,105,110,102,105,120,108,32,105,110,102,105,120,114,32,105,110,102,105,120,32,45,62,32,61,32,124,32,40,32,41,32,95,32,59,59]
theorem zRz: Lib.fields wordsT=kws:=by decide +kernel
theorem zYN{s:List UInt8}(h:s.all (fun b=>decide (b.toNat<128))=true): ∀(j:Nat) b,s[j]?=some b->b.toNat<128:=fun _j b hb=>of_decide_eq_true (qAb.1 h b (qAF hb))
theorem zWB: zAb prog 205 [str wordsT] (strs kws):=by
 intro St w vs hst hgl hr
 obtain⟨v,rfl,hv⟩:∃v,vs=[v]/\v=.string ⟨wordsT.toArray⟩:=by
  have:=RepDs.vals (us:=[.string ⟨wordsT.toArray⟩]) hr
  exact⟨_,this,rfl⟩
 subst hv
 refine(Tryz.strings_Fields_laid ⟨wordsT.toArray⟩ w (by decide) (zYN (by decide)) ?_).mono fun e w' ⟨he,hw⟩=>?_
 ·obtain⟨_,_,_,e,t,h0⟩:=hgl
  have key:∀(o:Option Nat),o=some 7->(o.bind fun g=>match w.heap[g]? with|some (.cells cs _ _)=>some cs|_=>none)=some (Lib.asciiSpaceTab.map fun z=>Value.int .u8 z).toArray:=by
   rintro _ rfl;simp only[Option.bind_some,h0]
  exact key _ (by kernel_rfl)
 ·rw[show Lib.fields (⟨wordsT.toArray⟩:ByteArray).data.toList=kws from zRz]at he hw
  subst hw
  refine⟨_,fun b o=>St b o\/b=w.heap.size,he,zXA (fun _=>.inr rfl) (by decide) (t:=(0,0)) (by show (w.heap.push _)[w.heap.size]?=_;exact Array.getElem?_push_size),(Below.refl _ _).alloc (qAP _) _,?_,fun b o h=>h.imp id (fun h=>by omega),fun b o h=>?_⟩
  ·refine⟨fun _ _ h=>.inl h,fun b o u hc hu=>?_,fun b hc=>?_⟩
   ·exact(World.cell?_of_block (a:=⟨b,o,none⟩) (Below.heap_alloc _ _ _ (hst b o hc))).trans hu
   ·exact Below.heap_alloc _ _ _ (hst b 0 (hc 0))
  ·show b<(w.heap.push _).size
   rw[Array.size_push];rcases h with h|h
   ·have:=hst b o h;omega
   ·omega
theorem zPO(s:List UInt8)(c:UInt8): zAb prog 199 [str s,.val (.int .u8 c.toNat)] (i64 (Lib.indexByte s c)) :=
 zIx (us:=[.string ⟨s.toArray⟩,.int .u8 c.toNat]) (fun _ _=>.val _) fun _ w _=>(Tryz.strings_IndexByte _ _ w).mono fun e w' ⟨he,hw⟩=>⟨by rw[he];simp,by subst hw;exact Below.refl _ _⟩
end
section
open _root_.Go.Proofs.Tryz
open Go.Sx
attribute [local irreducible] zAL Program.underlying Ylds zA2 alex zBZ zBP awp zAb zBh zBg zAW zAp zBR zAr zBV zBY zBe zBM
abbrev u8(c:UInt8): D:=.val (.int .u8 (c.toNat:Int))
theorem zDn{a b:Bool}(h:a=b): D.val (Value.bool a)=bl b:=by subst h;rfl
theorem zMT{a b:Int}(h:a=b): D.val (Value.int .i64 a)=i64 b:=by subst h;rfl
theorem zQd(c:UInt8): zAb prog 181 [u8 c] (bl (zGt c)):=by
 refine zAj func181 rfl ntmps181 results181 rfl ?_
 intro wb St0
 repeat' first|apply en_n|apply zAE|apply zAA|apply zAB|apply w0|refine k1u (hd:=rfl) rfl rfl ?_|refine ayA rfl ?_|apply ay (hd:=rfl)|exact zH7 rfl rfl|refine w1 rfl rfl ?_|(apply gD;exact rfl;exact rfl;all_goals intro hb)|apply zAM|apply zAS|refine res1 rfl ?_
 all_goals exact zDn (by simp only[zGt];first|(rw[decide_eq_decide];omega)|(symm;rw[decide_eq_false_iff_not];omega))
theorem zRD(c:UInt8): zAb prog 182 [u8 c] (bl (zGu c)):=by
 refine zAj func182 rfl ntmps182 results182 rfl ?_
 intro wb St0
 repeat' first|apply en_n|apply zAE|apply zAA|apply zAB|apply w0|refine k1u (hd:=rfl) rfl rfl ?_|refine ayA rfl ?_|apply ay (hd:=rfl)|exact zH7 rfl rfl|refine w1 rfl rfl ?_|(apply gD;exact rfl;exact rfl;all_goals intro hb)|apply zAM|apply zAS|refine res1 rfl ?_
 all_goals exact zDn (by simp only[zGu];first|(rw[decide_eq_decide];omega)|(symm;rw[decide_eq_false_iff_not];omega))
theorem zYA(c:UInt8): zAb prog 196 [u8 c] (bl (zI1 c)):=by
 refine zAj func196 rfl ntmps196 results196 rfl ?_
 intro wb St0
 repeat' first|apply en_n|apply zAE|apply zAA|apply zAB|apply w0|refine k1u (hd:=rfl) rfl rfl ?_|refine ayA rfl ?_|apply ay (hd:=rfl)|exact zH7 rfl rfl|refine w1 rfl rfl ?_|(apply gD;exact rfl;exact rfl;all_goals intro hb)|apply zAM|apply zAS|refine res1 rfl ?_
 all_goals exact zDn (by simp only[zI1];first|(rw[decide_eq_decide];omega)|(symm;rw[decide_eq_false_iff_not];omega))
theorem zcI(c d:UInt8): (c==d)=decide ((c.toNat:Int)=(d.toNat:Int)):=by
 cases h:c==d with
 |true=>rw[eq_of_beq h];simp
 |false =>
  symm;rw[decide_eq_false_iff_not];intro h2
  have:c=d:=UInt8.toNat_inj.1 (by omega)
  rw[this]at h;simp at h
theorem zXq(c:UInt8): zAb prog 179 [u8 c] (bl (zHR c)):=by
 refine zAj func179 rfl ntmps179 results179 rfl ?_
 intro wb St0
 repeat' first|apply en_n|apply zAE|apply zAA|apply zAB|apply w0|refine k0u (hd:=rfl) rfl rfl ?_|(apply zAR (hb:=zRB) (hc:=zQd c))|(apply zAR (hb:=zRC) (hc:=zRD c))|(apply zAR (hb:=zXx) (hc:=zYA c))|refine ayA rfl ?_|apply ay (hd:=rfl)|exact zFC rfl rfl|refine w1 rfl rfl ?_|(apply gD;exact rfl;exact rfl;all_goals intro hb)|apply zAM|apply zAS|refine res1 rfl ?_|exact zAH|refine zAN rfl ?_
 all_goals refine zDn ?_
 all_goals simp only[zHR,zGt,zGu,zI1,zcI,<-Bool.decide_or,show ((95:UInt8).toNat:Int)=95 from rfl,show ((39:UInt8).toNat:Int)=39 from rfl]at *
 all_goals first|(rw[decide_eq_decide];omega)|(symm;rw[decide_eq_true_eq];omega)
theorem zdR(c:UInt8): decide (Lib.indexByte signL c>=0)=zFm c:=by rw[zFm,Lib.contains_iff_indexByte]
theorem zaG(c:UInt8): zAb prog 183 [u8 c] (bl (zFm c)):=by
 refine zAj func183 rfl ntmps183 results183 rfl ?_
 intro wb St0
 repeat' first|apply en_n|apply zAE|apply zAA|apply zAB|apply w0|(apply zAR (hb:=zOq) (hc:=zPO signL c))|refine ayA rfl ?_|apply ay (hd:=rfl)|exact zJg rfl rfl|apply zAM|apply zAS|refine res1 rfl ?_|exact zAH|refine zAN rfl ?_
 exact zDn (zdR c)
def isK(c:UInt8): Int:=if zFm c then 5 else if zGt c then 1 else if zGu c then 2 else if zI1 c then 3 else if c=95\/c=39 then 4 else 0
theorem zWv{c:UInt8}{i:Nat}(h:i<16)(h1:((signL.getD i 0).toNat:Int)=(c.toNat:Int)): zFm c=true:=by
 have:signL.getD i 0=c:=UInt8.toNat_inj.1 (by omega)
 have h2:i<signL.length:=h
 rw[zFm,<-this,qAD,qAB h2]
 simp
theorem zN3{c:UInt8}(h:∀j,j<16->(signL.getD j 0)≠c): zFm c=false:=by
 cases h2:zFm c with
 |false=>rfl
 |true =>
  rw[zFm]at h2
  obtain⟨j,hj,e⟩:=List.getElem_of_mem (List.contains_iff_mem.1 h2)
  refine absurd ?_ (h j hj)
  rw[qAD,qAB hj];exact e
theorem zdN(c:UInt8): zAb prog 174 [u8 c] (i64 (isK c)):=by
 refine zAj func174 rfl ntmps174 results174 rfl ?_
 intro wb St0
 repeat' first|apply en_n|apply zAE|apply zAA|apply zAB|apply w0|refine ayA rfl ?_|apply zAO
 refine zBA (α:=Nat) (fun i=>i<=16/\∀j,j<i->signL.getD j 0≠c) (fun i=>[(0,.d (u8 c)),(3,.d (str signL)),(4,.d (i64 (i:Int)))]) (fun _=>[]) (fun i=>16-i) 0 ⟨qAQ _,by omega⟩
   (zAU (Le_all rfl) zAe rfl rfl) ?_
 rintro i ⟨hi1,hi2⟩
 have hL:signL.length=16:=rfl
 repeat' first|apply en_n|apply zAE|apply zAA|apply zAB|apply w0|refine k1u (hd:=rfl) rfl rfl ?_|refine k0u (hd:=rfl) rfl rfl ?_|(apply zD2;exact rfl;with_reducible exact ustr)|(apply zLz;exact rfl;exact rfl;with_reducible exact ustr;(first|assumption|omega))|refine ayA rfl ?_|apply ay (hd:=rfl)|exact zES rfl rfl|exact zH7 rfl rfl|exact zJg rfl rfl|exact zFC rfl rfl|refine zBp rfl rfl ?_|refine w1 rfl rfl ?_|(apply gD;exact rfl;exact rfl;all_goals intro hb)|(apply zBO;exact rfl;all_goals intro hb)|refine zAJ rfl ?_|refine zAI rfl ?_|apply zAO|apply zAP|apply zAM|apply zBH|apply en_r|apply en_e|apply eb_n|apply eb_r|apply eb_e|apply zAS|refine res1 rfl ?_
 ·rename_i h1;rw[hL]at h1
  exact zMT (by rw[isK,zWv (by omega) hb,if_pos rfl])
 ·omega
 ·rename_i h1;rw[hL]at h1
  refine⟨i+1,⟨by omega,fun j hj=>?_⟩,by omega,zAU (Le_all rfl) zAe rfl rfl⟩
  rcases qAR j i with h|h
  ·exact hi2 j h
  ·rw[show j=i by omega];rintro rfl;exact hb rfl
 all_goals
  have hs:zFm c=false:=zN3 fun j hj=>hi2 j (by omega)
  have e95:c=95↔(c.toNat:Int)=95:=by rw[<-UInt8.toNat_inj];show _=95↔_;omega
  have e39:c=39↔(c.toNat:Int)=39:=by rw[<-UInt8.toNat_inj];show _=39↔_;omega
  refine zMT ?_
  rw[isK,hs,if_neg (by decide)]
  simp only[zGt,zGu,zI1,decide_eq_true_eq,e95,e39]
  repeat' split
  all_goals first|rfl|omega
theorem zKS(p:UInt8->Bool): ∀(s:List UInt8) (n:Nat),n<=s.length->(∀j,j<n->p (s.getD j 0)=true)->(n=s.length\/p (s.getD n 0)=false)->zL6 p s=n
 |[],n,h,_,_=>by rw[zL6];simp at h;omega
 |c::s,n,h,h1,h2=>by
  rw[zL6]
  cases n with
  |zero =>
   have h2:p c=false:=by
    rcases h2 with h2|h2
    ·simp at h2
    ·exact h2
   rw[h2];rfl
  |succ n =>
   have h3:p c=true:=h1 0 (by omega)
   rw[if_pos h3,zKS p s n (by simpa using h) (fun j hj=>h1 (j+1) (by omega)) (by simpa using h2)]
theorem getB{l:List UInt8}{i:Nat}(h:i<(⟨l.toArray⟩:ByteArray).size): (⟨l.toArray⟩:ByteArray)[i]'h=l.getD i 0:=by
 have hlt:i<l.length:=by rw[zDQ]at h;exact h
 rw[qAD,qAB hlt];rfl
theorem zVM{l:List UInt8}{i:Nat}(h:i<l.length)(h1:¬((Utf8.decode ⟨l.toArray⟩ i).1:Int)>126): (Utf8.decode ⟨l.toArray⟩ i).2=1/\(Utf8.decode ⟨l.toArray⟩ i).1=(l.getD i 0).toNat/\(l.getD i 0).toNat<=126:=by
 have hs:i<(⟨l.toArray⟩:ByteArray).size:=by rw[zDQ];exact h
 rcases qAR ((⟨l.toArray⟩:ByteArray)[i]'hs).toNat 128 with h3|h3
 ·have e:=decode_ascii ⟨l.toArray⟩ i hs h3
  rw[getB hs]at e
  rw[e]at h1 ⊢
  dsimp only at h1
  exact⟨rfl,rfl,by omega⟩
 ·have:=(decode_high ⟨l.toArray⟩ i hs h3).1
  omega
theorem zSn{l:List UInt8}{i:Nat}(h:i<l.length)(h1:((Utf8.decode ⟨l.toArray⟩ i).1:Int)>126): (l.getD i 0).toNat>126:=by
 have hs:i<(⟨l.toArray⟩:ByteArray).size:=by rw[zDQ];exact h
 rcases qAR ((⟨l.toArray⟩:ByteArray)[i]'hs).toNat 128 with h3|h3
 ·have e:=decode_ascii ⟨l.toArray⟩ i hs h3
  rw[getB hs]at e
  rw[e]at h1
  dsimp only at h1
  omega
 ·rw[getB hs]at h3
  omega
def allF(p:UInt8->Bool)(s:List UInt8): Bool:=s.all p && !s.isEmpty
theorem zVl{p:UInt8->Bool}{s:List UInt8}{i:Nat}(h:i<s.length)(h1:p (s.getD i 0)=false): allF p s=false:=by
 have:s.all p=false:=by
  rw[List.all_eq_false]
  refine⟨s.getD i 0,?_,by rw[h1];decide⟩
  rw[qAD,qAB h];simp
 rw[allF,this];rfl
theorem zdo{p:UInt8->Bool}{s:List UInt8}(h:∀j,j<s.length->p (s.getD j 0)=true): allF p s=decide (s≠[]):=by
 have:s.all p=true:=by
  rw[qAb];intro x hx
  obtain⟨j,hj,rfl⟩:=List.getElem_of_mem hx
  have:=h j hj
  rwa [qAD,qAB hj]at this
 rw[allF,this]
 cases s <;> simp
theorem zZB(f:FuncId)(p:UInt8->Bool)(hb:zAL prog f=true)(hp:∀c,zAb prog f [u8 c] (bl (p c)))(hp2:∀c,c.toNat>126->p c=false)(s:List UInt8):
  zAp prog 178 [.d (str s),.clo f []] [] (bl (allF p s)):=by
 have hbf:=hb;clear hb
 refine zCq func178 rfl ntmps178 results178 rfl ?_
 intro wb St0
 repeat' first|apply en_n|apply zAE|apply zAA|apply zAB|apply w0|(apply zdp (hd:=rfl) (hro:=rfl);exact rfl;with_reducible exact ustr)|refine ayA rfl ?_|apply zAO
 refine zBA (α:=Nat) (fun i=>i<=s.length/\∀j,j<i->p (s.getD j 0)=true)
  (fun i=>[(0,.d (str s)),(1,.clo f []),(8,.ptr 0 0)]) (fun i=>[.iter ⟨s.toArray⟩ i]) (fun i=>s.length-i) 0 ⟨qAQ _,by omega⟩
   (zAU (Le_all rfl) (zAK rfl rfl zAe) rfl rfl) ?_
 rintro i ⟨hi1,hi2⟩
 repeat' first|apply en_n|apply zAE|apply zAA|apply zAB|apply w0|refine k0u (hd:=rfl) rfl rfl ?_|exact zRi rfl rfl|(apply zfC (hd:=rfl) (hro:=rfl);exact rfl;exact rfl;all_goals intro hb)|(apply zDi;exact rfl;with_reducible exact si32;with_reducible exact uu8)|(apply zVs (hb:=hbf) (hc:=hp (s.getD i 0));exact rfl)|refine ayA rfl ?_|apply ay (hd:=rfl)|exact zHI rfl rfl|refine w1 rfl rfl ?_|(apply gD;exact rfl;exact rfl;all_goals intro hb)|refine zAJ rfl ?_|refine zAI rfl ?_|(apply zF1;exact rfl;all_goals intro hb)|apply zAO|apply zAP|apply zAM|apply zBH|apply en_r|apply en_e|apply eb_n|apply eb_r|apply eb_e|apply zAS|refine res1 rfl ?_
 ·rename_i h0
  have hlt:i<s.length:=by rw[zDQ]at h0;exact h0
  exact zDn (zVl hlt (hp2 _ (zSn hlt hb))).symm
 ·rename_i h0
  have hlt:i<s.length:=by rw[zDQ]at h0;exact h0
  obtain⟨_,e,hl⟩:=zVM hlt hb
  refine zAN ?_ zAH
  show SV.d (D.val (.int .u8 (IntKind.u8.wrap (((Utf8.decode ⟨s.toArray⟩ i).1:Nat):Int))))=_
  rw[e,zTA,show (((s.getD i 0).toNat:Nat):Int)%256=((s.getD i 0).toNat:Int) by omega]
 ·rename_i h0 h1
  have hlt:i<s.length:=by rw[zDQ]at h0;exact h0
  exact zDn (zVl hlt (by simpa using hb)).symm
 ·rename_i h0 h1
  have hlt:i<s.length:=by rw[zDQ]at h0;exact h0
  obtain⟨e1,_,hl⟩:=zVM hlt h1
  refine⟨i+1,⟨by omega,fun j hj=>?_⟩,by omega,zAU (Le_all rfl) (zAK rfl (by rw[e1]) zAe) rfl rfl⟩
  rcases qAR j i with h|h
  ·exact hi2 j h
  ·rw[show j=i by omega];simpa using hb
 ·have hge:¬i<s.length:=by rw[zDQ]at hb;exact hb
  exact zDn (zdo fun j hj=>hi2 j (by omega)).symm
def btw(lo hi:Int)(c:UInt8): Bool:=decide (lo<=isK c/\isK c<=hi)
theorem zLh(s:List UInt8)(a j:Nat): (s.drop a).getD j 0=s.getD (a+j) 0:=by
 rw[qAD,qAD,qAl]
theorem zNl(s:List UInt8)(at_:Nat)(lo hi:Int)(hs:s.length<=9223372036854775807)(ha:at_<=s.length):
  zAb prog 175 [str s,i64 (at_:Int),i64 lo,i64 hi] (i64 ((at_+zL6 (btw lo hi) (s.drop at_):Nat):Int)):=by
 refine zAj func175 rfl ntmps175 results175 rfl ?_
 intro wb St0
 repeat' first|apply en_n|apply zAE|apply zAA|apply zAB|apply w0|refine ayA rfl ?_|apply zAO
 refine zBA (α:=Nat) (fun i=>at_+i<=s.length/\∀j,j<i->btw lo hi ((s.drop at_).getD j 0)=true) (fun i=>[(0,.d (str s)),(1,.d (i64 ((at_+i:Nat):Int))),(2,.d (i64 lo)),(3,.d (i64 hi))]) (fun _=>[]) (fun i=>s.length-(at_+i)) 0 ⟨by omega,by omega⟩
   (zAU (Le_all rfl) zAe rfl rfl) ?_
 rintro i ⟨hi1,hi2⟩
 repeat' first|apply en_n|apply zAE|apply zAA|apply zAB|apply w0|refine k1u (hd:=rfl) rfl rfl ?_|(apply zD2;exact rfl;with_reducible exact ustr)|(apply zLz;exact rfl;exact rfl;with_reducible exact ustr;(first|assumption|omega))|(apply zAR (hb:=zdS) (hc:=zdN (s.getD (at_+i) 0)))|refine ayA rfl ?_|apply ay (hd:=rfl)|exact zES rfl rfl|exact zH7 rfl rfl|exact zJg rfl rfl|refine zBp rfl rfl ?_|refine w1 rfl rfl ?_|(apply gD;exact rfl;exact rfl;all_goals intro hb)|(apply zBO;exact rfl;all_goals intro hb)|refine zAI rfl ?_|apply zAO|apply zAP|apply zAM|apply zBH|apply en_e|apply eb_n|apply eb_e|apply zAS|refine res1 rfl ?_|exact zAH|refine zAN rfl ?_
 ·omega
 ·rename_i h1 h2
  have hb:btw lo hi ((s.drop at_).getD i 0)=true:=by
   rw[zLh,btw,decide_eq_true_eq];exact⟨h2,hb⟩
  refine⟨i+1,⟨by omega,fun j hj=>?_⟩,by omega,zAU (Le_cons rfl (Le_d rfl (by rw[Int.natCast_add,Int.natCast_add,Int.natCast_add,Int.add_assoc];rfl) (Le_all rfl))) zAe rfl rfl⟩
  rcases qAR j i with h|h
  ·exact hi2 j h
  ·rw[show j=i by omega];exact hb
 ·rename_i h1 h2
  have hb:btw lo hi ((s.drop at_).getD i 0)=false:=by
   rw[zLh,btw,decide_eq_false_iff_not];exact fun h=>hb h.2
  rw[zKS _ _ i (by rw[qAd];omega) hi2 (.inr hb)]
 ·rename_i h1
  have hb:btw lo hi ((s.drop at_).getD i 0)=false:=by
   rw[zLh,btw,decide_eq_false_iff_not];exact fun h=>hb h.1
  rw[zKS _ _ i (by rw[qAd];omega) hi2 (.inr hb)]
 ·rw[zKS _ _ i (by rw[qAd];omega) hi2 (.inl (by rw[qAd];omega))]
end
section
open Go.Sx Go.RowKit
attribute [local irreducible] Ylds zA2 alex zBZ zBP awp zAb zBh zBg zAW zAp zBR zAr zBV zBY zBe
end
section

/- Parts. -/
import Derived.Laws.StructEq
import Derived.ChangeKeysEq
import Derived.Test.YtjcgiiedaccjpaaGreatDoorRows
import Derived.ProofKit
import Derived.Deep.Fields
import Derived.ChangeSame
import Derived.Test.YtjcgiiedaccjpaaGreatDoorMAE
set_option maxHeartbeats 16000000
namespace Go.Proofs.YtjcgiiedaccjpaaGreatDoor
open _root_.Go.Proofs.Tryz
open Go.Sx Go.RowKit
attribute [local irreducible] Ylds zA3 alex zBc zBL awp zAc zBd zBi zBD zBI zBS zA5 zBT zBY zBe
theorem zGq{α:Type}{A B:List α}{i:Nat}{x:α}(h:A.take i=B.take i)(ha:A[i]?=some x)(hb:B[i]?=some x): A.take (i+1)=B.take (i+1):=by
 rw[qA3,qA3,h,ha,hb]
theorem fd37: (prog.fieldsOf 47).toList=[⟨"Kind",43,0,false, "", "",0⟩,⟨"Text",9,1,false, "", "",8⟩,⟨"Num",2,2,false, "", "",24⟩,⟨"Kids",3,3,false, "", "",32⟩]:=by kernel_rfl
def Nd.vals(n:Nd): List Value:=[.int .i64 n.kind,.string ⟨n.text.toArray⟩,.int .i64 n.num,.int .i64 n.kids]
theorem zUj(a b:Nd): a=b↔a.kind=b.kind/\a.text=b.text/\a.num=b.num/\a.kids=b.kids:=by
 cases a;cases b;simp
theorem zUi(a b:Nd)(x y:Operand)(w:World): ((do eqGuard .neq 47 x y (.agg a.vals.toArray) (.agg b.vals.toArray);binOp .neq 47 (.agg a.vals.toArray) (.agg b.vals.toArray):Sem Value)).run prog w=.ok (.bool (decide (a≠b))) w:=by
 have hS:prog.underlying 47=some (.struct (prog.fieldsOf 47)):=by kernel_rfl
 have hp:prog.stoodInHeld 47=false:=by kernel_rfl
 have hg:prog.eqGuardType prog.depth 47=false:=by kernel_rfl
 have u1:prog.underlying 43=some (.int .i64):=by kernel_rfl
 have u2:prog.underlying 9=some .string:=by kernel_rfl
 have u3:prog.underlying 2=some (.int .i64):=by kernel_rfl
 have u4:prog.underlying 3=some (.int .i64):=by kernel_rfl
 have p1:prog.plainKey 43=true:=by kernel_rfl
 have p2:prog.plainKey 9=true:=by kernel_rfl
 have p3:prog.plainKey 2=true:=by kernel_rfl
 have p4:prog.plainKey 3=true:=by kernel_rfl
 have hk:∀(n:Nd) (w:World),(part 43 n.vals.toArray 0).run prog w=.ok (.int .i64 n.kind) w:=fun n w=>run_part_plain (w:=w) p1 rfl
 have ht:∀(n:Nd) (w:World),(part 9 n.vals.toArray 1).run prog w=.ok (.string ⟨n.text.toArray⟩) w:=fun n w=>run_part_plain (w:=w) p2 rfl
 have hn:∀(n:Nd) (w:World),(part 2 n.vals.toArray 2).run prog w=.ok (.int .i64 n.num) w:=fun n w=>run_part_plain (w:=w) p3 rfl
 have hi:∀(n:Nd) (w:World),(part 3 n.vals.toArray 3).run prog w=.ok (.int .i64 n.kids) w:=fun n w=>run_part_plain (w:=w) p4 rfl
 simp only[Sem.run_bind,run_eqGuard_agg w .neq _ x y _ _ hg,Result.andThen_ok,run_neq_struct]
 rw[show (10000:Nat)=9998+1+1 from rfl,run_equalIn_agg w (9998+1) _ _ _ hS hp,fd37]
 have c1:("Kind"≠"_")=True:=by simp
 have c2:("Text"≠"_")=True:=by simp
 have c3:("Num"≠"_")=True:=by simp
 have c4:("Kids"≠"_")=True:=by simp
 simp only[Op.eqFields,c1,c2,c3,c4,if_true,hk,Sem.run_bind,Result.andThen_ok,run_equalIn_int _ _ _ _ _ _ _ u1]
 rw[show decide (a≠b)=decide (¬(a.kind=b.kind/\a.text=b.text/\a.num=b.num/\a.kids=b.kids))from decide_eq_decide.2 (not_congr (zUj a b))]
 by_cases h1:a.kind=b.kind <;> by_cases h2:a.text=b.text <;> by_cases h3:a.num=b.num <;> by_cases h4:a.kids=b.kids <;> simp[h1,h2,h3,h4,ht,hn,hi,run_equalIn_int _ _ _ _ _ _ _ u3,run_equalIn_int _ _ _ _ _ _ _ u4,run_equalIn_string _ _ _ _ _ u2]
theorem zSM{η:List Ob}{σ:Sl}{dst:Option Nat}{ty:TypeId}{pos:String}{after:Array Edge}{gd:Option (Nat×Bool)}{x y:Operand}{yt:TypeId}{a b:Nd}(hx:oval σ x=.d a.av)(hy:oval σ y=.d b.av):
  Ylds prog η σ ⟨dst,.binOp .neq 47 x y yt,ty,pos,after,gd⟩ (.d (.val (.bool (decide (a≠b))))) :=
 zVX (us:=a.vals) (vs:=b.vals) hx hy (zUi a b x y)
theorem zUJ(A B:List Nd)(hL:A.length<=2000000): zAc prog 32 [zAm A,zAm B] (bl (decide (A=B))):=by
 refine zAX func32 rfl ntmps32 results32 rfl ?_
 intro wb St0
 repeat' first|apply en_n|apply zAE|apply zAA|apply zAD|apply w0|apply ay (hd:=rfl)|exact zAC rfl|exact zAB rfl|exact zAo rfl zA8|exact zGm rfl rfl|(apply zAw;exact rfl;all_goals intro hb)|apply zAI|apply zAO|apply zAM|apply en_r|apply zAL|refine res1 rfl ?_
 ·have:A≠B:=fun e=>by subst e;omega
  rw[decide_eq_false this]
 ·have hlen:A.length=B.length:=by omega
  refine zAv (α:=Nat) (fun i=>i<=A.length/\A.take i=B.take i) (fun i=>[(0,.d (zAm A)),(1,.d (zAm B)),(5,.d (i64 (i:Int)))]) (fun _=>[]) (fun i=>A.length-i) 0 ⟨qAR _,rfl⟩
   (zAV (Le_all rfl) zAW rfl rfl) ?_
  rintro i ⟨hi1,hi2⟩
  repeat' first|apply en_n|apply zAE|apply zAA|apply zAD|apply w0|exact zSM rfl rfl|(apply aI (hd:=rfl);(first|exact zAq rfl|exact Co_bb rfl rfl rfl|exact Co_nn rfl);exact rfl;(with_reducible exact zAa);exact fun _=>rfl;rotate_left;intro v hv;rotate_right)|apply ay (hd:=rfl)|exact zAC rfl|exact zAB rfl|exact zAg rfl zAZ rfl|exact zAo rfl zA8|exact zCs rfl rfl|refine zBE rfl rfl ?_|(apply zAw;exact rfl;all_goals intro hb)|apply zAI|apply zAO|apply zAM|apply zA0|refine zAu (by kernel_rfl) (by kernel_rfl) ?_|apply en_r|apply en_e|apply eb_n|apply eb_r|apply eb_e|apply zAL|refine res1 rfl ?_
  ·omega
  ·omega
  ·rename_i b1 b2 u hu
   have:A≠B:=by rintro rfl;rw[hu]at hv;exact hb (qA8 hv)
   rw[decide_eq_false this]
  ·omega
  ·rename_i b1 b2 u hu
   obtain rfl:u=v:=Decidable.not_not.1 hb
   exact⟨i+1,⟨by omega,zGq (i:=i) hi2 hu hv⟩,by omega,zAV (Le_all rfl) zAW rfl rfl⟩
  ·have h1:=hi2
   rw[show i=A.length by omega,qBQ,hlen,qBQ]at h1
   rw[decide_eq_true h1]
def idxF(A:List Int)(b:Int): Int:=match A.findIdx? (· == b)with
 |some i=>i
 |none=>-1
theorem zTS{A:List Int}{b:Int}{i:Nat}(h:∀j,j<i->A[j]?≠some b)(hi:A[i]?=some b): idxF A b=i:=by
 have:A.findIdx? (· == b)=some i:=by
  rw[List.findIdx?_eq_some_iff_getElem]
  obtain⟨h1,h2⟩:=qAA.1 hi
  refine⟨h1,by simp[h2],fun j hj=>?_⟩
  have:=h j hj
  rw[qAB (by omega)]at this
  simpa using this
 rw[idxF,this]
theorem zMX{A:List Int}{b:Int}(h:b∉A): idxF A b = -1:=by
 have:A.findIdx? (· == b)=none:=by
  rw[List.findIdx?_eq_none_iff]
  intro x hx
  simp;rintro rfl;exact h hx
 rw[idxF,this]
theorem zTR{A:List Int}{b:Int}(h:b∈A): 0<=idxF A b:=by
 rw[idxF];split
 ·omega
 ·rename_i hn
  rw[List.findIdx?_eq_none_iff]at hn
  have:=hn b h;simp at this
theorem zSP(A:List Int)(b:Int)(hL:A.length<=2000000): zAc prog 203 [zBr A,i64 b] (i64 (idxF A b)):=by
 refine zAX func203 rfl ntmps203 results203 rfl ?_
 intro wb St0
 repeat' first|apply en_n|apply zAE|apply zAA|apply zAD|apply w0|apply ay (hd:=rfl)|exact zAC rfl|exact zAB rfl|exact zAo rfl zDk|apply zAI
 refine zAv (α:=Nat) (fun i=>i<=A.length/\∀j,j<i->A[j]?≠some b) (fun i=>[(0,.d (zBr A)),(1,.d (i64 b)),(7,.d (i64 (A.length:Int))),(8,.d (i64 (i:Int)))]) (fun _=>[]) (fun i=>A.length-i) 0 ⟨qAR _,by omega⟩
   (zAV (Le_cons rfl (Le_cons rfl (Le_d rfl rfl (Le_all rfl)))) zAW rfl rfl) ?_
 rintro i ⟨hi1,hi2⟩
 repeat' first|apply en_n|apply zAE|apply zAA|apply zAD|apply w0|(apply aI (hd:=rfl);(first|exact zAq rfl|exact Co_bb rfl rfl rfl|exact Co_nn rfl);exact rfl;(with_reducible exact zBl);exact fun _=>rfl;rotate_left;intro v hv;rotate_right)|apply ay (hd:=rfl)|exact zAC rfl|exact zAB rfl|exact zAR rfl zAd|exact zCs rfl rfl|exact zEA rfl rfl|refine zBE rfl rfl ?_|(apply zAw;exact rfl;all_goals intro hb)|apply zAI|apply zAO|apply zAM|apply zA0|apply en_r|apply en_e|apply eb_n|apply eb_r|apply eb_e|apply zAL|refine res1 rfl ?_
 ·omega
 ·subst hb;rw[zTS hi2 hv]
 ·omega
 ·refine⟨i+1,⟨by omega,fun j hj=>?_⟩,by omega,zAV (Le_all rfl) zAW rfl rfl⟩
  rcases qAI j i with h1|h1
  ·exact hi2 j h1
  ·rw[show j=i by omega];intro h2;exact hb (qA8 (h2.symm.trans hv))
 ·rw[zMX];intro h1
  obtain⟨j,hj,h2⟩:=List.getElem_of_mem h1
  exact hi2 j (by omega) (by rw[qAB hj,h2])
theorem zLw(A:List Int)(b:Int)(hL:A.length<=2000000): zAc prog 172 [zBr A,i64 b] (bl (decide (b∈A))):=by
 refine zAX func172 rfl ntmps172 results172 rfl ?_
 intro wb St0
 repeat' first|apply en_n|apply zAE|apply zAA|apply zAD|apply w0|(apply zAU (hb:=zPG) (hc:=zSP A b hL))|apply ay (hd:=rfl)|exact zAC rfl|exact zAB rfl|exact zFn rfl rfl|apply zAM|apply zAL|refine res1 rfl ?_|exact zAF|refine zAP rfl ?_
 by_cases h:b∈A
 ·rw[decide_eq_true h];have:=zTR h;rw[decide_eq_true (show idxF A b>=0 by omega)]
 ·rw[decide_eq_false h,zMX h];rfl
end Go.Proofs.YtjcgiiedaccjpaaGreatDoor
namespace Go.Proofs.YtjcgiiedaccjpaaGreatDoor
open _root_.Go.Proofs.Tryz
open Go.ChangeShapes Go.WideShapes Go.ChangeAt Go.RowKit Go.Deep Go.Sx
def big(W:World): Stab:=fun b _=>b<W.heap.size
theorem zT7{W:World}{a:Addr}{u:Value}(h:W.cell? a=some u): a.block<W.heap.size:=by
 unfold World.cell? at h
 rcases qAI a.block W.heap.size with h1|h1
 ·exact h1
 ·rw[Array.getElem?_eq_none h1]at h;cases h
theorem zDR{α:Type}{Q:Nat->α->Prop}: ∀n:Nat,(∀i,i<n->∃x,Q i x)->∃L:List α,L.length=n/\∀i x,L[i]?=some x->Q i x
 |0,_=>⟨[],rfl,fun i x h=>by simp at h⟩
 |n+1,h=>by
  obtain⟨L,hl,hq⟩:=zDR n (fun i hi=>h i (by omega))
  obtain⟨y,hy⟩:=h n (by omega)
  refine⟨L++[y],by simp[hl],fun i x hx=>?_⟩
  rcases qAI i n with h1|h1
  ·rw[qAD (by omega)]at hx;exact hq i x hx
  ·rw[qAC (by omega),hl]at hx
   rcases qAI n i with h2|h2
   ·rw[qAd (by simp;omega)]at hx;cases hx
   ·have:i=n:=by omega
    subst this;simp at hx;subst hx;exact hy
theorem zFw{W:World}{a:Addr}{len cap sz:Nat}{xs:List D}(hl:len=xs.length)(hc:len<=cap)(hm:cap<=maxLen)(hsz:∀x∈xs,x.flat.length=sz)(hp:0<sz)
  (h:∀(i:Nat) (d:D),xs[i]?=some d->∀(o:Nat) (c:D),d.flat[o]?=some c->∃u,W.cell? (a.add (i*sz+o))=some u/\u.oneCell'=true/\RepD (big W) W u c) :
  RepD (big W) W (.slice (some a) len cap) (.slice xs):=by
 have hfl:=zBz hsz
 obtain⟨us,hul,huq⟩:=zDR (Q:=fun j u=>W.cell? (a.add j)=some u/\u.oneCell'=true/\∀c,(zCI xs)[j]?=some c->RepD (big W) W u c) (xs.length*sz) (fun j hj=>by
  have hi:j / sz<xs.length:=by rw[Nat.div_lt_iff_lt_mul hp];exact hj
  have ho:j%sz<sz:=Nat.mod_lt _ hp
  have hjj:j / sz*sz+j%sz=j:=by rw[Nat.mul_comm];exact Nat.div_add_mod j sz
  have hd:xs[j / sz]?=some xs[j / sz]:=qAB hi
  have hdl:=hsz _ (List.getElem_mem hi)
  have hc':(xs[j / sz]).flat[j%sz]?=some ((xs[j / sz]).flat[j%sz]'(by omega)):=qAB (by omega)
  obtain⟨u,h1,h2,h3⟩:=h _ _ hd _ _ hc'
  refine⟨u,by rw[<-hjj];exact h1,h2,fun c hcc=>?_⟩
  have h4:=zEo hsz hd ho
  rw[hjj,hcc,hc']at h4
  injection h4 with h4;rw[h4];exact h3)
 refine .slice (some a) len cap sz xs us hl hc hm hsz (by rw[hul,hfl]) (fun u hu=>?_) (fun _=>⟨a,rfl,fun j u hu=>⟨?_,(huq j u hu).1⟩⟩) (fun j u d hu hd=>(huq j u hu).2.2 d hd)
 ·obtain⟨j,hj,rfl⟩:=List.getElem_of_mem hu
  exact(huq j _ (qAB hj)).2.1
 ·have h1:=zT7 (huq j u hu).1
  have h2:(a.add j).block=a.block:=by unfold Addr.add;split <;> rfl
  rw[h2]at h1;exact h1
theorem zI2{W:World}: RepD (big W) W (.slice none 0 0) (.slice []) :=
 .slice none 0 0 0 [] [] rfl (qAM _) (qAR _) (by simp) (by simp[zCI]) (by simp) (fun h=>absurd h (by simp)) (fun j u d h=>by simp at h)
theorem zL5: prog.underlying 23=some (.slice 47):=by kernel_rfl
theorem zS4: prog.underlying 47=some (.struct #[⟨"Kind",43,0,false, "", "",0⟩,⟨"Text",9,1,false, "", "",8⟩,⟨"Num",2,2,false, "", "",24⟩,⟨"Kids",3,3,false, "", "",32⟩]):=by kernel_rfl
theorem zS5: prog.underlying 43=some (.int .i64):=by kernel_rfl
theorem zUO: prog.underlying 2=some (.int .i64):=by kernel_rfl
theorem zOK: prog.underlying 9=some .string:=by kernel_rfl
theorem zT4: prog.cellsOf 47=4:=by kernel_rfl
theorem zQ6: oneCellFields prog #[⟨"Kind",43,0,false, "", "",0⟩,⟨"Text",9,1,false, "", "",8⟩,⟨"Num",2,2,false, "", "",24⟩,⟨"Kids",3,3,false, "", "",32⟩]=true:=by kernel_rfl
section
variable {H:Type}{enc:TypeId×Value->H}{P:Program}{w:World}{base:Nat}{spare:Nat->Bool}{held:Bool}
theorem zFX{t e:TypeId}{fs:Array Field}{fuel:Nat}{cs:List Value}{x:DataW H×List MemPlace}(ht:P.underlying t=some (.slice e))(he:P.underlying e=some (.struct fs))
  (hone:oneCellFields P fs=true) (hC:P.cellsOf e=fs.size) (h:DataW.trod enc P w base spare held fuel t cs=some x) :
  cs=[.slice none 0 0]\/
  ∃(a:Addr) (len cap:Nat),cs=[.slice (some a) len cap]/\len<=cap/\cap<=maxLen/\
   ∀i,i<len->∃n:Nat,∀(j:Nat) (f:Field),fs[j]?=some f->∃(v:Value) (y:DataW H×List MemPlace),w.cell? (a.add (i*fs.size+j))=some v/\DataW.trod enc P w base spare held n f.type [v]=some y:=by
 rcases open_slice ht h with h0|⟨a,len,cap,m,n,D,Pl,hcs,hb,hl,hm,hmm,hx,hi⟩
 ·exact .inl h0.1
 ·refine .inr ⟨a,len,cap,hcs,hl,hm,fun i him=>?_⟩
  obtain⟨cs',hc,ht'⟩:=hi i (by rw[hmm];split <;> omega)
  rw[hC]at hc
  obtain⟨ys,n',hn',hy,hlen,hyl,hf⟩:=DataW.trod_struct he ht'
  obtain⟨_,hcl,hat⟩:=World.cells?_some hc
  refine⟨n',fun j f hj=>?_⟩
  obtain⟨ho,hk⟩:=hone_of hone j f hj
  have hjl:j<fs.size:=(qAg.1 hj).1
  have hcell:=hat j hjl
  have hv:cs'[j]?=some (cs'[j]'(by omega)):=qAB (by omega)
  have h1:=hf j f hj
  rw[ho,hk]at h1
  have hone':(cs'.drop j).take 1=[cs'[j]'(by omega)]:=by
   rw[qAZ (by omega)]
   rfl
  rw[hone']at h1
  have hys:ys[j]?=some (ys[j]'(by omega)):=qAB (by omega)
  refine⟨_,_,?_,h1.trans hys⟩
  rw[<-Go.Deep.add_add,hcell,hv]
end
set_option maxRecDepth 100000 in
theorem zML{H:Type}{enc:TypeId×Value->H}{W:World}{fuel:Nat}{cs:List Value}{x:DataW H×List MemPlace}(h:DataW.trod enc prog W 0 (fun _=>true) true fuel 23 cs=some x):
  ∃v L,cs=[v]/\v.oneCell'=true/\RepD (big W) W v (zAm L):=by
 rcases zFX zL5 zS4 zQ6 zT4 h with h0|⟨a,len,cap,hcs,hl,hm,hi⟩
 ·exact⟨_,[],h0,rfl,zI2⟩
 ·obtain⟨L,hL,hq⟩:=zDR (Q:=fun i (n:Nd)=>∀(o:Nat) (u:Value),n.vals[o]?=some u->W.cell? (a.add (i*4+o))=some u) len (fun i hil=>by
   obtain⟨n,hf⟩:=hi i hil
   obtain⟨u0,y0,c0,t0⟩:=hf 0 _ rfl
   obtain⟨u1,y1,c1,t1⟩:=hf 1 _ rfl
   obtain⟨u2,y2,c2,t2⟩:=hf 2 _ rfl
   obtain⟨u3,y3,c3,t3⟩:=hf 3 _ rfl
   obtain⟨k,e0,_,_⟩:=DataW.trod_int zS5 t0
   obtain⟨s,e1,_,_⟩:=DataW.trod_string zOK t1
   obtain⟨m,e2,_,_⟩:=DataW.trod_int zUO t2
   obtain⟨z,e3,_,_⟩:=DataW.trod_int zSS t3
   injection e0 with e0;injection e1 with e1;injection e2 with e2;injection e3 with e3
   subst e0;subst e1;subst e2;subst e3
   refine⟨⟨k,s.data.toList,m,z⟩,fun o u hu=>?_⟩
   match o,hu with
   |0,hu=>injection hu with hu;subst hu;exact c0
   |1,hu=>injection hu with hu;subst hu;exact c1
   |2,hu=>injection hu with hu;subst hu;exact c2
   |3,hu=>injection hu with hu;subst hu;exact c3
   |o+4,hu=>simp[Nd.vals]at hu)
  refine⟨_,L,hcs,rfl,zFw (sz:=4) (by rw[qAK,hL]) hl hm (zC8 fun _=>rfl) (by decide) fun i d hd o c hc=>?_⟩
  rw[qAG]at hd
  cases hn:L[i]? with
  |none=>rw[hn]at hd;cases hd
  |some n =>
   rw[hn]at hd;injection hd with hd;subst hd
   have h1:=hq i n hn o
   match o,hc,h1 with
   |0,hc,h1=>injection hc with hc;subst hc;exact⟨_,h1 _ rfl,rfl,.val _⟩
   |1,hc,h1=>injection hc with hc;subst hc;exact⟨_,h1 _ rfl,rfl,.val _⟩
   |2,hc,h1=>injection hc with hc;subst hc;exact⟨_,h1 _ rfl,rfl,.val _⟩
   |3,hc,h1=>injection hc with hc;subst hc;exact⟨_,h1 _ rfl,rfl,.val _⟩
   |o+4,hc,_=>exact absurd hc (by simp[Nd.av,D.flat])
set_option maxRecDepth 100000 in
theorem zOv{H:Type}{enc:TypeId×Value->H}{W:World}{r:Reach}{b0:Nat}{v:Value}{d:DataW H}{p:List MemPlace}(hv:Value.okWide prog W r b0 23 v)(h:DataW.Trod enc prog W 0 (fun _=>true) true 23 v d p):
  ∃L,RepD (big W) W v (zAm L):=by
 obtain⟨a,len,cap,rfl⟩:=okWide_slice zL5 hv
 obtain⟨fuel,hf⟩:=h
 obtain⟨v',L,hc,_,hr⟩:=zML hf
 simp[Value.cells]at hc
 subst hc
 exact⟨L,hr⟩

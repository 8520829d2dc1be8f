/- Parts of the proof. -/
import Derived.Test.YtcagoomibpcdlaaGreatDoorMBZ
set_option maxHeartbeats 16000000
namespace Go.Proofs.YtcagoomibpcdlaaGreatDoor
open Go.Sx Go.Vm
def imgF(p:List Cn)(h:Int): Img:=⟨p,[⟨1,h,0⟩,⟨0,0,0⟩]⟩
theorem zPb{p:List Cn}{h:Int}(hh:h<p.length): zP6 conF (imgF p h):=by
 refine⟨fun k=>if k=0 then some ⟨-1,0,0,[]⟩else if k=1 then some ⟨-1,0,1,[]⟩else none,rfl,fun k v hk=>?_⟩
 by_cases h0:k=0
 ·subst h0
  rw[if_pos rfl]at hk;injection hk with hk;subst hk
  refine⟨by show 0<2;omega,[(1,⟨-1,0,1,[]⟩)],?_,fun q hq=>?_⟩
  ·simp[zKw,imgF,eff,zA6,hh]
  ·rw[qAO.1 hq];exact⟨by decide,rfl⟩
 ·rw[if_neg h0]at hk
  by_cases h1:k=1
  ·subst h1
   rw[if_pos rfl]at hk;injection hk with hk;subst hk
   refine⟨by show 1<2;omega,[],?_,fun q hq=>by cases hq⟩
   simp[zKw,imgF,eff,zA6]
  ·rw[if_neg h1]at hk;cases hk
theorem zRa{p:List Cn}{h:Int}(hh:h<p.length)(hi:imgE (imgF p h)=0): verE (imgF p h)=0:=by
 unfold verE
 rw[if_neg (by omega),(zRh (zHq hi)).2 (zPb hh)];rfl
theorem zON{p:List Cn}{h:Int}(hv:verE (imgF p h)=0): h<p.length:=by
 obtain⟨-,A,hz,hs⟩:=zHV hv
 obtain⟨-,l,hl,-⟩:=hs 0 _ hz
 by_cases hh:h<p.length
 ·exact hh
 ·simp[zKw,imgF,eff,zA6,hh]at hl
def st1(w:Int): St:=⟨w,0,[],[],[],⟨1,0,.n 0⟩,[],[],0,0,[],1⟩
theorem hval{m:Img}(T:St)(h:T.fin=1)(v:Nn)(e:zE8 m T.all (T.top 0)=[v]): (snT m T).vals=[v]:=by
 have:valN m T=[v]:=by
  unfold valN;rw[e,if_pos ⟨h,(show (1:Nat)<=4000 by omega)⟩]
 exact this
theorem zNH{p:List Cn}{h w f:Int}(h0:0<=h)(hv:verE (imgF p h)=0)(hf:0<=f):
  let s:=snT (imgF p h) (ranT (imgF p h) w f)
  let c:=p.getD h.toNat default
  ((s.fin=3\/s.fin=5)/\(f<2\/(c.isText=true/\w<1+((c.text.length:Int)+7) / 8)))\/(s.fin=1/\s.steps=2/\s.vals=[if c.isText then⟨52,c.text,0,0⟩else⟨51,[],c.num,0⟩]):=by
 intro s c
 have hlt:=zON hv
 have hc:c∈p:=by
  show p.getD h.toNat default∈p
  rw[qAD,qAB (by omega)]
  exact qA9 _
 have hcn:Wn c.num=c.num:=((zHV hv).1.thing c hc).2
 obtain⟨n,rfl⟩:∃n:Nat,f=n:=⟨f.toNat,by omega⟩
 have hs:s=snT (imgF p h) (runS shw (imgF p h) n (Go.Vm.start w)):=rfl
 have e1:Go.Vm.step shw (imgF p h) { Go.Vm.start w with steps:=1 }=if c.isText then(st1 w).block (zBy c.text) 0 else(st1 w).push (numR c.num):=rfl
 have e2:∀l:List UInt8,(st1 w).block (zBy l) 0=if w<((1+(l.length+7) / 8:Nat):Int)then(st1 w).stop 5 else(st1 w).new (zBy l) 0:=fun l=>by
  have g:∀n:Nat,(st1 w).gc n=st1 w:=fun n=>by unfold St.gc;split <;> rfl
  have hn:(zBy l).need=1+(l.length+7) / 8:=rfl
  unfold St.block
  have hh:(st1 w).high (1-((0:Nat):Int))=false:=rfl
  rw[hh,if_neg (by decide),g]
  unfold St.alloc
  rw[hn]
  show (if w-0<_ then _ else _)=_
  rw[Int.sub_zero]
 have e3:∀r,(st1 w).push r=(st1 w).instead 0 r:=fun r=>by
  have hh:(st1 w).high 1=false:=rfl
  unfold St.push;rw[hh,if_neg (by decide)]
 match n with
 |0=>left;exact⟨.inl (by rw[hs];rfl),.inl (by decide)⟩
 |1 =>
  left
  refine⟨?_,.inl (by decide)⟩
  have e:runS shw (imgF p h) 1 (Go.Vm.start w)=(let a:=Go.Vm.step shw (imgF p h) { Go.Vm.start w with steps:=1 };if a.fin=0 then a.stop 3 else a):=rfl
  rw[hs,e,e1]
  by_cases ht:c.isText=true
  ·rw[if_pos ht,e2]
   by_cases hw:w<((1+(c.text.length+7) / 8:Nat):Int)
   ·rw[if_pos hw];exact .inr rfl
   ·rw[if_neg hw];exact .inl rfl
  ·rw[if_neg ht,e3];exact .inl rfl
 |n+2 =>
  have e:runS shw (imgF p h) (n+2) (Go.Vm.start w)=(let a:=Go.Vm.step shw (imgF p h) { Go.Vm.start w with steps:=1 };runS shw (imgF p h) (n+1) a):=rfl
  have hend:∀a:St,a.fin=0->a.c.at_=1->runS shw (imgF p h) (n+1) a=(({ a with steps:=a.steps+1 }:St).goto 2).stop 1:=fun a h0 h1=>by
   rw[zIi shw (imgF p h) n a h0]
   have:Go.Vm.step shw (imgF p h) { a with steps:=a.steps+1 }=(({ a with steps:=a.steps+1 }:St).goto 2).stop 1:=by
    unfold Go.Vm.step
    dsimp only
    rw[h1]
    rfl
   rw[this]
   exact zGq shw (imgF p h) n _ (by show (1:Int)≠0;decide)
  rw[hs,e,e1]
  by_cases ht:c.isText=true
  ·rw[if_pos ht,e2]
   by_cases hw:w<((1+(c.text.length+7) / 8:Nat):Int)
   ·rw[if_pos hw]
    left
    refine⟨.inr ?_,.inr ⟨ht,by omega⟩⟩
    show (runS shw (imgF p h) (n+1) _).fin=5
    rw[zGq shw (imgF p h) (n+1) _ (by show (5:Int)≠0;decide)]
    rfl
   ·rw[if_neg hw]
    right
    dsimp only
    rw[hend _ rfl rfl,if_pos ht]
    refine⟨rfl,rfl,?_⟩
    exact hval _ rfl _ rfl
  ·have hnr:numR c.num=.n c.num:=by unfold numR;rw[hcn]
   rw[if_neg ht,e3,hnr]
   right
   dsimp only
   rw[hend _ rfl rfl,if_neg ht]
   exact⟨rfl,rfl,hval _ rfl _ rfl⟩
open _root_.Go.Proofs.Tryz
open Go.RowKit
theorem zKr: zC0 prog 49=some [(0,1),(1,1),(2,1),(3,1)]:=by kernel_rfl
theorem zTX{m n:Int}(h0:0<=m)(hm:m<=4611686018427387904)(hn:0<n): IntKind.i64.wrap (m.tdiv n)=m / n:=by
 rw[Int.tdiv_eq_ediv_of_nonneg h0]
 have h1:0<=m / n:=Int.ediv_nonneg h0 (by omega)
 have h2:m / n<=m:=Int.ediv_le_self n h0
 exact zHT (by omega) (by omega)
theorem zYl(a b:Nd)(x y:Operand)(w:World): ((do eqGuard .eql 49 x y (.agg a.vals.toArray) (.agg b.vals.toArray);binOp .eql 49 (.agg a.vals.toArray) (.agg b.vals.toArray):Sem Value)).run prog w=.ok (.bool (decide (a=b))) w:=by
 have hS:prog.underlying 49=some (.struct (prog.fieldsOf 49)):=by kernel_rfl
 have hp:prog.stoodInHeld 49=false:=by kernel_rfl
 have hg:prog.eqGuardType prog.depth 49=false:=by kernel_rfl
 have u1:prog.underlying 47=some (.int .i64):=by kernel_rfl
 have u2:prog.underlying 9=some .string:=by kernel_rfl
 have u3:prog.underlying 2=some (.int .i64):=by kernel_rfl
 have u4:prog.underlying 3=some (.int .i64):=by kernel_rfl
 have p1:prog.plainKey 47=true:=by kernel_rfl
 have p2:prog.plainKey 9=true:=by kernel_rfl
 have p3:prog.plainKey 2=true:=by kernel_rfl
 have p4:prog.plainKey 3=true:=by kernel_rfl
 have hk:∀(n:Nd) (w:World),(part 47 n.vals.toArray 0).run prog w=.ok (.int .i64 n.kind) w:=fun n w=>run_part_plain (w:=w) p1 rfl
 have ht:∀(n:Nd) (w:World),(part 9 n.vals.toArray 1).run prog w=.ok (.string ⟨n.text.toArray⟩) w:=fun n w=>run_part_plain (w:=w) p2 rfl
 have hn:∀(n:Nd) (w:World),(part 2 n.vals.toArray 2).run prog w=.ok (.int .i64 n.num) w:=fun n w=>run_part_plain (w:=w) p3 rfl
 have hi:∀(n:Nd) (w:World),(part 3 n.vals.toArray 3).run prog w=.ok (.int .i64 n.kids) w:=fun n w=>run_part_plain (w:=w) p4 rfl
 simp only[Sem.run_bind,run_eqGuard_agg w .eql _ x y _ _ hg,Result.andThen_ok,run_eql_struct]
 rw[show (10000:Nat)=9998+1+1 from rfl,run_equalIn_agg w (9998+1) _ _ _ hS hp,fd37]
 have c1:("Kind"≠"_")=True:=by simp
 have c2:("Text"≠"_")=True:=by simp
 have c3:("Num"≠"_")=True:=by simp
 have c4:("Kids"≠"_")=True:=by simp
 simp only[Op.eqFields,c1,c2,c3,c4,if_true,hk,Sem.run_bind,Result.andThen_ok,run_equalIn_int _ _ _ _ _ _ _ u1]
 rw[show decide (a=b)=decide (a.kind=b.kind/\a.text=b.text/\a.num=b.num/\a.kids=b.kids)from decide_eq_decide.2 (zU3 a b)]
 by_cases h1:a.kind=b.kind <;> by_cases h2:a.text=b.text <;> by_cases h3:a.num=b.num <;> by_cases h4:a.kids=b.kids <;> simp[h1,h2,h3,h4,ht,hn,hi,run_equalIn_int _ _ _ _ _ _ _ u3,run_equalIn_int _ _ _ _ _ _ _ u4,run_equalIn_string _ _ _ _ _ u2]
theorem zUj{η:List Ob}{σ:Sl}{dst:Option Nat}{ty:TypeId}{pos:String}{after:Array Edge}{gd:Option (Nat×Bool)}{x y:Operand}{yt:TypeId}{a b:Nd}(hx:oval σ x=.d a.av)(hy:oval σ y=.d b.av):
  Ylds prog η σ ⟨dst,.binOp .eql 49 x y yt,ty,pos,after,gd⟩ (.d (.val (.bool (decide (a=b))))) :=
 zVV (us:=a.vals) (vs:=b.vals) hx hy (zYl a b x y)
theorem zOh{η:List Ob}{σ:Sl}{dst:Option Nat}{ty:TypeId}{pos:String}{after:Array Edge}{gd:Option (Nat×Bool)}{x y:Operand}{yt:TypeId}{a b:Nn}(hx:oval σ x=.d (nnD a))(hy:oval σ y=.d (nnD b)):
  Ylds prog η σ ⟨dst,.binOp .eql 49 x y yt,ty,pos,after,gd⟩ (.d (.val (.bool (decide (a=b))))):=by
 have:=zUj (η:=η) (dst:=dst) (ty:=ty) (pos:=pos) (after:=after) (gd:=gd) (yt:=yt) (a:=toNd a) (b:=toNd b) hx hy
 rwa [decide_eq_decide.2 (show toNd a=toNd b↔a=b from⟨fun h=>by cases a;cases b;simp[toNd]at h;simp[h],fun h=>by rw[h]⟩)]at this
theorem zVP{η:List Ob}{σ:Sl}{dst:Option Nat}{t yt ty:TypeId}{pos:String}{after:Array Edge}{gd:Option (Nat×Bool)}{x y:Operand}{m n:Int}(hx:oval σ x=.d (.val (.int .i64 m)))(hy:oval σ y=.d (.val (.int .i64 n)))(h0:0<=m)(hm:m<=4611686018427387904)(hn:0<n): Ylds prog η σ ⟨dst,.binOp .quo t x y yt,ty,pos,after,gd⟩ (.d (.val (.int .i64 (m / n)))):=by
 have:=zR9 (P:=prog) (η:=η) (dst:=dst) (ty:=ty) (pos:=pos) (after:=after) (gd:=gd) (t:=t) (yt:=yt) hx hy (show n≠0 by omega)
 rwa [zTX h0 hm hn]at this
attribute [local irreducible] zAN Program.underlying Ylds zA9 alex zB3 zBf awp zAi zCC zCB zAU zBl zAz zDt zBq zBj zBB zBr zB2 zB8 zD7 zBi zBd zBg
theorem zUH(p:List Cn)(w f:Int): zAi prog 7 [.slice (p.map enCn),i64 w,i64 f] (bl true):=by
 have hA:=zOc
 refine zAs func7 rfl ntmps7 results7 rfl ?_
 intro wb St0
 repeat' first|(refine zEj (id:=3) ?_)|apply en_n|apply zAH|apply zAA|apply zAD|apply w0|(apply k0u (hd:=rfl);exact rfl;exact rfl)|(refine zAb zFe hA zAM)|apply ay (hd:=rfl)|exact zAF rfl|exact zAB rfl|exact zBI rfl zDz|exact zEw rfl rfl|exact zGG rfl rfl|exact zBX rfl|exact zAa rfl rfl|exact zAX rfl rfl|refine w1 rfl rfl ?_|(apply gD;exact rfl;exact rfl;all_goals intro hb)|(apply zBT;exact rfl;all_goals intro hb)|refine zAI rfl ?_|apply zAS|apply zAQ|apply en_r|apply zAR|refine res1 rfl ?_
 iterate 5 exact rfl
 rename_i h60 hw0 hw1 hf0
 have hf1:=hb
 refine Stop.go ?_
 repeat' first|apply en_n|apply zAH|apply zAA|apply zAD|apply w0|apply ay (hd:=rfl)|exact zAB rfl|apply zAL
 refine zBW (α:=Nat) (fun i=>i<=p.length/\∀(j:Nat) c,j<i->p[j]?=some c->c.text.length<=300) (fun i=>[(0,.d (.slice (p.map enCn))),(1,.d (i64 w)),(2,.d (i64 f)),(7,.d (i64 (i:Int)))]) (fun _=>[]) (fun i=>p.length-i) 0 ⟨qAX _,fun j c h=>by omega⟩
  (zAT (Le_all rfl) zAt rfl rfl) ?_
 rintro i ⟨hi1,hi2⟩
 repeat' first|(refine zEj (id:=8) ?_)|apply en_n|apply zAH|apply zAA|apply zAD|apply w0|(apply zEh;exact rfl;with_reducible exact ustr)|(apply aI (hd:=rfl);(first|exact zCW rfl|exact zC3 rfl rfl rfl|exact Co_nn rfl);exact rfl;(with_reducible exact zCd);exact fun _=>rfl;rotate_left;intro v hv;rotate_right)|apply ay (hd:=rfl)|exact zAF rfl|exact zAB rfl|exact zDc rfl zCp|exact zCb rfl zDk|exact zBI rfl zDz|exact zEw rfl rfl|exact zGG rfl rfl|refine zBE rfl rfl ?_|(apply zBT;exact rfl;all_goals intro hb)|apply zAL|apply zAS|apply zAQ|apply zBc|apply en_r|apply en_e|apply eb_n|apply eb_r|apply eb_e|apply zAR|refine res1 rfl ?_
 ·omega
 ·rfl
 ·omega
 ·refine⟨i+1,⟨by omega,fun j c hj hc=>?_⟩,by omega,zAT (Le_all rfl) zAt rfl rfl⟩
  rcases qAR j i with h1|h1
  ·exact hi2 j c h1 hc
  ·have hv':p[i]?=some v:=hv
   rw[show j=i by omega,hv']at hc;injection hc with hc;subst hc;omega
 have hm:ImgL (imgF p ((p.length:Int) / 2)):=⟨by show p.length<=_;omega,by show 2<=_;omega,fun c hc=>by
  obtain⟨j,hj⟩:=qAu.1 hc
  have hj:p[j]?=some c:=hj
  have:=hi2 j c (by have:=(qAA.1 hj).1;omega) hj
  omega⟩
 refine Stop.go ?_
 repeat' first|(refine zEj (id:=9) ?_)|apply en_n|apply zAH|apply zAA|apply zAD|apply w0|(apply zVP;exact rfl;exact rfl;omega;omega;omega)|apply ay (hd:=rfl)|exact zAF rfl|exact zAB rfl|exact zBI rfl zDz
 refine Stop.go ?_
 have hH0:0<=(p.length:Int) / 2:=by omega
 have hHl:p.length≠0->(p.length:Int) / 2<p.length:=by omega
 generalize (p.length:Int) / 2=H at *
 have hR:=zIH (imgF p H) hm w f (by omega) (by omega)
 have hCk:=zLe (imgF p H) (by show 2<=_;omega)
 have hpl:=zNH (w:=w) (f:=f) (p:=p) hH0
 rw[zKh hw0 hf0]at hR
 clear hi2 hi1 hb
 by_cases he:verE (imgF p H)=0
 ·have hlt:=zON he
  have hpl:=hpl he (by omega)
  rw[<-zMu hw0 hf0 he]at hpl
  rw[he]at hR
  generalize runV (imgF p H) w f=s1 at *
  obtain⟨f1,v1,n1,o1,t1⟩:=s1
  dsimp only at hpl
  unfold Sn.av zIU zDH imgF at hR
  dsimp only[qAr,qBj]at hR
  skip
  repeat' first|(refine zEj (id:=11) ?_)|apply en_n|apply zAH|apply zAA|apply zAD|apply w0|(refine zJn zEp zCd (by kernel_rfl) rfl)|(refine zJq rfl (zCW rfl) zEp zCd zKX zKY (fun d hd=>by obtain⟨c,_,rfl⟩:=qBE.1 hd;rfl) (by rw[qAC];omega))|(refine zBY (cs:=[i64 1,i64 H,i64 0]) zGN zBw (PD_d rfl rfl (PD_d rfl rfl zCf)) rfl)|(refine zBY (cs:=[i64 0,i64 0,i64 0]) zGN zBw zCf rfl)|(refine zFX zGj zBh (by kernel_rfl) rfl rfl (zAY rfl (zAY rfl zAM)) rfl)|(refine zBY (cs:=[.slice (p.map enCn),.slice [.agg [i64 1,i64 H,i64 0],.agg [i64 0,i64 0,i64 0]]]) zH0 zE5 (PD_d rfl rfl (PD_d rfl rfl zCf)) rfl)|(apply zAh;exact rfl;exact rfl;exact rfl;(first|with_reducible exact zCo|with_reducible exact zCE|with_reducible exact zFb);exact rfl;exact rfl;exact rfl;exact rfl)|(refine zAb zDG hR (zAY rfl (zAY rfl (zAY rfl zAM))))|(apply zDI (hd:=rfl) (hro:=rfl);(with_reducible first|exact zE5|exact zD8))|apply ay (hd:=rfl)|exact zAF rfl|exact zAB rfl|exact zAg rfl rfl|exact zA4 rfl zCo rfl rfl rfl|(refine w0' ?_)
  refine Stop.go ?_
  obtain⟨v,hv⟩:∃v,p[H.toNat]?=some v:=⟨_,qAB (by omega)⟩
  have hvd:p.getD H.toNat default=v:=by rw[qAD,hv];rfl
  rw[hvd]at hpl
  clear hR hCk
  have hvl:=hm.text _ (qAK hv)
  clear hm
  obtain⟨vt,vn,vs⟩:=v
  dsimp only at hpl hvl
  rcases hpl with⟨hf,hc⟩|⟨rfl,rfl,rfl⟩
  ·by_cases h2:f<2
   ·rcases hf with rfl|rfl
    all_goals
     skip
     repeat' first|apply en_n|apply zAH|apply zAA|apply zAD|apply w0|(apply kU (hd:=rfl);exact rfl;exact rfl)|(apply k0u (hd:=rfl);exact rfl;exact rfl)|exact zC9 rfl rfl|exact zAk rfl rfl|exact zAm rfl rfl|exact zFI rfl rfl|apply ay (hd:=rfl)|exact zAF rfl|exact zAB rfl|exact zAa rfl rfl|exact zAX rfl rfl|exact zAC rfl zCa|exact zAE rfl zCr rfl rfl|refine w1 rfl rfl ?_|refine zAI rfl ?_|refine zAJ rfl ?_|apply zAS|apply zAQ|apply en_r|apply zAR|refine res1 rfl ?_
     all_goals first|omega|rfl
   ·obtain⟨ht,hw⟩:=hc.resolve_left h2
    subst ht
    rcases hf with rfl|rfl
    all_goals
     skip
     repeat' first|apply en_n|apply zAH|apply zAA|apply zAD|apply w0|(apply k0u (hd:=rfl);exact rfl;exact rfl)|exact zC9 rfl rfl|exact zCm rfl rfl|exact zAk rfl rfl|exact zAm rfl rfl|exact zFI rfl rfl|(apply zEh;exact rfl;with_reducible exact ustr)|(apply zVP;exact rfl;exact rfl;((try dsimp only);omega);((try dsimp only);omega);omega)|(apply aJ (hd:=rfl);(first|exact zCW rfl|exact zC3 rfl rfl rfl|exact Co_nn rfl);exact rfl;(with_reducible exact zCd);assumption;omega;exact fun _=>rfl)|apply ay (hd:=rfl)|exact zAF rfl|exact zAB rfl|(apply zDc;exact rfl;(with_reducible first|exact zCZ|exact zCp))|(apply zCb;exact rfl;(with_reducible first|exact zDk|exact zAc))|refine zBE rfl rfl ?_|exact zAa rfl rfl|exact zAX rfl rfl|exact zAC rfl zCa|exact zAE rfl zCr rfl rfl|refine w1 rfl rfl ?_|refine zAI rfl ?_|refine zAJ rfl ?_|apply zAS|apply zAQ|apply en_r|apply zAR|refine res1 rfl ?_
     all_goals first|(dsimp only;omega)|omega|exact rfl
  ·cases vt
   ·rw[if_neg (by decide)]
    repeat' first|apply en_n|apply zAH|apply zAA|apply zAD|apply w0|(apply k1ud (hd:=rfl);exact rfl;exact rfl)|exact zAk rfl rfl|exact zAm rfl rfl|exact zFI rfl rfl|(refine zBY (cs:=[i64 51,str [],i64 vn,i64 0]) zKr zFy (PD_d rfl rfl (PD_d rfl rfl zCf)) rfl)|refine zAh rfl rfl rfl zFb rfl rfl rfl rfl ?_|(apply zOh (b:=⟨51,[],vn,0⟩);exact rfl;exact rfl)|(apply aJ (hd:=rfl);(first|exact zCW rfl|exact zC3 rfl rfl rfl|exact Co_nn rfl);exact rfl;(with_reducible first|exact zCd|exact zDP);assumption;omega;exact fun _=>rfl)|(apply aI (hd:=rfl);(first|exact zCW rfl|exact zC3 rfl rfl rfl|exact Co_nn rfl);exact rfl;(with_reducible exact zDP);exact fun _=>rfl;rotate_left;intro v hv;rotate_right)|(apply zDI (hd:=rfl) (hro:=rfl);(with_reducible exact zFy))|apply ay (hd:=rfl)|exact zAF rfl|exact zAB rfl|(apply zDc;exact rfl;(with_reducible first|exact zCZ|exact zDD))|(apply zCb;exact rfl;(with_reducible first|exact zD1|exact zAc))|exact zBH rfl zFb rfl|exact zBI rfl zDO|exact zFN rfl rfl|exact zAa rfl rfl|exact zAX rfl rfl|(apply zAC;exact rfl;(with_reducible first|exact zCa|exact zFi|exact zE7))|(apply zAE;exact rfl;(with_reducible first|exact zCr|exact zAP|exact zGn);exact rfl;exact rfl)|exact zA4 rfl zFb rfl rfl rfl|refine w1 rfl rfl ?_|(apply gD;exact rfl;exact rfl;all_goals intro hb)|(refine w0' ?_)|refine zAJ rfl ?_|apply zAS|apply zAQ|refine zAj (by kernel_rfl) (by kernel_rfl) ?_|apply zAR|refine res1 rfl ?_
    all_goals first|rfl|exact⟨qA6 0,Int.zero_lt_one⟩|(exfalso;injection hv with hv;exact hb hv.symm)
   ·rw[if_pos rfl]
    repeat' first|apply en_n|apply zAH|apply zAA|apply zAD|apply w0|(apply k1ud (hd:=rfl);exact rfl;exact rfl)|exact zAk rfl rfl|exact zAm rfl rfl|exact zFI rfl rfl|(refine zBY (cs:=[i64 51,str [],i64 vn,i64 0]) zKr zFy (PD_d rfl rfl (PD_d rfl rfl zCf)) rfl)|(refine zBY (cs:=[i64 52,str vs,i64 0,i64 0]) zKr zFy (PD_d rfl rfl (PD_d rfl rfl zCf)) rfl)|refine zAh rfl rfl rfl zFb rfl rfl rfl rfl ?_|(apply zOh (b:=⟨52,vs,0,0⟩);exact rfl;exact rfl)|(apply aJ (hd:=rfl);(first|exact zCW rfl|exact zC3 rfl rfl rfl|exact Co_nn rfl);exact rfl;(with_reducible first|exact zCd|exact zDP);assumption;omega;exact fun _=>rfl)|(apply aI (hd:=rfl);(first|exact zCW rfl|exact zC3 rfl rfl rfl|exact Co_nn rfl);exact rfl;(with_reducible exact zDP);exact fun _=>rfl;rotate_left;intro v hv;rotate_right)|(apply zDI (hd:=rfl) (hro:=rfl);(with_reducible exact zFy))|apply ay (hd:=rfl)|exact zAF rfl|exact zAB rfl|(apply zDc;exact rfl;(with_reducible first|exact zCZ|exact zDD|exact zCp))|(apply zCb;exact rfl;(with_reducible first|exact zD1|exact zDk|exact zAc))|exact zBH rfl zFb rfl|exact zBI rfl zDO|exact zFN rfl rfl|exact zAa rfl rfl|exact zAX rfl rfl|(apply zAC;exact rfl;(with_reducible first|exact zCa|exact zFi|exact zE7))|(apply zAE;exact rfl;(with_reducible first|exact zCr|exact zAP|exact zGn);exact rfl;exact rfl)|exact zA4 rfl zFb rfl rfl rfl|refine w1 rfl rfl ?_|(apply gD;exact rfl;exact rfl;all_goals intro hb)|(refine w0' ?_)|refine zAI rfl ?_|refine zAJ rfl ?_|apply zAS|apply zAQ|refine zAj (by kernel_rfl) (by kernel_rfl) ?_|apply zAR|refine res1 rfl ?_
    all_goals first|rfl|exact⟨qA6 0,Int.zero_lt_one⟩|(exfalso;injection hv with hv;exact hb hv.symm)
 ·have hne:imgE (imgF p H)≠0\/p.length=0:=by
   rcases Nat.eq_zero_or_pos p.length with h0|h0
   ·exact .inr h0
   ·exact .inl fun h=>he (zRa (hHl (by omega)) h)
  clear hpl hm
  generalize verE (imgF p H)=e at *
  generalize imgE (imgF p H)=e2 at *
  unfold runV at hR
  generalize (if runE (imgF p H) w f≠0 then sn0 else snT (imgF p H) (ranT (imgF p H) w f))=s1 at *
  obtain⟨f1,v1,n1,o1,t1⟩:=s1
  unfold Sn.av zIU zDH imgF at hR
  unfold zDH imgF at hCk
  dsimp only[qAr,qBj]at hR hCk
  by_cases h0:p.length=0
  ·skip
   repeat' first|apply en_n|apply zAH|apply zAA|apply zAD|apply w0|(apply k0u (hd:=rfl);exact rfl;exact rfl)|exact zAk rfl rfl|exact zGI rfl rfl|(refine zJn zEp zCd (by kernel_rfl) rfl)|(refine zJq rfl (zCW rfl) zEp zCd zKX zKY (fun d hd=>by obtain⟨c,_,rfl⟩:=qBE.1 hd;rfl) (by rw[qAC];omega))|(refine zBY (cs:=[i64 1,i64 H,i64 0]) zGN zBw (PD_d rfl rfl (PD_d rfl rfl zCf)) rfl)|(refine zBY (cs:=[i64 0,i64 0,i64 0]) zGN zBw zCf rfl)|(refine zFX zGj zBh (by kernel_rfl) rfl rfl (zAY rfl (zAY rfl zAM)) rfl)|(refine zBY (cs:=[.slice (p.map enCn),.slice [.agg [i64 1,i64 H,i64 0],.agg [i64 0,i64 0,i64 0]]]) zH0 zE5 (PD_d rfl rfl (PD_d rfl rfl zCf)) rfl)|(apply zAh;exact rfl;exact rfl;exact rfl;(first|with_reducible exact zCo|with_reducible exact zCE|with_reducible exact zFb);exact rfl;exact rfl;exact rfl;exact rfl)|(refine zAb zDG hR (zAY rfl (zAY rfl (zAY rfl zAM))))|(apply zDI (hd:=rfl) (hro:=rfl);(with_reducible first|exact zE5|exact zD8))|apply ay (hd:=rfl)|exact zAF rfl|exact zAB rfl|exact zBI rfl zDz|exact zAa rfl rfl|exact zAg rfl rfl|exact zA4 rfl zCo rfl rfl rfl|(refine w0' ?_)|refine zAI rfl ?_|apply zAQ|apply en_r|apply zAR|refine res1 rfl ?_
   all_goals first|omega|rfl
  ·have hne:=hne.resolve_right h0
   skip
   repeat' first|apply en_n|apply zAH|apply zAA|apply zAD|apply w0|exact zAm rfl rfl|exact zGI rfl rfl|(refine zJn zEp zCd (by kernel_rfl) rfl)|(refine zJq rfl (zCW rfl) zEp zCd zKX zKY (fun d hd=>by obtain⟨c,_,rfl⟩:=qBE.1 hd;rfl) (by rw[qAC];omega))|(refine zBY (cs:=[i64 1,i64 H,i64 0]) zGN zBw (PD_d rfl rfl (PD_d rfl rfl zCf)) rfl)|(refine zBY (cs:=[i64 0,i64 0,i64 0]) zGN zBw zCf rfl)|(refine zFX zGj zBh (by kernel_rfl) rfl rfl (zAY rfl (zAY rfl zAM)) rfl)|(refine zBY (cs:=[.slice (p.map enCn),.slice [.agg [i64 1,i64 H,i64 0],.agg [i64 0,i64 0,i64 0]]]) zH0 zE5 (PD_d rfl rfl (PD_d rfl rfl zCf)) rfl)|(apply zAh;exact rfl;exact rfl;exact rfl;(first|with_reducible exact zCo|with_reducible exact zCE|with_reducible exact zFb);exact rfl;exact rfl;exact rfl;exact rfl)|(refine zAb zDG hR (zAY rfl (zAY rfl (zAY rfl zAM))))|(refine zAb zJy hCk (zAY rfl zAM))|(apply zDI (hd:=rfl) (hro:=rfl);(with_reducible first|exact zE5|exact zD8))|apply ay (hd:=rfl)|exact zAF rfl|exact zAB rfl|exact zBI rfl zDz|exact zAX rfl rfl|exact zAg rfl rfl|exact zA4 rfl zCo rfl rfl rfl|refine w1 rfl rfl ?_|(refine w0' ?_)|refine zAI rfl ?_|apply zAQ|apply en_r|apply zAR|refine res1 rfl ?_
   all_goals first|omega|rfl
end Go.Proofs.YtcagoomibpcdlaaGreatDoor

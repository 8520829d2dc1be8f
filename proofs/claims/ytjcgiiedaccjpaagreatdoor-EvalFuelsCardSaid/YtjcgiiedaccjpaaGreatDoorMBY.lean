/- Parts. -/
import Derived.Test.YtjcgiiedaccjpaaGreatDoorMBW
import Derived.Test.YtjcgiiedaccjpaaGreatDoorMBX
set_option maxHeartbeats 16000000
namespace Go.Proofs.YtjcgiiedaccjpaaGreatDoor
open _root_.Go.Proofs.Tryz
open Go.Sx Go.Ev
theorem aIns{C:Ctx}{ops:Array Oper}{rest:List Oper}{K:Sl->List Ob->Prop}{σ:Sl}{η:List Ob}{t:TypeId}{x y z:Operand}{ty:TypeId}{pos:String}{after:Array Edge}{gd:Option (Nat×Bool)}(h:zA3 C false ops ⟨none,.mapUpdate t x y z,ty,pos,after,gd⟩ rest K σ η): zA3 C false ops ⟨none,.insert t x y z,ty,pos,after,gd⟩ rest K σ η:=by
 intro Q hQ a w ha K' hK'
 have:=h Q hQ a w ha K' hK'
 unfold Oper.wp at this ⊢
 exact this
def zUU(n:Nat): D:=.slice ((List.range n).map sigD)
attribute [local irreducible] zAK Program.underlying Ylds zA3 alex zBc zBL awp zAc zBd zBi zBD zBI zDI zBS zA5 zBT zBY zBe zBs zC7 zBN VCall
theorem zLx: zAc prog 16 [] (zUU 14):=by
 have hI:=zKd [105,110,116]
 have hT:=zKd [116,101,120,116]
 have hM:=zQi ⟨32,refT,0,0⟩ [bV] (by decide) (by decide)
 have hB:=zH5
 replace hM:zAc prog 21 [.agg [i64 32,str refT,i64 0,i64 0],zCG [bV]] (zAm bR):=hM
 refine zAX func16 rfl ntmps16 results16 rfl ?_
 intro wb St0
 repeat' first|apply en_n|apply zAE|apply zAA|apply zAD|apply w0|(refine zAU zMa hI (CoLA rfl))|(refine zAU zMa hT (CoLA rfl))|(refine zAU zPK hM (CoLA rfl))|(refine zAU zFg hB zAF)|(refine zAf (cs:=[i64 31,str [],i64 0,i64 0]) zC5 zAx (PD_d rfl rfl zA6) rfl)|(refine zAf (cs:=[i64 32,str refT,i64 0,i64 0]) zC5 zAx (PD_d rfl rfl (PD_d rfl rfl zA6)) rfl)|refine zQV (hd:=rfl) (hro:=rfl) zDD zD4 ?_|exact zGK rfl|exact zLu rfl|(refine aIns ?_;refine zFm (enc:=fun l:List UInt8=>Value.string ⟨l.toArray⟩) (a:=catT) rfl rfl rfl (zAq rfl) zDD (zEv zD4) rfl ?_)|(refine aIns ?_;refine zFm (enc:=fun l:List UInt8=>Value.string ⟨l.toArray⟩) (a:=lenT) rfl rfl rfl (zAq rfl) zDD (zEv zD4) rfl ?_)|(refine aIns ?_;refine zFm (enc:=fun l:List UInt8=>Value.string ⟨l.toArray⟩) (a:=refT) rfl rfl rfl (zAq rfl) zDD (zEv zD4) rfl ?_)|(refine aIns ?_;refine zFm (enc:=fun l:List UInt8=>Value.string ⟨l.toArray⟩) (a:=getT) rfl rfl rfl (zAq rfl) zDD (zEv zD4) rfl ?_)|(refine aIns ?_;refine zFm (enc:=fun l:List UInt8=>Value.string ⟨l.toArray⟩) (a:=setT) rfl rfl rfl (zAq rfl) zDD (zEv zD4) rfl ?_)|(refine aIns ?_;refine zFm (enc:=fun l:List UInt8=>Value.string ⟨l.toArray⟩) (a:=putT) rfl rfl rfl (zAq rfl) zDD (zEv zD4) rfl ?_)|(refine aIns ?_;refine zFm (enc:=fun l:List UInt8=>Value.string ⟨l.toArray⟩) (a:=sayT) rfl rfl rfl (zAq rfl) zDD (zEv zD4) rfl ?_)|apply ay (hd:=rfl)|exact zAC rfl|exact zAB rfl|exact zAo rfl zMu|exact zA4 rfl|(apply zCi;(with_reducible first|exact zCf|exact zEX);(with_reducible first|exact zAa|exact zBa);(with_reducible first|exact zFU|exact zFp);exact rfl;exact rfl;(first|exact zAP rfl zAF|exact zEC rfl rfl rfl zAF|exact zFE rfl zAF);exact rfl)|(apply zQd;(with_reducible exact zEX);(with_reducible exact zBa);(with_reducible exact zFp);exact rfl;exact rfl;(first|exact zAP rfl (zAP rfl zAF)|exact zEC rfl rfl rfl (zEC rfl rfl rfl zAF));exact rfl)|(apply zSp;(with_reducible exact zEX);(with_reducible exact zBa);(with_reducible exact zFp);exact rfl;exact rfl;(exact zAP rfl (zAP rfl (zAP rfl zAF)));exact rfl)|(refine w0' ?_)|apply zAI
 refine zDV 6 false 45 2 rfl rfl ?_
 refine zAv (α:=Nat) (fun i=>i<=14) (fun i=>[(1,.d (zAm bI)),(5,.mp 0),(6,.buf 1 ((List.range i).map sigD).length),(44,.d bisD),(45,.d (i64 14)),(46,.d (i64 (i:Int)))]) (fun i=>[.map none (kvs (fun l:List UInt8=>Value.string ⟨l.toArray⟩) bMap),.buf false 45 2 ((List.range i).map sigD)]) (fun i=>14-i) 0 (qAR _)
  (zAV (Le_cons rfl (Le_cons rfl (zCu rfl rfl (Le_all rfl)))) (zAT rfl rfl (zBM rfl rfl rfl zAW)) rfl rfl) ?_
 intro i hi
 rcases qAI i 14 with hlt|hge
 ·have hlt':(i:Int)<14:=by omega
  have hv:(List.range 14)[(i:Int).toNat]?=some i:=by rw[qAc,List.getElem?_range hlt]
  have hsucc:(List.range (i+1)).map sigD=(List.range i).map sigD++[sigD i]:=by rw[List.range_succ,qAh];rfl
  have hlen:((List.range i).map sigD).length=i:=by rw[qAK,qA2]
  unfold sigD at hsucc
  change (List.range (i+1)).map sigD=(List.range i).map sigD++_ at hsucc
  rcases zR5 i hlt with⟨h1,h2⟩|⟨a,b,c,h1,h2,h3,h4,h5⟩|⟨a,c,h1,h2,h3,h5⟩
  ·have hA:=zP2 bI bI bI (by decide)
   rw[h2]at hsucc
   dsimp only at hsucc
   clear h2
   generalize zKZ [bI,bI] bI=r at *
   generalize bI=q at *
   generalize pdo i=pd at *
   unfold zCG at *
   skip
   exact yD
  ·have hA:=zP2 a b c ⟨h3,h4,h5⟩
   rw[h2]at hsucc
   dsimp only at hsucc
   clear h2
   generalize zKZ [a,b] c=r at *
   unfold zCG at *
   skip
   exact yD
  ·have hA:=zT2 a c ⟨h3,h5⟩
   rw[h2]at hsucc
   dsimp only at hsucc
   clear h2
   generalize zKZ [a] c=r at *
   unfold zCG at *
   skip
   exact yD
 ·have hge':¬(i:Int)<14:=by omega
  have:i=14:=by omega
  subst this
  skip
  exact yU
end Go.Proofs.YtjcgiiedaccjpaaGreatDoor
namespace Go.Proofs.YtjcgiiedaccjpaaGreatDoor
open _root_.Go.Proofs.Tryz
open Go.Sx Go.Ev
theorem DtL.of_few{l:List Dt}(h:fewD l=true): DtL l:=by
 simp only[fewD,qAP,decide_eq_true_eq]at h
 obtain⟨⟨h1,h2⟩,-⟩:=h
 have hd:∀d∈l,eokD d=true:=fun d hd=>qAF.1 h2 d hd
 refine⟨by omega,fun d hm=>?_,fun d hm c hc=>?_⟩
 ·have:=hd d hm
  simp only[eokD,qAP,decide_eq_true_eq]at this
  omega
 ·have h3:=hd d hm
  simp only[eokD,qAP,decide_eq_true_eq]at h3
  have h4:=qAF.1 h3.2 c hc
  simp only[eokC,qAP,decide_eq_true_eq]at h4
  refine⟨by omega,fun t ht=>?_⟩
  have h5:=qAF.1 h4.2 t ht
  simp only[eokA,qAP,decide_eq_true_eq]at h5
  omega
theorem zPk{l:List Dt}{e:List Nd}{f:Int}(h:fewE l e f=true): DtL l/\l.length<=10/\e.length<=60/\f<=2000:=by
 simp only[fewE,qAP,decide_eq_true_eq]at h
 obtain⟨-,⟨⟨h2,h3⟩,h4⟩,h5⟩:=h
 exact⟨.of_few h2,h3,h4,h5⟩
theorem zNk(t:Tr): (zGa t).length<=t.sz:=by
 unfold zGa
 split
 ·have:=zEn t [] [];simpa using this
 ·simp
structure Runs(T:List Dt)(L:List Nd): Prop where
 dts:DtL T
 len:L.length<=4000
 ex:∃t:Tr,t.fl=L/\t.wf/\chkT t false=0/\zGf T t=true
theorem zQD{t:Tr}{p:Bool}(h:chkT t p=0): t.werr p=0:=by
 unfold chkT at h
 split at h
 ·cases h
 ·split at h
  ·rename_i h2;exact absurd h h2
  ·rename_i h2;exact Decidable.not_not.1 h2
theorem Runs.ok{T:List Dt}{L:List Nd}(h:Runs T L)(f:Nat)(hf:f<=100000): (⟨L,T,f⟩:Rn).Ok/\ExAt ⟨L,T,f⟩ 0:=by
 obtain⟨t,rfl,hw,hc,hn⟩:=h.ex
 refine⟨⟨h.len,hf,h.dts,fun x hx hk=>?_⟩,⟨t,At.top hw,zQD hc⟩⟩
 simp only[zGf,qAP]at hn
 have h1:=qAF.1 hn.1 x hx
 unfold nmd1 at h1
 rw[if_neg (by omega)]at h1
 show ∃i j d c,zD3 T x.text=some (i,j)/\_
 cases hf:zD3 T x.text with
 |none=>rw[hf]at h1;cases h1
 |some r =>
  obtain⟨i,j⟩:=r
  obtain⟨d,c,h2,h3⟩:=zMg hf
  exact⟨i,j,d,c,rfl,h2,h3⟩
theorem zT1(T:List Dt)(hT:DtL T)(L:List Nd)(hL:L.length<=60): ∃e:Int,zAc prog 12 [dts T,zAm L] (i64 e)/\(e=0->Runs T L):=by
 cases hw:zDJ L with
 |false=>exact⟨60,zP1 L (by omega) hw,fun h=>by cases h⟩
 |true =>
  obtain⟨t,rfl,ht⟩:=zIK.1 hw
  refine⟨zNh T t,zHw hT t ht (by omega) (by have:=zNk t;rw[Tr.fl_len]at hL;omega),fun h=>⟨hT,by omega,t,rfl,ht,?_⟩⟩
  unfold zNh at h
  split at h
  ·rename_i h1;exact absurd h h1
  ·rename_i h1
   split at h
   ·rename_i h2;exact absurd h h2
   ·split at h
    ·cases h
    ·rename_i h3
     exact⟨Decidable.not_not.1 h1,by simpa using h3⟩
theorem zMI{T:List Dt}{L:List Nd}(h:Runs T L)(f:Nat)(hf:f<=100000): (Go.Ev.seen shwW (⟨L,T,f⟩:Rn).pg).out.length<=f:=by
 obtain⟨hR,h0⟩:=h.ok f hf
 have hC:Cn ⟨L,T,f⟩ (f+1) Go.Ev.start 0:=⟨trivial,trivial,qAM _,qAM _,qAR _,Nat.lt_succ_self _⟩
 have hN:=(hC.next h0 (⟨trivial,trivial⟩:Ce ⟨L,T,f⟩ Go.Ev.start 0 .nil)).cn
 have h1:=hN.out
 have h2:=hN.nle
 have h3:=hN.le
 unfold Go.Ev.seen
 rw[show (⟨L,T,f⟩:Rn).pg.fuel=f from rfl]
 generalize exp shwW (⟨L,T,f⟩:Rn).pg (f+1) Go.Ev.start 0 .nil=r at *
 dsimp only at h1 h2 h3 ⊢
 split <;> (dsimp only;omega)
theorem zOc(shw:Int->List UInt8)(P:Pg): (Go.Ev.seen shw P).vals.length<=4001:=by
 unfold Go.Ev.seen
 dsimp only
 split
 ·dsimp only;split
  ·omega
  ·exact qAR _
 ·exact qAR _
def putX: List UInt8:=[112,117,116]
def aT: Tr:=.mk ⟨6,[],0,2⟩ [.mk ⟨3,putX,0,0⟩ [],.mk ⟨1,[],-7,0⟩ []]
def xT: Tr:=.mk ⟨3,[120],0,0⟩ []
theorem zVH: aT.wf:=by simp[aT,Tr.wf,wfL]
theorem zVl: xT.wf:=by simp[xT,Tr.wf,wfL]
theorem aT_e: zNh [] aT=0:=by decide +kernel
theorem xT_e: zNh [] xT=140:=by decide +kernel
theorem d0: DtL []:=⟨by decide,fun d h=>(by cases h),fun d h=>(by cases h)⟩
theorem aT_r: Runs [] aT.fl:=⟨d0,by decide,aT,rfl,zVH,by decide +kernel,by decide +kernel⟩
theorem a10: Go.Ev.seen shwW (⟨aT.fl,[],10⟩:Rn).pg=⟨1,[⟨51,[],-7,0⟩],0,[[126,55]],3⟩:=by kernel_rfl
theorem a2: Go.Ev.seen shwW (⟨aT.fl,[],2⟩:Rn).pg=⟨3,[],0,[],2⟩:=by kernel_rfl
abbrev ndA(k:Int)(s:List UInt8)(n c:Int): D:=.agg [i64 k,str s,i64 n,i64 c]
abbrev aD: D:=.slice [ndA 6 [] 0 2,ndA 3 putX 0 0,ndA 1 [] (-7) 0]
attribute [local irreducible] zAK Program.underlying Ylds zA3 alex zBc zBL awp zAc zBd zBi zBD zBI zDI zBS zA5 zBT zBY zBe zBs zC7 zBN VCall
theorem zSI: zAc prog 21 [ndA 6 [] 0 0,.slice [.slice [ndA 3 putX 0 0],.slice [ndA 1 [] (-7) 0]]] aD :=
 zQi ⟨6,[],0,0⟩ [[⟨3,putX,0,0⟩],[⟨1,[],-7,0⟩]] (by decide) (by decide)
theorem zH9: zAc prog 12 [.slice [],aD] (i64 0):=by
 have:=zHw d0 aT zVH (by decide) (by decide +kernel)
 rw[aT_e]at this;exact this
theorem zOA: zAc prog 12 [.slice [],.slice [ndA 3 [120] 0 0]] (i64 140):=by
 have:=zHw d0 xT zVl (by decide) (by decide +kernel)
 rw[xT_e]at this;exact this
theorem zVJ: zAc prog 8 [.slice [],aD,i64 10] (.tup [.agg [i64 1,.slice [ndA 51 [] (-7) 0],i64 0,.slice [str [126,55]],i64 3],i64 0]):=by
 obtain⟨h1,h2⟩:=aT_r.ok 10 (by decide)
 have:=zJa h1 h2 zH9
 rw[a10]at this;exact this
theorem zV3: zAc prog 8 [.slice [],aD,i64 2] (.tup [.agg [i64 3,.slice [],i64 0,.slice [],i64 2],i64 0]):=by
 obtain⟨h1,h2⟩:=aT_r.ok 2 (by decide)
 have:=zJa h1 h2 zH9
 rw[a2]at this;exact this
theorem xRun: zAc prog 8 [.slice [],.slice [ndA 3 [120] 0 0],i64 9] (.tup [.agg [i64 0,.slice [],i64 0,.slice [],i64 0],i64 140]):=by
 have:=zJb [] xT.fl 9 140 (by decide) zOA
 exact this
theorem zPz: zAc prog 6 [] (bl true):=by
 have hM:=zSI
 have hC:=zH9
 have r1:=zVJ
 have r2:=zV3
 have r0:=xRun
 have hB:=zLx
 unfold zUU at hB
 have hl:((List.range 14).map sigD).length=14:=by rw[qAK,qA2]
 generalize (List.range 14).map sigD=bs at *
 have hl':(bs.length:Int)=14:=by omega
 clear hl
 refine zAX func6 rfl ntmps6 results6 rfl ?_
 intro wb St0
 repeat' first|(refine zLc (id:=6) ?_)|apply en_n|apply zAE|apply zAA|apply zAD|apply w0|(refine zAU zF7 r1 (zFE rfl (CoLA rfl)))|(refine zAU zF7 r2 (zFE rfl (CoLA rfl)))|(refine zAU zF7 r0 (zFE rfl (CoLA rfl)))|(refine zAU zPK hM (CoLA rfl))|(refine zAf (cs:=[i64 3,str putX,i64 0,i64 0]) zC5 zAx (PD_d rfl rfl (PD_d rfl rfl zA6)) rfl)|(refine zAf (cs:=[i64 3,str [120],i64 0,i64 0]) zC5 zAx (PD_d rfl rfl (PD_d rfl rfl zA6)) rfl)|(refine zAf (cs:=[i64 6,str [],i64 0,i64 0]) zC5 zAx (PD_d rfl rfl zA6) rfl)|(refine zAf (cs:=[i64 1,str [],i64 (-7),i64 0]) zC5 zAx (PD_d rfl rfl (PD_d rfl rfl zA6)) rfl)|(apply zAl;exact rfl;exact rfl;exact rfl;(with_reducible exact zBt);exact rfl;exact rfl;exact rfl;exact rfl)|(apply zBF (hd:=rfl) (hro:=rfl);(with_reducible exact zCb))|apply ay (hd:=rfl)|exact zAC rfl|exact zAB rfl|exact zAe rfl rfl|(apply zCi;(with_reducible exact zCf);(with_reducible exact zAa);(with_reducible exact zFU);exact rfl;exact rfl;(first|exact zAP rfl zAF|exact zEC rfl rfl rfl zAF|exact zFE rfl zAF);exact rfl)|(apply zQd;(with_reducible exact zEX);(with_reducible exact zBa);(with_reducible exact zFp);exact rfl;exact rfl;(first|exact zAP rfl (zAP rfl zAF)|exact zEC rfl rfl rfl (zEC rfl rfl rfl zAF));exact rfl)|(refine w0' ?_)
 all_goals refine Stop.go ?_
 refine zJd (s:=[(2,.d aD),(3,.ptr 0 0),(4,.d (i64 0)),(5,.ptr 1 0),(6,.d (i64 0)),(8,.d (i64 140))]) (h:=[.box [.d (i64 1),.d (.slice [ndA 51 [] (-7) 0]),.d (i64 0),.d (.slice [str [126,55]]),.d (i64 3)],.box [.d (i64 3),.d (.slice []),.d (i64 0),.d (.slice []),.d (i64 2)]]) (zAV (Le_all rfl) (zAT rfl rfl (zAT rfl rfl zAW)) rfl rfl) ?_
 skip
 exact yQ

import Derived.Test.YtcagoomibpcdlaaGreatDoorMAP
set_option maxHeartbeats 16000000
namespace Go.Proofs.YtcagoomibpcdlaaGreatDoor
open Go.Sx Go.Vm
open _root_.Go.Proofs.Tryz
section
attribute [local irreducible] zAL Program.underlying Ylds zA2 alex zBZ zBP awp zAb zBh zBg zAW zBF zAp zCO zBG zBR zAr zBV zBY zBe zCQ zBM zA8 zBE
theorem zac(m:Img)(r:Raw)(first:Nat)(off n:Nat)(hs:0<=r.size/\r.size<=1048576)(hn:r.now.length+1+n<=r.size)(hb:r.beg.length=r.size)(hl:off+n<=r.stk.length)(hst:r.stk.length<=1048576):
  zAW prog 132 [.ptr 1 0,.d (w64 first),.bsl 5 off n] (MX m r) (.d (.tup [w64 (2*r.now.length),bl true])) (MX m { r with now:=r.now++first::(r.stk.drop off).take n,beg:=r.beg.set r.now.length true }):=by
 have hL:=zL4 r.size r.now r.oth r.beg (by omega)
 have hN:=zL3 n (by omega)
 have hlt:¬r.size-(r.now.length:Int)<((n+1:Nat):Int):=by omega
 have e1:(r.now++first::(r.stk.drop off).take n).length=r.now.length+1+n:=by
  rw[qAE,qAN,qAG,qAd];omega
 have e2:w64s (r.now++first::(r.stk.drop off).take n)=(w64s r.now++[w64 first]).take (r.now.length + [w64 first].length)++((w64s r.stk).drop off).take n:=by
  have e0:(w64s r.now++[w64 first]).take (r.now.length+1)=w64s r.now++[w64 first]:=qAe (by simp[w64s])
  show _=(w64s r.now++[w64 first]).take (r.now.length+1)++_
  rw[e0]
  simp[w64s,List.map_drop,List.map_take]
 have e3:bls (r.beg.set r.now.length true)=(bls r.beg).set ((r.now.length:Nat):Int).toNat (D.val (Value.bool true)):=by
  rw[qAn,bls,bls,qBr]
 refine zPq func132 rfl ntmps132 results132 rfl ?_
 intro wb St0 X fx
 repeat' first|apply en_n|apply zAE|apply zAA|apply zAB|apply w0|(apply aApp (id:=2) (hd:=rfl) (hro:=rfl);exact rfl;exact rfl;exact zA0 rfl;exact(zAq r.now).symm;exact rfl;(with_reducible exact zCh);(with_reducible exact zBk);(with_reducible exact zGE);(with_reducible exact zEm);exact zCu rfl)|(apply zVr (id:=2) (id2:=5) (hd:=rfl) (hro:=rfl);exact rfl;exact rfl;(show r.now.length+1<=_;rw[qAE,zAq];exact qAP _);(intro c;cases c);exact rfl;exact rfl;(rw[zAq];omega);(with_reducible exact zCh);(with_reducible exact zBk);(with_reducible exact zGE);(with_reducible exact zEm);exact zIp r.stk)|exact qcA [1,2,3,4] [] zF9 (hL)|exact ycA zFc hN|exact zIZ rfl|exact zH8 rfl zDF|(apply zBQ;exact rfl;exact rfl;exact rfl;(with_reducible exact zII);omega;(rw[zHd];omega))|(refine zH6 rfl rfl rfl zAm rfl rfl ?_ rfl ?_)|(apply zPH;exact rfl;exact rfl;exact(by decide))|refine ayA rfl ?_|refine ayQ rfl ?_|refine ayW rfl ?_|refine ayL rfl ?_|apply ay (hd:=rfl)|(refine w0' ?_)|refine aStA ?_|refine zAI rfl ?_|apply zAP|apply zAM
 all_goals first|omega|(rw[zHd];omega)|(simp only[qAN,qAj];omega)|skip
 exact zIQ (zBu (RV_d rfl (RV_d rfl zA5 rfl) (zKn (by rw[show (2:Int) ^ min (1:Int).toNat IntKind.u64.bits=2 by decide,zEU,zEU];omega))))
   (zAU Le_nil (zFl rfl rfl rfl rfl rfl rfl rfl (e1.trans rfl) (qAZ ..) (congrArg (Ob.buf true _ 1) e2) rfl (congrArg (Ob.buf true _ 1) e3) (zBs rfl) (zBs rfl) (zBs rfl) rfl) rfl rfl)
theorem zWG(m:Img)(r:Raw)(o:Thing)(ho:HeadOk o)(hk:o.kind<=3)(off:Nat)(hs:0<=r.size/\r.size<=1048576)(hn:r.now.length+1+o.size<=r.size)(hm:o.size<=4000)(hb:r.beg.length=r.size)(hl:off+o.size<=r.stk.length)(hst:r.stk.length<=1048576)
  (hv:∀i x,i<o.size->r.stk[off+i]?=some x->zAp prog 131 [.ptr 0 0,.d (w64 x)] (HO r.size r.now r.oth r.beg) (bl true)) :
  zAW prog 78 [.ptr 1 0,.d (i64 o.kind),.d (i64 o.tag),.bsl 5 off o.size] (MX m r) (.d (.tup [w64 (2*r.now.length),bl true])) (MX m { r with now:=r.now++zDM o::(r.stk.drop off).take o.size,beg:=r.beg.set r.now.length true }):=by
 have hP:=zac m r (zDM o) off o.size hs hn hb hl hst
 have hH:=zU0 o ho
 have hkd:=ho.kind
 have htg:=ho.tag
 have g1:¬o.kind<1:=by omega
 have g2:¬o.kind>3:=by omega
 have g3:¬o.tag<0:=by omega
 have g4:¬o.tag>1048576:=by omega
 have g5:¬(o.size:Int)>4096:=by omega
 refine zPq func78 rfl ntmps78 results78 rfl ?_
 intro wb St0 X fx
 repeat' first|apply en_n|apply zAE|apply zAA|apply zAB|apply w0|exact zIZ rfl|exact zH8 rfl zDF|refine ayA rfl ?_|refine ayQ rfl ?_|apply ay (hd:=rfl)|refine w1 rfl rfl ?_|refine zAI rfl ?_|apply zAO|apply zAP
 refine zBA (α:=Nat) (fun i=>i<=o.size) (fun i=>[(0,.ptr 1 0),(1,.d (i64 o.kind)),(2,.d (i64 o.tag)),(3,.bsl 5 off o.size),(31,.bsl 5 off o.size),(32,.d (i64 (o.size:Int))),(33,.d (i64 (i:Int)))]) (fun _=>MA fx m r) (fun i=>o.size-i) 0 (qAQ _)
  (zAU (Le_cons rfl (Le_cons rfl (Le_cons rfl (Le_cons rfl (Le_cons rfl (Le_cons rfl (Le_d rfl rfl Le_nil))))))) (zA4 _) rfl rfl) ?_
 intro i hi
 rcases qAR i o.size with hlt|hge
 ·obtain⟨x,hx⟩:∃x,r.stk[off+i]?=some x:=⟨_,qAB (by omega)⟩
  have hvx:=hv i x hlt hx
  have hx2:(w64s r.stk)[off+((i:Nat):Int).toNat]?=some (w64 x):=by rw[qAn];exact zEI hx
  have hli:(i:Int)<(o.size:Int):=by omega
  clear hv hP
  skip
  repeat' first|apply en_n|apply zAE|apply zAA|apply zAB|apply w0|(apply zQK;exact rfl;exact rfl;exact rfl;(with_reducible exact zBk);omega;(rw[zAq];omega))|exact zCT rfl zBj rfl hx2 rfl|exact qcA [1,2,3,4] [] zLc (hvx)|refine ayA rfl ?_|refine ayQ rfl ?_|apply ay (hd:=rfl)|refine zBp rfl rfl ?_|refine zAJ rfl ?_|refine zAI rfl ?_|apply zAO|apply zAP|apply eb_n
  all_goals first|omega|skip
  all_goals exact⟨i+1,by omega,by omega,zAU (Le_all rfl) (zA4 _) rfl rfl⟩
 ·have hli:¬(i:Int)<(o.size:Int):=by omega
  clear hv
  skip
  repeat' first|apply en_n|apply zAE|apply zAA|apply zAB|apply w0|exact zIZ rfl|exact zH8 rfl zDF|exact ycA zKB hH|(refine aVMA zOn (hP) ?_)|refine ayA rfl ?_|refine ayQ rfl ?_|apply ay (hd:=rfl)|refine zAI rfl ?_|apply zAM|apply zBH|apply en_e|apply eb_e
  all_goals first|omega|skip
  all_goals exact zQ3 rfl (zBu (RV_d rfl (RV_d rfl zA5 rfl) rfl))
end
section
theorem zUn{P:Program}{f:FuncId}{avs:List SV}{pre:List Ob}{res:D}(h:zAp P f avs pre res): zAW P f avs pre (.d res) pre:=by
 intro g w vs hi hr
 refine(h g w vs hi hr).mono fun e w' ⟨v,St',he,hrep,hbel,hkeep,hnew,hlt⟩=>?_
 have hg:Grow g w { g with St:=St' } w':=⟨rfl,rfl,rfl,rfl,hbel.os,hbel.tape,hbel.output,hbel.size,hbel.block,hkeep.sub,hnew,hlt⟩
 refine⟨v,{ g with St:=St' },he,hi.grow hg,hrep,⟨hbel.os,hbel.tape,hbel.output,hbel.size,fun k hk _=>hbel.block k hk,hkeep,fun b o hb=>?_,fun j b hb=>.inr ⟨j,hb⟩,fun _ _ _ _=>rfl⟩⟩
 rcases hnew b o hb with h1|h1
 ·exact .inl h1
 ·exact .inr (.inl h1)
attribute [local irreducible] zAL Program.underlying Ylds zA2 alex zBZ zBP awp zAb zBh zBg zAW zBF zAp zCO zBG zBR zAr zBV zBY zBe zCQ zBM zA8 zBE
theorem zSq(m:Img)(r:Raw)(o:Thing)(hl:r.stk.length<=1048576)(hz:o.size<=4000)(h:(r.stk.length:Int)+(1-(o.size:Int))>4000): zAW prog 46 [.ptr 0 0,.d (i64 o.kind),.d (i64 o.tag),.d (i64 (o.size:Int))] (MX m r) .top (MX m { r with fin:=6 }):=by
 have hH:=zKZ m r (k:=1-(o.size:Int)) hl (by omega) h
 refine zBr func46 rfl ntmps46 results46 rfl ?_
 intro wb St0 X fx
 exact yU
theorem zSp(m:Img)(r r':Raw)(o:Thing)(hl:r.stk.length<=1048576)(hz:o.size<=4000)(h:¬(r.stk.length:Int)+(1-(o.size:Int))>4000)(hR:zAW prog 76 [.ptr 0 0,.d (i64 ((o.size+1:Nat):Int))] (MX m r) (.d (bl false)) (MX m r')): zAW prog 46 [.ptr 0 0,.d (i64 o.kind),.d (i64 o.tag),.d (i64 (o.size:Int))] (MX m r) .top (MX m r'):=by
 have hH:=zJ0 m r (k:=1-(o.size:Int)) hl (by omega) h
 have hN:=zL3 o.size (by omega)
 refine zBr func46 rfl ntmps46 results46 rfl ?_
 intro wb St0 X fx
 exact yU
theorem zVY(m:Img)(r r':Raw)(o:Thing)(ho:HeadOk o)(hk:o.kind<=3)(hl:r.stk.length<=1048576)(hz:o.size<=4000)(h:¬(r.stk.length:Int)+(1-(o.size:Int))>4000)(hR:zAW prog 76 [.ptr 0 0,.d (i64 ((o.size+1:Nat):Int))] (MX m r) (.d (bl true)) (MX m r'))
  (hs:0<=r'.size/\r'.size<=1048576) (hn:r'.now.length+1+o.size<=r'.size) (hb:r'.beg.length=r'.size) (hl':r'.stk.length<=1048576) (hn2:o.size<=r'.stk.length) (hv:∀i x,i<o.size->r'.stk[r'.stk.length-o.size+i]?=some x->zAp prog 131 [.ptr 0 0,.d (w64 x)] (HO r'.size r'.now r'.oth r'.beg) (bl true)) :
  zAW prog 46 [.ptr 0 0,.d (i64 o.kind),.d (i64 o.tag),.d (i64 (o.size:Int))] (MX m r) .top (MX m { r' with now:=r'.now++zDM o::r'.stk.drop (r'.stk.length-o.size),beg:=r'.beg.set r'.now.length true,stk:=r'.stk.take (r'.stk.length-o.size)++[2*r'.now.length] }):=by
 have hH:=zJ0 m r (k:=1-(o.size:Int)) hl (by omega) h
 have hN:=zL3 o.size (by omega)
 have hA:=zWG m r' o ho hk (r'.stk.length-o.size) hs hn hz hb (by omega) hl' hv
 rw[qAe (by rw[qAd];omega)]at hA
 have hA2:zAW prog 78 [.ptr 1 0,.d (i64 o.kind),.d (i64 o.tag),.bsl 5 ((r'.stk.length:Int)-(o.size:Int)).toNat (r'.stk.length-((r'.stk.length:Int)-(o.size:Int)).toNat)] (MX m r') (.d (.tup [w64 (2*r'.now.length),bl true])) (MX m { r' with now:=r'.now++zDM o::r'.stk.drop (r'.stk.length-o.size),beg:=r'.beg.set r'.now.length true }):=by
  rw[show r'.stk.length-((r'.stk.length:Int)-(o.size:Int)).toNat=o.size by omega,show ((r'.stk.length:Int)-(o.size:Int)).toNat=r'.stk.length-o.size by omega]
  exact hA
 have hB:=zGA m { r' with now:=r'.now++zDM o::r'.stk.drop (r'.stk.length-o.size),beg:=r'.beg.set r'.now.length true } (n:=o.size) (w:=2*r'.now.length) hl' hn2
 clear hA hv
 refine zBr func46 rfl ntmps46 results46 rfl ?_
 intro wb St0 X fx
 exact yM
theorem zTU(m:Img)(r:Raw)(s:List UInt8)(n:Nat)(hl:r.stk.length<=1048576)(hz:n<=4000)(h:(r.stk.length:Int)+(1-(n:Int))>4000): zAW prog 75 [.ptr 0 0,.d (str s),.d (i64 (n:Int))] (MX m r) .top (MX m { r with fin:=6 }):=by
 have hH:=zKZ m r (k:=1-(n:Int)) hl (by omega) h
 refine zBr func75 rfl ntmps75 results75 rfl ?_
 intro wb St0 X fx
 exact yU
theorem zTT(m:Img)(r r':Raw)(s:List UInt8)(hs:s.length<=200)(n:Nat)(hl:r.stk.length<=1048576)(hz:n<=4000)(h:¬(r.stk.length:Int)+(1-(n:Int))>4000)(hR:zAW prog 76 [.ptr 0 0,.d (i64 (((s.length+7) / 8+1:Nat):Int))] (MX m r) (.d (bl false)) (MX m r')): zAW prog 75 [.ptr 0 0,.d (str s),.d (i64 (n:Int))] (MX m r) .top (MX m r'):=by
 have hH:=zJ0 m r (k:=1-(n:Int)) hl (by omega) h
 have hN:=zI8 s (by omega)
 refine zBr func75 rfl ntmps75 results75 rfl ?_
 intro wb St0 X fx
 exact yU
theorem zWk(m:Img)(r r':Raw)(s:List UInt8)(hsl:s.length<=200)(n:Nat)(hl:r.stk.length<=1048576)(hz:n<=4000)(h:¬(r.stk.length:Int)+(1-(n:Int))>4000)(hR:zAW prog 76 [.ptr 0 0,.d (i64 (((s.length+7) / 8+1:Nat):Int))] (MX m r) (.d (bl true)) (MX m r'))
  (hs:0<=r'.size/\r'.size<=1048576) (hn:r'.now.length+(zB6 s).need<=r'.size) (hb:r'.beg.length=r'.size) (hl':r'.stk.length<=1048576) (hn2:n<=r'.stk.length) :
  zAW prog 75 [.ptr 0 0,.d (str s),.d (i64 (n:Int))] (MX m r) .top (MX m { r' with now:=r'.now++zDM (zB6 s)::zGr (zB6 s).size s,beg:=r'.beg.set r'.now.length true,stk:=r'.stk.take (r'.stk.length-n)++[2*r'.now.length] }):=by
 have hH:=zJ0 m r (k:=1-(n:Int)) hl (by omega) h
 have hN:=zI8 s (by omega)
 have hA:=zPU r'.size r'.now r'.oth r'.beg s hsl hs hn hb
 have hB:=zGA m { r' with now:=r'.now++zDM (zB6 s)::zGr (zB6 s).size s,beg:=r'.beg.set r'.now.length true } (n:=n) (w:=2*r'.now.length) hl' hn2
 refine zBr func75 rfl ntmps75 results75 rfl ?_
 intro wb St0 X fx
 repeat' first|(refine zGk (id:=2) (s:=[(0,.ptr 0 0),(2,.d (i64 (n:Int))),(6,.d (w64 (2*r'.now.length)))]) (h:=MA fx m { r' with now:=r'.now++zDM (zB6 s)::zGr (zB6 s).size s,beg:=r'.beg.set r'.now.length true }) (zAU (Le_all rfl) (zJj rfl rfl rfl rfl rfl rfl (zBs rfl) (zBs rfl) (zBs rfl) rfl) rfl rfl) ?_)|apply en_n|apply zAE|apply zAA|apply zAB|apply w0|exact qcA [0,1,2,3,4,5,6,7,8] [] zDu (hH)|exact ycA zFj hN|(refine aVMA zIU (hR) ?_)|(refine zHi [1,2,3,4] zLd (hA) (SArgs_all rfl) rfl rfl (by decide) rfl rfl rfl rfl rfl rfl ?_)|(refine aVMA zEt (hB) ?_)|refine ayA rfl ?_|apply ay (hd:=rfl)|refine zCe rfl rfl ?_|refine w1 rfl rfl ?_|refine zAI rfl ?_|apply zAP
 all_goals first|omega|skip
 all_goals exact zE5 rfl

import Derived.Test.YtcagoomibpcdlaaGreatDoorMBB
set_option maxHeartbeats 16000000
namespace Go.Proofs.YtcagoomibpcdlaaGreatDoor
section
open _root_.Go.Proofs.Tryz
open Go.Sx Go.Vm
theorem zWH: zKH prog 151=some (vD ⟨0,0,[]⟩ false):=by kernel_rfl
abbrev idsK: List Nat:=[3,1,2,4]
def KA(m:Img)(c:CK): List Ob :=
 [.gone,.buf true 151 4 (c.at_.map enCS),.map none (kvs cki (hasD c.has)),
  .box [.d (.slice (m.pool.map enCn)),.d (.slice (m.code.map enIn)),.buf 1 c.at_.length,.mp 2,.buf 4 c.work.length,.d (bl c.bad)],.buf true 3 1 (c.work.map ival)]
theorem zd8(m:Img)(c c':CK): zD6 (zFT (zB2 idsK (CX m c)) idsK (KA m c)) idsK ((CX m c').map (Ob.ren idsK))=KA m c':=rfl
theorem zYi(m:Img)(c:CK): Picks (KA m c) idsK (CX m c):=rfl
theorem zbB: idsK.Nodup:=by decide
theorem zRt(m:Img)(c:CK): (KA m c).all (Ob.below (KA m c).length)=true:=rfl
theorem zbx{k:Option Nat}{l:List (Value×D)}: WOb (.map none l) (.map k l):=fun g w id h=>by
 obtain⟨b,es,ck,h1,h2,h3,h4,h5,h6,h7⟩:=h
 exact⟨b,es,ck,h1,h2,h3,h4,h5,(fun c hc=>by cases hc),h7⟩
attribute [local irreducible] zAL Program.underlying Ylds zA2 alex zBZ zBP awp zAb zBh zBg zAW zBF zAp zCO zBG zBR zAr zBV zBY zBe zCQ zBM zA8 zBE JFit
section
variable {N d:Nat}{w0:World}{St0:Stab}{X:Nat->Prop}{ops:Array Oper}{rest:List Oper}{K:Sl->List Ob->Prop}{σ:Sl}{ty:TypeId}{pos:String}{after:Array Edge}{gd:Option (Nat×Bool)}{f:FuncId}{args:List Operand}{ts:Array TypeId}{avs:List SV}{m:Img}{r r':CK}{res:SV}{η:List Ob}
theorem aKA(he:η=KA m r)(hb:zAL prog f=true)(hc:zAW prog f avs (CX m r) res (CX m r'))(ha:SArgs σ idsK args avs)(hd:Nat.blt d N=true)(hba:avs.all (SV.bel 4)=true)
  (h:alex ⟨prog,N,w0,St0,X,0⟩ false ops rest K ((d,res.ren idsK)::zEl (zB2 idsK (CX m r)) idsK σ) (KA m r')) :
  zA2 ⟨prog,N,w0,St0,X,0⟩ false ops ⟨some d,.call ⟨.value (.func f),args.toArray,ts⟩,ty,pos,after,gd⟩ rest K σ η:=by
 subst he
 have hh:=(congrArg (alex ⟨prog,N,w0,St0,X,0⟩ false ops rest K ((d,res.ren idsK)::zEl (zB2 idsK (CX m r)) idsK σ)) (zd8 m r r')).mpr h
 refine zHi (C:=⟨prog,N,w0,St0,X,0⟩) (η:=KA m r) idsK hb hc ha (zYi m r) hd zbB ?_ ?_ ?_ hba ?_ ?_ hh
 ·rfl
 ·rfl
 ·rfl
 ·rfl
 ·rfl
end
theorem zY7(m:Img): CB (ck0 m):=⟨fun q x hq=>absurd hq zO1,qAQ _,fun f=>by show (0:Int)<=_;decide⟩
theorem zYE(m:Img)(him:ImgOk m)(T:CK)(hT:T=ckT conF m): zAb prog 36 [zCs m] (.tup [.slice (T.at_.map enCS),bl (!T.bad)]):=by
 have hcl:=him.code
 obtain⟨us,hus⟩:=zXf (P:=prog) (n:=m.code.length) zTL zKO zWH rfl rfl zWX ⟨by omega,by omega⟩
 have hC:=zVP him (zQB m) (zY7 m) (qBO 0) ⟨-1,0,[]⟩
 refine zB0 func36 rfl ntmps36 results36 rfl ?_
 intro wb St0
 unfold zCs
 repeat' first|(refine zCi (id:=1) ?_)|apply en_n|apply zAE|apply zAA|apply zAB|apply w0|refine aBoA ?_|refine ayA rfl ?_
 refine Stop.go ?_
 refine zAE ?_
 refine zSt [.y (.d (.agg [.slice (m.pool.map enCn),.slice (m.code.map enIn)])),.y (.ptr 0 (0+1)),.y (.d (.slice (m.code.map enIn))),.y (.d (i64 (m.code.length:Int))),.mk (zdV 10 151 m.code.length (vD ⟨0,0,[]⟩ false) us),.mk (zbU 11)] (by kernel_rfl) (by kernel_rfl) (.inr (by kernel_rfl)) ?_ ?_
 ·exact⟨⟨⟨rfl,zAT rfl zC7 rfl rfl rfl⟩,rfl⟩,⟨⟨rfl,zAF rfl zC4⟩,rfl⟩,⟨⟨rfl,zAG rfl zDz rfl rfl⟩,rfl⟩,⟨⟨rfl,zAn rfl zEQ⟩,rfl⟩,⟨⟨hus _ _ _ _ _ _ _ _ _ _ rfl rfl,rfl,rfl,by kernel_rfl⟩,rfl⟩,⟨⟨zXg,rfl,rfl,by kernel_rfl⟩,rfl⟩,trivial⟩
 intro bs hbs
 rcases bs with _|⟨b1,_|⟨b2,_|⟨b3,q⟩⟩⟩
 ·simp[pnF]at hbs
 ·simp[pnF]at hbs
 ·skip
  repeat' first|(refine zCi (id:=2) ?_)|apply en_n|apply zAB|apply w0|(refine zYb (cs:=[.slice (m.pool.map enCn),.slice (m.code.map enIn),.val (.slice (some ⟨b1,0,none⟩) m.code.length m.code.length),.val (.map (some b2)),.val (.slice none 0 0),.val (.bool false)]) zWT zWN (PD_d rfl rfl (PD_d rfl rfl (PD_d rfl rfl zCI))) rfl)|(refine zCJ (by kernel_rfl) ?_;apply aBox;exact rfl;exact rfl;exact rfl;exact rfl)|refine ayA rfl ?_|apply ay (hd:=rfl)
  refine Stop.go ?_
  refine zPA 1 3 2 m.code.length m.code.length 4 b1 (xs:=List.replicate m.code.length (vD ⟨0,0,[]⟩ false)) rfl rfl rfl rfl rfl (qAp ..) (by simp only[maxLen];omega) (fun d hd=>by rw[List.eq_of_mem_replicate hd];rfl) ?_
  refine zSv 2 3 3 b2 rfl rfl rfl ?_
  refine zQE 3 4 true 3 1 rfl rfl rfl ?_
  refine zBW (s:=[(4,.ptr 3 0)]) (h:=KA m (ck0 m)) ?_ ?_
  ·refine zAU (Le_all rfl) (zDV rfl (zAK rfl (congrArg (Ob.buf true _ 4) ?_) (zD5 rfl zbx (zD5 (o:=.box _) rfl ?_ (zAK rfl rfl zAe))))) rfl (zRt m _)
   ·exact qBU
   ·have e:(ck0 m).at_.length=m.code.length:=qAp ..
    rw[e]
    exact zMd
  have h1c:CB (ck1 m):=(zNV (zY7 m) (k:=0) (s:=⟨-1,0,[]⟩) (by show (0:Int)<=_;omega) (qAQ _)).1
  repeat' first|apply en_n|apply zAE|apply zAA|apply zAB|apply w0|(refine zBI (cs:=[i64 (-1),i64 0,zBU [],bl false]) zID zFt (PD_d rfl rfl zCI) rfl)|(refine aKA rfl zHB hC (SArgs_all rfl) rfl rfl ?_)|refine ayA rfl ?_|apply ay (hd:=rfl)|apply zAO
  all_goals first|omega|skip
  refine zBA (α:=CK) (fun c=>CRun conF m T c/\CB c) (fun _=>[(4,.ptr 3 0)]) (fun c=>KA m c) (fun c=>c.mu) (ck1 m) ⟨hT▸zVT conF m,h1c⟩ (zAU (Le_all rfl) (zA4 _) rfl (zRt m _)) ?_
  rintro⟨A,H,W,B⟩ ⟨hR,hB⟩
  have hwl:=hB.wrk
  have hcn:=zMY ⟨A,H,W,B⟩
  have hln:=hR.inv.len
  cases B with
  |true =>
   have hTc:=hR.done (.inl rfl)
   subst hTc
   by_cases hw:W=[]
   ·have hlen:¬(W.length:Int)>0:=by rw[hw];simp
    skip
    repeat' first|(refine zCi (id:=7) ?_)|apply en_n|apply zAE|apply zAA|apply zAB|apply w0|(apply zAG;exact rfl;(first|with_reducible exact zB1|with_reducible exact zAm|with_reducible exact zFO);exact rfl;exact rfl)|refine k1u (hd:=rfl) rfl rfl ?_|refine ayA rfl ?_|refine ayQ rfl ?_|apply ay (hd:=rfl)|refine zAI rfl ?_|apply zBH|apply en_e|apply eb_e
    all_goals refine Stop.go ?_
    refine zCm 1 (mu:=true) rfl rfl ?_
    exact yU
   ·have hpos:0<W.length:=qA3.2 hw
    have hlen:(W.length:Int)>0:=by omega
    skip
    repeat' first|(refine zCi (id:=7) ?_)|apply en_n|apply zAE|apply zAA|apply zAB|apply w0|(apply zAG;exact rfl;(first|with_reducible exact zB1|with_reducible exact zAm|with_reducible exact zFO);exact rfl;exact rfl)|refine ayA rfl ?_|refine ayQ rfl ?_|apply ay (hd:=rfl)|refine w1 rfl rfl ?_|refine zAI rfl ?_|apply zBH|apply en_e|apply eb_e
    all_goals refine Stop.go ?_
    refine zCm 1 (mu:=true) rfl rfl ?_
    exact yU
  |false =>
   by_cases hw:W=[]
   ·have hTc:=hR.done (.inr hw)
    subst hTc
    have hlen:¬(W.length:Int)>0:=by rw[hw];simp
    skip
    repeat' first|(refine zCi (id:=7) ?_)|apply en_n|apply zAE|apply zAA|apply zAB|apply w0|(apply zAG;exact rfl;(first|with_reducible exact zB1|with_reducible exact zAm|with_reducible exact zFO);exact rfl;exact rfl)|refine k1u (hd:=rfl) rfl rfl ?_|refine ayA rfl ?_|refine ayQ rfl ?_|apply ay (hd:=rfl)|refine zAI rfl ?_|apply zBH|apply en_e|apply eb_e
    all_goals refine Stop.go ?_
    refine zCm 1 (mu:=true) rfl rfl ?_
    exact yU
   ·obtain⟨k,s,hwk,hk0,hkl,hat,hci,hRn,hmu⟩:=hR.next him rfl hw
    have hpos:0<W.length:=qA3.2 hw
    have hD:=do_m him hci (zUL hB) hk0 hat
    have hlen:(W.length:Int)>0:=by omega
    have en:((W.length:Int)-1).toNat=W.length-1:=by omega
    have hlast:(W.map ival)[((W.length:Int)-1).toNat]?=some (i64 k):=by
     rw[en,qAH,<-qBG]
     have h2:W=W.dropLast++[k]:=hwk
     rw[h2,List.getLast?_append]
     rfl
    have hcd:=zer (con:=conF) him (zUL hB) hk0 hkl hat
    have hr1:0<=(W.length:Int)-1/\(W.length:Int)-1<(W.length:Int):=by omega
    have hr2:0<=(W.length:Int)-1/\(W.length:Int)-1<=(W.length:Int):=by omega
    have edl:W.dropLast.length=((W.length:Int)-1).toNat:=by rw[qAy,en]
    have hbx:Ob.box [.d (.slice (m.pool.map enCn)),.d (.slice (m.code.map enIn)),.buf 1 A.length,.mp 2,.buf 4 W.dropLast.length,.d (bl false)]=Ob.box [.d (.slice (m.pool.map enCn)),.d (.slice (m.code.map enIn)),.buf 1 A.length,.mp 2,.buf 4 ((W.length:Int)-1).toNat,.d (bl false)]:=by rw[edl]
    have hcut:WOb (Ob.buf true 3 1 (W.dropLast.map ival)) (Ob.buf true 3 1 (W.map ival)):=by
     rw[qBF,qBh]
     exact zL0 _ _
    repeat' first|(refine zGk (id:=6) (s:=[(4,.ptr 3 0),(5,.d (i64 k))]) (h:=KA m (CK.popd ⟨A,H,W,false⟩)) (zAU (Le_all rfl) (zDV rfl (zAK rfl rfl (zAK rfl rfl (zAK rfl hbx (zD5 rfl hcut zAe))))) rfl (zRt m _)) ?_)|apply en_n|apply zAE|apply zAA|apply zAB|apply w0|(apply zAG;exact rfl;(first|with_reducible exact zB1|with_reducible exact zAm|with_reducible exact zFO);exact rfl;exact rfl)|exact zBQ rfl rfl rfl zBf hr1 (qA2 (qAC _).symm)|exact zCT rfl zAY rfl hlast rfl|(apply zHH;exact rfl;exact(by rw[zBf];rfl);exact rfl;exact hr2;exact⟨_,_,_,_,rfl,qA2 (qAC _).symm⟩)|(refine zCJ (by kernel_rfl) ?_;refine aStA ?_)|(refine aKA rfl zXu hD (SArgs_all rfl) rfl rfl ?_)|refine ayA rfl ?_|refine ayQ rfl ?_|apply ay (hd:=rfl)|refine zCe rfl rfl ?_|refine w1 rfl rfl ?_|(refine w0' ?_)|refine zAJ rfl ?_|apply zAO|apply zAP|refine awDA ?_|apply eb_n
    all_goals first|omega|(rw[qAC];omega)|skip
    exact⟨_,⟨hRn,hcd⟩,hmu,zAU (Le_all rfl) (zA4 _) rfl (zRt m _)⟩
 ·simp[pnF]at hbs
end
section
open _root_.Go.Proofs.Tryz
open Go.Sx Go.Vm
def valN(m:Img)(T:St): List Nn:=if T.fin=1/\(zEr m T.all (T.top 0)).length<=4000 then zEr m T.all (T.top 0)else[]
attribute [local irreducible] zAL Program.underlying Ylds zA2 alex zBZ zBP awp zAb zBh zBg zAW zBF zAp zCO zBG zBR zAr zBV zBY zBe zCQ zBM zA8 zBE
theorem zd2{con:List UInt8->Bool}{m:Img}{A:Nat->Option VS}(hg:Go.Vm.Good con m A)(hi:ImgOk m)(words fuel:Nat)(hw:16<=words/\words<=1048576)(hfu:fuel<=100000)(hV:zAb prog 18 [zCs m] (i64 0))(T:St)(hT0:T=runS shw m fuel (Go.Vm.start words)):
  zAb prog 10 [zCs m,i64 (words:Int),i64 (fuel:Int)] (.tup [zIt T.fin (valN m T) T.num T.out T.steps,i64 0]):=by
 have hN:=zZP words hw
 have hNum:=zRq [] [] 0
 have hn1:¬(fuel:Int)<0:=by omega
 have hn2:¬(fuel:Int)>100000:=by omega
 refine zB0 func10 rfl ntmps10 results10 rfl ?_
 intro wb St0
 unfold zCs at *
 repeat' first|(apply zVq;(with_reducible exact zWW);(with_reducible exact zWP);exact zV5 rfl (zV5 rfl zd6);exact rfl;exact rfl;exact rfl;exact rfl)|apply en_n|apply zAE|apply zAA|apply zAB|apply w0|exact zLy rfl|exact zZL rfl|exact zZK rfl|exact ycA zEi hV|(refine zPF [] zI3 hN (SArgs_all rfl) rfl rfl (by decide) rfl rfl rfl rfl rfl rfl ?_)|exact ycA zHY hNum|refine aBoA ?_|refine aAlA ?_|refine ayA rfl ?_|refine ayQ rfl ?_|apply ay (hd:=rfl)|refine w1 rfl rfl ?_|(refine w0' ?_)|refine aStA ?_|refine zAI rfl ?_|apply zAO|apply zAP
 all_goals first|omega|skip
 refine zGl 6 3 true 58 1 rfl rfl rfl ?_
 refine zGl 6 7 true 60 3 rfl rfl rfl ?_
 refine zGl 6 8 true 114 5 rfl rfl rfl ?_
 refine zGl 6 12 true 9 1 rfl rfl rfl ?_
 refine zBA (α:=St×List Nat×Nat) (fun x=>Run con m A (words:Int) fuel T shw x.1 x.2.2) (fun _=>[(2,.d (i64 (fuel:Int))),(6,.ptr 1 0),(11,.ptr 6 0)]) (fun x=>RA sb0 m (rawS x.1 x.2.1)) (fun x=>fuel-x.2.2) (Go.Vm.start words,[],0) ?_ ?_ ?_
 ·rw[hT0];exact Run.begin_ hg hi (by omega)
 ·exact zAU (Le_all rfl) (zDV rfl (zD5 rfl zMd (zD5 rfl zMd (zAK rfl rfl (zAK rfl rfl (zAK rfl rfl (zD5 rfl zMd (zAK rfl rfl (zAK rfl rfl (zAK rfl rfl (zAK rfl rfl zAe))))))))))) rfl (zJi m _)
 rintro⟨s,oth,k⟩ hR
 dsimp only at hR ⊢
 have hst:=hR.steps
 have hkl:=hR.le
 by_cases h0:s.fin=0
 ·by_cases hk:k<fuel
  ·obtain⟨hm,hn⟩:=hR.next h0 hk
   obtain⟨oth',hS⟩:=zcT hm ⟨by show 0<=s.words;rw[hR.words];omega,by show s.words<=_;rw[hR.words];omega,by have:=hR.tr;show s.tries.length<=_;omega,by have:=hR.out;show s.out.length<=_;omega⟩ oth
   generalize Go.Vm.step shw m { s with steps:=s.steps+1 }=s2 at hn hS
   have hS':zAW prog 22 [.ptr 0 0] (MX m { rawS s oth with steps:=(rawS s oth).steps+1 }) .top (MX m (rawS s2 oth')):=hS
   have g0:(rawS s oth).fin=0:=h0
   have g1':(rawS s oth).steps=k:=hst
   clear hS
   generalize rawS s oth=r at *
   have hkk:¬r.steps=(fuel:Int):=by omega
   repeat' first|(refine zGk (id:=15) (s:=[(2,.d (i64 (fuel:Int))),(6,.ptr 1 0),(11,.ptr 6 0)]) (h:=RA sb0 m { r with steps:=r.steps+1 }) (zAU (Le_all rfl) (zA4 _) rfl (zJi m _)) ?_)|apply en_n|apply zAE|apply zAA|apply zAB|apply w0|(refine aVMx rfl zSf hS' (SArgs_all rfl) rfl rfl ?_)|refine ayA rfl ?_|refine ayQ rfl ?_|apply ay (hd:=rfl)|refine zBp rfl rfl ?_|(refine w0' ?_)|refine aStA ?_|refine zAJ rfl ?_|refine zAI rfl ?_|apply zAO|apply zAP|apply eb_n
   all_goals first|omega|skip
   exact⟨(s2,oth',k+1),hn,by dsimp only;omega,zAU (Le_all rfl) (zA4 _) rfl (zJi m _)⟩
  ·have hTs:=hR.out_ h0 hk
   have hTres:Res con m A T:=by rw[hTs];exact .stop hR.res.lay (by decide) (by decide)
   have hTw:T.words=words:=by rw[hTs];exact hR.words
   have hTstk:T.stack.length<=1048576:=by rw[hTs];have:=hR.stk;show s.stack.length<=_;omega
   have hSt:=zFv m (rawS s oth) 3
   have hrw:{ rawS s oth with fin:=3 }=rawS T oth:=by rw[hTs];rfl
   rw[hrw]at hSt
   have g0:(rawS s oth).fin=0:=h0
   have hkk:(rawS s oth).steps=(fuel:Int):=by have:(rawS s oth).steps=s.steps:=rfl;omega
   clear hR hTs hrw hst
   generalize rawS s oth=r0 at *
   repeat' first|(refine zNy (id:=16) ?_)|apply en_n|apply zAE|apply zAA|apply zAB|apply w0|(refine aVMx rfl zDt hSt (SArgs_all rfl) rfl rfl ?_)|refine ayA rfl ?_|refine ayQ rfl ?_|refine zAJ rfl ?_|apply zAO|apply zAP|apply zBH|apply en_e|apply eb_e|refine eb_o rfl ?_
   all_goals first|omega|skip
   have hTl:T.stack.length<=1048576:=hTstk
   by_cases hf1:T.fin=1
   ·have hne:=hTres.val hf1
    have hpos:0<T.stack.length:=qA3.2 hne
    have hv0:Val T (T.top 0):=hTres.lay.stack (top_mem hpos)
    have hT:=zCH m (rawS T oth) (k:=0) (by rw[zBd];exact hpos) (zGK T oth hpos) (by rw[zBd];exact hTl)
    have hlen:=zK8 m T.all (rkR (T.top 0)+1) [] (T.top 0) (qAQ _)
    have hSh0:=zTn hTres.lay hi (by rw[hTw];omega) oth (rkR (T.top 0)+1) [] (T.top 0) (Nat.lt_succ_self _) hv0 (qAQ _)
    change (zEr m T.all (T.top 0)).length<=4001 at hlen
    change zJh m (rawS T oth) [] (zEr m T.all (T.top 0)) _ at hSh0
    have hvl:valN m T=if(zEr m T.all (T.top 0)).length<=4000 then zEr m T.all (T.top 0)else[]:=by unfold valN;by_cases h:(zEr m T.all (T.top 0)).length<=4000 <;> simp[h,hf1]
    generalize hL:zEr m T.all (T.top 0)=L at *
    have hSh:zAW prog 23 [.ptr 0 0,.nil,.d (w64 (wdN T.all T.ly (T.top 0)))] (MX m (rawS T oth)) (.buf 9 L.length) (MXr m (rawS T oth) (L.map nnD)):=zLS (k:=9) [.ptr 0 0] [.d (w64 (wdN T.all T.ly (T.top 0)))] rfl hSh0
    have e1:(rawS T oth).fin=T.fin:=rfl
    have e2:(rawS T oth).num=T.num:=rfl
    have e3:(rawS T oth).out=T.out:=rfl
    have e4:(rawS T oth).steps=T.steps:=rfl
    generalize rawS T oth=r at *
    have hg1:r.fin=1:=e1.trans hf1
    rcases qAR 4000 L.length with hbig|hfit
    ·have hq:¬(L.length:Int)<=4000:=by omega
     rw[if_neg (by omega)]at hvl
     refine Stop.go ?_
     refine zEk (s:=[(6,.ptr 1 0),(11,.ptr 6 0)]) (h:=RA sb0 m r) (zAU (Le_all rfl) (zA4 _) rfl (zJi m r)) ?_
     repeat' first|(refine zNy (id:=20) ?_)|apply en_n|apply zAE|apply zAA|apply zAB|apply w0|exact qcA idsR [] zBJ (hT)|(refine aVMs zHA hSh (SArgs_all rfl) rfl rfl ?_)|refine ayA rfl ?_|refine ayQ rfl ?_|apply ay (hd:=rfl)|refine zAJ rfl ?_|refine zAI rfl ?_|apply zAP
     all_goals refine Stop.go ?_
     refine zCm 10 (mu:=true) rfl rfl ?_
     refine zCb 6 12 (d:=.slice (r.out.map str)) rfl rfl (zDr rfl (qAC _).symm) ?_
     skip
     repeat' first|apply en_n|apply zAE|apply zAA|apply zAB|apply w0|(refine zAX ?_)|(refine zBu ?_)|(refine RV_c rfl rfl zBy rfl rfl ?_ ?_)|(refine RV_d rfl ?_ ?_)|exact zA5|refine aStA ?_|refine ayA rfl ?_|(refine w0' ?_)|apply zAM
     ·rfl
     ·refine congrArg D.agg ?_
      rw[hvl,<-e1,<-e2,<-e3,<-e4]
      all_goals rfl
    ·have hq:(L.length:Int)<=4000:=by omega
     rw[if_pos hfit]at hvl
     refine Stop.go ?_
     refine zEk (s:=[(6,.ptr 1 0),(11,.ptr 6 0)]) (h:=RA sb0 m r) (zAU (Le_all rfl) (zA4 _) rfl (zJi m r)) ?_
     repeat' first|(refine zNy (id:=20) ?_)|apply en_n|apply zAE|apply zAA|apply zAB|apply w0|exact qcA idsR [] zBJ (hT)|(refine aVMs zHA hSh (SArgs_all rfl) rfl rfl ?_)|refine ayA rfl ?_|refine ayQ rfl ?_|apply ay (hd:=rfl)|(refine w0' ?_)|refine aStA ?_|refine zAJ rfl ?_
     all_goals refine Stop.go ?_
     refine zCm 11 (mu:=true) rfl rfl ?_
     refine zCm 10 (mu:=true) rfl rfl ?_
     refine zCb 6 10 (d:=.slice (L.map nnD)) rfl rfl (zDr rfl (qAC _).symm) ?_
     refine zCb 6 12 (d:=.slice (r.out.map str)) rfl rfl (zDr rfl (qAC _).symm) ?_
     skip
     repeat' first|apply en_n|apply zAE|apply zAA|apply zAB|apply w0|(refine zAX ?_)|(refine zBu ?_)|(refine RV_c rfl rfl zBy rfl rfl ?_ ?_)|(refine RV_d rfl ?_ ?_)|exact zA5|refine aStA ?_|refine ayA rfl ?_|(refine w0' ?_)|apply zAM
     ·rfl
     ·refine congrArg D.agg ?_
      rw[hvl,<-e1,<-e2,<-e3,<-e4]
      all_goals rfl
   ·have hvl:valN m T=[]:=by unfold valN;rw[if_neg (fun c=>hf1 c.1)]
    have e1:(rawS T oth).fin=T.fin:=rfl
    have e2:(rawS T oth).num=T.num:=rfl
    have e3:(rawS T oth).out=T.out:=rfl
    have e4:(rawS T oth).steps=T.steps:=rfl
    generalize rawS T oth=r at *
    have hg1:¬r.fin=1:=fun c=>hf1 (e1.symm.trans c)
    refine Stop.go ?_
    refine zEk (s:=[(6,.ptr 1 0),(11,.ptr 6 0)]) (h:=RA sb0 m r) (zAU (Le_all rfl) (zA4 _) rfl (zJi m r)) ?_
    repeat' first|(refine zNy (id:=20) ?_)|apply en_n|apply zAA|apply zAB|apply w0|refine ayA rfl ?_|refine ayQ rfl ?_|refine zAI rfl ?_|apply zAP
    all_goals refine Stop.go ?_
    refine zCm 10 (mu:=true) rfl rfl ?_
    refine zCb 6 12 (d:=.slice (r.out.map str)) rfl rfl (zDr rfl (qAC _).symm) ?_
    skip
    repeat' first|apply en_n|apply zAE|apply zAA|apply zAB|apply w0|(refine zAX ?_)|(refine zBu ?_)|(refine RV_c rfl rfl zBy rfl rfl ?_ ?_)|(refine RV_d rfl ?_ ?_)|exact zA5|refine aStA ?_|refine ayA rfl ?_|(refine w0' ?_)|apply zAM
    ·rfl
    ·refine congrArg D.agg ?_
     rw[hvl,<-e1,<-e2,<-e3,<-e4]
     all_goals rfl
 ·have hTs:=hR.done h0
  have hTres:Res con m A T:=by rw[hTs];exact hR.res
  have hTw:T.words=words:=by rw[hTs];exact hR.words
  have hTstk:T.stack.length<=1048576:=by rw[hTs];have:=hR.stk;omega
  rw[<-hTs]at h0 ⊢
  clear hR hTs hst
  have g0:¬(rawS T oth).fin=0:=h0
  repeat' first|(refine zNy (id:=16) ?_)|apply en_n|apply zAE|apply zAA|apply zAB|apply w0|refine ayA rfl ?_|refine ayQ rfl ?_|refine zAI rfl ?_|apply zBH|apply en_e|apply eb_e
  all_goals first|omega|skip
  have hTl:T.stack.length<=1048576:=hTstk
  by_cases hf1:T.fin=1
  ·have hne:=hTres.val hf1
   have hpos:0<T.stack.length:=qA3.2 hne
   have hv0:Val T (T.top 0):=hTres.lay.stack (top_mem hpos)
   have hT:=zCH m (rawS T oth) (k:=0) (by rw[zBd];exact hpos) (zGK T oth hpos) (by rw[zBd];exact hTl)
   have hlen:=zK8 m T.all (rkR (T.top 0)+1) [] (T.top 0) (qAQ _)
   have hSh0:=zTn hTres.lay hi (by rw[hTw];omega) oth (rkR (T.top 0)+1) [] (T.top 0) (Nat.lt_succ_self _) hv0 (qAQ _)
   change (zEr m T.all (T.top 0)).length<=4001 at hlen
   change zJh m (rawS T oth) [] (zEr m T.all (T.top 0)) _ at hSh0
   have hvl:valN m T=if(zEr m T.all (T.top 0)).length<=4000 then zEr m T.all (T.top 0)else[]:=by unfold valN;by_cases h:(zEr m T.all (T.top 0)).length<=4000 <;> simp[h,hf1]
   generalize hL:zEr m T.all (T.top 0)=L at *
   have hSh:zAW prog 23 [.ptr 0 0,.nil,.d (w64 (wdN T.all T.ly (T.top 0)))] (MX m (rawS T oth)) (.buf 9 L.length) (MXr m (rawS T oth) (L.map nnD)):=zLS (k:=9) [.ptr 0 0] [.d (w64 (wdN T.all T.ly (T.top 0)))] rfl hSh0
   have e1:(rawS T oth).fin=T.fin:=rfl
   have e2:(rawS T oth).num=T.num:=rfl
   have e3:(rawS T oth).out=T.out:=rfl
   have e4:(rawS T oth).steps=T.steps:=rfl
   generalize rawS T oth=r at *
   have hg1:r.fin=1:=e1.trans hf1
   rcases qAR 4000 L.length with hbig|hfit
   ·have hq:¬(L.length:Int)<=4000:=by omega
    rw[if_neg (by omega)]at hvl
    refine Stop.go ?_
    refine zEk (s:=[(6,.ptr 1 0),(11,.ptr 6 0)]) (h:=RA sb0 m r) (zAU (Le_all rfl) (zA4 _) rfl (zJi m r)) ?_
    repeat' first|(refine zNy (id:=20) ?_)|apply en_n|apply zAE|apply zAA|apply zAB|apply w0|exact qcA idsR [] zBJ (hT)|(refine aVMs zHA hSh (SArgs_all rfl) rfl rfl ?_)|refine ayA rfl ?_|refine ayQ rfl ?_|apply ay (hd:=rfl)|refine zAJ rfl ?_|refine zAI rfl ?_|apply zAP
    all_goals refine Stop.go ?_
    refine zCm 10 (mu:=true) rfl rfl ?_
    refine zCb 6 12 (d:=.slice (r.out.map str)) rfl rfl (zDr rfl (qAC _).symm) ?_
    skip
    repeat' first|apply en_n|apply zAE|apply zAA|apply zAB|apply w0|(refine zAX ?_)|(refine zBu ?_)|(refine RV_c rfl rfl zBy rfl rfl ?_ ?_)|(refine RV_d rfl ?_ ?_)|exact zA5|refine aStA ?_|refine ayA rfl ?_|(refine w0' ?_)|apply zAM
    ·rfl
    ·refine congrArg D.agg ?_
     rw[hvl,<-e1,<-e2,<-e3,<-e4]
     all_goals rfl
   ·have hq:(L.length:Int)<=4000:=by omega
    rw[if_pos hfit]at hvl
    refine Stop.go ?_
    refine zEk (s:=[(6,.ptr 1 0),(11,.ptr 6 0)]) (h:=RA sb0 m r) (zAU (Le_all rfl) (zA4 _) rfl (zJi m r)) ?_
    repeat' first|(refine zNy (id:=20) ?_)|apply en_n|apply zAE|apply zAA|apply zAB|apply w0|exact qcA idsR [] zBJ (hT)|(refine aVMs zHA hSh (SArgs_all rfl) rfl rfl ?_)|refine ayA rfl ?_|refine ayQ rfl ?_|apply ay (hd:=rfl)|(refine w0' ?_)|refine aStA ?_|refine zAJ rfl ?_
    all_goals refine Stop.go ?_
    refine zCm 11 (mu:=true) rfl rfl ?_
    refine zCm 10 (mu:=true) rfl rfl ?_
    refine zCb 6 10 (d:=.slice (L.map nnD)) rfl rfl (zDr rfl (qAC _).symm) ?_
    refine zCb 6 12 (d:=.slice (r.out.map str)) rfl rfl (zDr rfl (qAC _).symm) ?_
    skip
    repeat' first|apply en_n|apply zAE|apply zAA|apply zAB|apply w0|(refine zAX ?_)|(refine zBu ?_)|(refine RV_c rfl rfl zBy rfl rfl ?_ ?_)|(refine RV_d rfl ?_ ?_)|exact zA5|refine aStA ?_|refine ayA rfl ?_|(refine w0' ?_)|apply zAM
    ·rfl
    ·refine congrArg D.agg ?_
     rw[hvl,<-e1,<-e2,<-e3,<-e4]
     all_goals rfl
  ·have hvl:valN m T=[]:=by unfold valN;rw[if_neg (fun c=>hf1 c.1)]
   have e1:(rawS T oth).fin=T.fin:=rfl
   have e2:(rawS T oth).num=T.num:=rfl
   have e3:(rawS T oth).out=T.out:=rfl
   have e4:(rawS T oth).steps=T.steps:=rfl
   generalize rawS T oth=r at *
   have hg1:¬r.fin=1:=fun c=>hf1 (e1.symm.trans c)
   refine Stop.go ?_
   refine zEk (s:=[(6,.ptr 1 0),(11,.ptr 6 0)]) (h:=RA sb0 m r) (zAU (Le_all rfl) (zA4 _) rfl (zJi m r)) ?_
   repeat' first|(refine zNy (id:=20) ?_)|apply en_n|apply zAA|apply zAB|apply w0|refine ayA rfl ?_|refine ayQ rfl ?_|refine zAI rfl ?_|apply zAP
   all_goals refine Stop.go ?_
   refine zCm 10 (mu:=true) rfl rfl ?_
   refine zCb 6 12 (d:=.slice (r.out.map str)) rfl rfl (zDr rfl (qAC _).symm) ?_
   skip
   repeat' first|apply en_n|apply zAE|apply zAA|apply zAB|apply w0|(refine zAX ?_)|(refine zBu ?_)|(refine RV_c rfl rfl zBy rfl rfl ?_ ?_)|(refine RV_d rfl ?_ ?_)|exact zA5|refine aStA ?_|refine ayA rfl ?_|(refine w0' ?_)|apply zAM
   ·rfl
   ·refine congrArg D.agg ?_
    rw[hvl,<-e1,<-e2,<-e3,<-e4]
    all_goals rfl

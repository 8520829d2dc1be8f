import Derived.Test.YtcagoomibpcdlaaGreatDoorMBS
set_option maxHeartbeats 16000000
namespace Go.Proofs.YtcagoomibpcdlaaGreatDoor
open _root_.Go.Proofs.Tryz
open Go.Sx Go.Vm
def stD(o:Option VS): D:=rsD o.isSome (o.getD ⟨0,0,0,[]⟩)
theorem zYl: zKH prog 123=some (stD none):=by kernel_rfl
abbrev sxS(n:Nat)(nw:Bool): Sl:=[(1,.ptr 0 0),(4,.buf 1 n),(5,.d (bl nw))]
abbrev sxT(n:Nat)(nw:Bool)(k:Nat): Sl:=[(1,.ptr 0 0),(4,.buf 1 n),(5,.d (bl nw)),(6,.d (i64 (k:Int)))]
abbrev sxV(n:Nat)(nw:Bool)(k:Nat)(l:List (Int×VS))(j:Nat): Sl:=[(1,.ptr 0 0),(4,.buf 1 n),(5,.d (bl nw)),(6,.d (i64 (k:Int))),(7,.d (.slice (l.map toD))),(9,.d (i64 (j:Int)))]
abbrev sxB(m:Img)(L:List (Option VS)): List Ob:=[.box [.d (.slice (m.pool.map enCn)),.d (.slice (m.code.map enIn))],.buf true 123 5 (L.map stD)]
theorem st_row{L:List (Option VS)}{k:Nat}(hk:k<L.length): (L.map stD)[k]?=some (stD (stA L k)):=by
 unfold stA
 rw[qAH,qAB hk];rfl
theorem zcd{L:List (Option VS)}{k:Nat}{v:VS}(h:stA L k=some v): L.set k (some v)=L:=by
 have h1:=zMy h
 apply qBm
 intro q
 rw[qAX]
 split
 ·rename_i e;subst e
  rw[h1,if_pos (qAA.1 h1).1]
 ·rfl
theorem zNG{c:Prop}[Decidable c](x:Int×VS): (if c then[x]else[]:List (Int×VS)).length<=1:=by split <;> simp
theorem zXb{m:Img}{k:Nat}{s:VS}{l:List (Int×VS)}(h:zGs conF m k s=some l): l.length<=4:=by
 unfold zGs at h;dsimp only at h
 split at h
 ·cases h
 ·injection h with h;subst h
  rw[qAE,qAE,qAE]
  exact Nat.add_le_add (Nat.add_le_add (Nat.add_le_add (zNG _) (zNG _)) (zNG _)) (zNG _)
attribute [local irreducible] zAL Program.underlying Ylds zA2 alex zBZ zBP awp zAb zBh zBg zAW zBF zAp zCO zBG zBR zAr zBV zBY zBe zCQ zBM zA8 zBE JFit
theorem zSG(m:Img)(him:ImgOk m)(R:Option (List (Option VS)))(hR:zHv conF m=R): zAb prog 25 [zCs m] (.tup [.slice ((R.getD []).map stD),bl R.isSome]):=by
 have hcl:=him.code
 refine zB0 func25 rfl ntmps25 results25 rfl ?_
 intro wb St0
 unfold zHv at hR
 by_cases h0:m.code.length=0
 ·rw[if_pos h0]at hR;subst hR
  unfold zCs
  skip
  exact yK
 rw[if_neg h0]at hR
 have hpos:0<m.code.length:=by omega
 have e0:((m.code.length:Int)).toNat=m.code.length:=qAn _
 unfold zCs
 skip
 repeat' first|apply en_n|apply zAE|apply zAA|apply zAB|apply w0|(apply zVo;exact rfl;exact rfl;(with_reducible exact zQU);(with_reducible exact zHK);(with_reducible exact zYl);exact rfl;exact rfl;(with_reducible exact zTJ);exact rfl;exact rfl;exact⟨by omega,by omega,by omega⟩)|(refine zBI (cs:=[bl true,i64 (-1),i64 0,i64 0,zBU []]) zKz zJn (PD_d rfl rfl (PD_d rfl rfl zCI)) rfl)|(apply zBQ;exact rfl;exact rfl;exact rfl;(with_reducible exact zHK);omega;(rw[qAp];omega))|(apply zIY;exact rfl;exact rfl;(with_reducible exact zFd);exact rfl;exact rfl;(rw[qAp];omega);exact rfl)|refine aBoA ?_|refine ayA rfl ?_|refine ayQ rfl ?_|apply ay (hd:=rfl)|(refine w0' ?_)|refine zAI rfl ?_|apply zAO|apply zAP
 all_goals first|omega|skip
 refine zBA (α:=Nat×List (Option VS)×Bool) (fun x=>SInv m x.2.1/\(x.2.2=true->zER conF m x.1 x.2.1=R/\m.code.length<x.1+cntS x.2.1)/\(x.2.2=false->R=some x.2.1)) (fun x=>sxS m.code.length x.2.2) (fun x=>sxB m x.2.1) (fun x=>if x.2.2 then x.1 else 0) (m.code.length+1,st0 m,true) ⟨zPg hpos,fun _=>⟨hR,by dsimp only;omega⟩,fun c=>by cases c⟩ (zAU (Le_cons rfl (Le_cons (by rw[e0];rfl) (Le_all rfl))) (zAK rfl rfl (zAK rfl (congrArg (Ob.buf true _ 5) ?_) zAe)) rfl rfl) ?_
 ·rw[e0]
  show ((List.replicate m.code.length none).set 0 (some ⟨-1,0,0,[]⟩)).map stD=_
  rw[qBr,qBU];rfl
 rintro⟨f,L,nw⟩ ⟨hI,h1,h2⟩
 dsimp only at hI h1 h2
 cases nw with
 |false =>
  rw[h2 rfl]
  skip
  repeat' first|(refine zCi (id:=22) ?_)|apply en_n|apply zAE|apply zAA|apply zAB|apply w0|refine ayA rfl ?_|refine zAI rfl ?_|apply zBH|apply en_e|apply eb_e
  refine Stop.go ?_
  refine zCm 1 (mu:=true) rfl rfl ?_
  repeat' first|apply en_n|apply zAE|apply zAA|apply zAB|apply w0|(refine zAX ?_)|(refine zBu ?_)|(refine RV_b rfl rfl ?_ ?_ ?_)|(refine RV_d rfl ?_ ?_)|exact zA5|refine ayA rfl ?_|apply zAM
  all_goals first|rfl|(rw[qAC,hI.len])|skip
 |true =>
  obtain⟨hV,hf⟩:=h1 rfl
  cases f with
  |zero=>have:=zNX L;have:=hI.len;omega
  |succ f =>
  rw[zER]at hV
  skip
  repeat' first|apply en_n|apply zAE|apply zAA|apply zAB|apply w0|refine ayA rfl ?_|refine zAJ rfl ?_|apply zAO|apply zAP
  refine zBA (α:=Nat×List (Option VS)×Bool) (fun x=>x.1<=m.code.length/\SInv m x.2.1/\Grow (L,false) (x.2.1,x.2.2)/\(zJu conF m (m.code.length-x.1) x.1 (x.2.1,x.2.2)).bind (fun r=>if r.2 then zER conF m f r.1 else some r.1)=R) (fun x=>sxT m.code.length x.2.2 x.1) (fun x=>sxB m x.2.1) (fun x=>m.code.length-x.1) (0,L,false) ⟨qAQ _,hI,.refl _,hV⟩ (zAU (Le_all rfl) (zA4 _) rfl rfl) ?_
  rintro⟨k,L2,nw2⟩ ⟨hk,hI2,hg,hV2⟩
  dsimp only at hk hI2 hg hV2
  by_cases hkn:k<m.code.length
  ·have hkL:k<(L2.map stD).length:=by rw[qAC,hI2.len];exact hkn
   have hat:=st_row (L:=L2) (k:=k) (by rw[hI2.len];exact hkn)
   obtain⟨q,hq⟩:∃q,m.code.length-k=q+1:=⟨m.code.length-(k+1),by omega⟩
   have hq2:q=m.code.length-(k+1):=by omega
   rw[hq,zJu]at hV2
   subst hq2
   cases e:stA L2 k with
   |none =>
    have hv:zIe conF m k (L2,nw2)=some (L2,nw2):=by unfold zIe;dsimp only;rw[e]
    rw[hv]at hV2
    rw[e]at hat
    replace hat:(L2.map stD)[((k:Nat):Int).toNat]?=some (.agg [bl false,i64 0,i64 0,i64 0,zBU []]):=hat
    skip
    repeat' first|apply en_n|apply zAE|apply zAA|apply zAB|apply w0|(apply zBQ;exact rfl;exact rfl;exact rfl;(with_reducible exact zHK);omega;(rw[qAC,hI2.len];omega))|(apply zDv;exact rfl;(first|with_reducible exact zG3))|exact zCT rfl zAm rfl hat rfl|refine ayA rfl ?_|refine ayQ rfl ?_|apply ay (hd:=rfl)|refine zBp rfl rfl ?_|refine zAJ rfl ?_|apply zAO|apply zAP|apply zBH|apply en_e|apply eb_e
    all_goals first|omega|skip
    exact⟨(k+1,L2,nw2),⟨hkn,hI2,hg,hV2⟩,by dsimp only;omega,zAU (Le_all rfl) (zA4 _) rfl rfl⟩
   |some s =>
    rw[e]at hat
    replace hat:(L2.map stD)[((k:Nat):Int).toNat]?=some (.agg [bl true,i64 s.of,i64 s.has,i64 s.height,zBU s.tries]):=hat
    obtain⟨ht,hh1,hh2⟩:=hI2.bd k s e
    have hcnt:=zNX L2
    have hlen2:=hI2.len
    have hN:=zXK m him k hkn true s ⟨by have:=ht.nn;omega,by omega⟩ (by omega)
    unfold zCs rsD at hN
    cases hn:zGs conF m k s with
    |none =>
     have hRn:R=none:=by
      rw[<-hV2];unfold zIe;dsimp only;rw[e];dsimp only;rw[hn];rfl
     rw[hn]at hN
     rw[hRn]
     skip
     repeat' first|apply en_n|apply zAE|apply zAA|apply zAB|apply w0|(refine zAX ?_)|(refine zBu ?_)|exact zA5|(refine RV_d rfl ?_ ?_)|(refine RV_n rfl ?_ ?_)|(apply zBQ;exact rfl;exact rfl;exact rfl;(with_reducible exact zHK);omega;(rw[qAC,hI2.len];omega))|(apply zDv;exact rfl;(first|with_reducible exact zG3))|exact zCT rfl zAm rfl hat rfl|exact zEf rfl zFd rfl hat rfl rfl rfl|exact ycA zJa hN|refine ayA rfl ?_|refine ayQ rfl ?_|apply ay (hd:=rfl)|refine zAJ rfl ?_|refine zAI rfl ?_|apply zAO|apply zAP|apply zAM|refine awDA ?_|apply en_r|apply eb_r
     all_goals first|omega|rfl|skip
    |some l =>
     have hto:=hI2.next him e hn
     have hll:=zXb hn
     have hVl:(zJe l (L2,nw2)).bind (fun M=>(zJu conF m (m.code.length-(k+1)) (k+1) M).bind (fun r=>if r.2 then zER conF m f r.1 else some r.1))=R:=by
      rw[<-hV2];unfold zIe;dsimp only;rw[e];dsimp only;rw[hn]
      show _=(Option.bind (zJe l (L2,nw2)) _).bind _
      cases zJe l (L2,nw2) <;> rfl
     clear hV2 h1 h2 hV
     rw[hn]at hN
     replace hN:zAb prog 56 [.agg [.slice (m.pool.map enCn),.slice (m.code.map enIn)],i64 (k:Int),.agg [bl true,i64 s.of,i64 s.has,i64 s.height,zBU s.tries]] (.tup [.slice (l.map toD),bl true]):=hN
     skip
     repeat' first|apply en_n|apply zAE|apply zAA|apply zAB|apply w0|(apply zBQ;exact rfl;exact rfl;exact rfl;(with_reducible exact zHK);omega;(rw[qAC,hI2.len];omega))|(apply zDv;exact rfl;(first|with_reducible exact zG3))|exact zCT rfl zAm rfl hat rfl|exact zEf rfl zFd rfl hat rfl rfl rfl|exact ycA zJa hN|refine ayA rfl ?_|refine ayQ rfl ?_|apply ay (hd:=rfl)|refine zAJ rfl ?_|refine zAI rfl ?_|apply zAO|apply zAP|refine awDA ?_
     all_goals first|omega|skip
     refine zBA (α:=Nat×List (Option VS)×Bool) (fun x=>x.1<=l.length/\SInv m x.2.1/\cntS L2<=cntS x.2.1/\Grow (L,false) (x.2.1,x.2.2)/\(zJe (l.drop x.1) (x.2.1,x.2.2)).bind (fun M=>(zJu conF m (m.code.length-(k+1)) (k+1) M).bind (fun r=>if r.2 then zER conF m f r.1 else some r.1))=R) (fun x=>sxV m.code.length x.2.2 k l x.1) (fun x=>sxB m x.2.1) (fun x=>l.length-x.1) (0,L2,nw2) ⟨qAQ _,hI2,qAP _,hg,hVl⟩ (zAU (Le_all rfl) (zA4 _) rfl rfl) ?_
     clear hVl hg hI2 hat e hh1 hh2 hcnt hkL
     rintro⟨j,L3,nw3⟩ ⟨hj,hI3,hc3,hg3,hV3⟩
     dsimp only at hj hI3 hc3 hg3 hV3
     have hlen3:=hI3.len
     by_cases hjl:j<l.length
     ·obtain⟨p,hp⟩:∃p,l[j]?=some p:=⟨_,qAB hjl⟩
      obtain⟨p0,p1,p2,p3,p4⟩:=hto p (qAF hp)
      have hdr:l.drop j=p::l.drop (j+1):=by
       have:=qA9 hjl
       rw[qAB hjl]at hp
       injection hp with hp;rw[this,hp]
      rw[hdr,zJe]at hV3
      have hlp:(l.map toD)[((j:Nat):Int).toNat]?=some (.agg [i64 p.1,bl true,i64 p.2.of,i64 p.2.has,i64 p.2.height,zBU p.2.tries]):=by
       show (l.map toD)[j]?=_
       rw[qAH,hp];rfl
      have hat3:=st_row (L:=L3) (k:=p.1.toNat) (by omega)
      have hto3:∀M,addV (L3,nw3) p=some M->SInv m M.1/\cntS L2<=cntS M.1/\Grow (L,false) M:=fun M hM=>by
       obtain⟨a,b⟩:=SInv.add (L:=(L3,nw3)) hI3 hc3 (hto p (qAF hp)) hM
       exact⟨a,b,hg3.trans (zNb (L:=(L3,nw3)) (by dsimp only;omega) hM).1⟩
      have hset:∀v:VS,(L3.map stD).set p.1.toNat (.agg [bl true,i64 v.of,i64 v.has,i64 v.height,zBU v.tries])=(L3.set p.1.toNat (some v)).map stD:=fun v=>by rw[qBr];rfl
      have hil:p.1.toNat<(L3.map stD).length:=by rw[qAC];omega
      have hidx:0<=p.1/\p.1<(m.code.length:Int):=⟨p0,p1⟩
      cases e3:stA L3 p.1.toNat with
      |none =>
       have hM:addV (L3,nw3) p=some (L3.set p.1.toNat (some p.2),true):=by unfold addV;dsimp only;rw[e3]
       rw[hM]at hV3
       obtain⟨hM1,hM2,hM3⟩:=hto3 _ hM
       rw[e3]at hat3
       replace hat3:(L3.map stD)[p.1.toNat]?=some (.agg [bl false,i64 0,i64 0,i64 0,zBU []]):=hat3
       cases nw3
       all_goals
        repeat' first|apply en_n|apply zAE|apply zAA|apply zAB|apply w0|refine k0u (hd:=rfl) rfl rfl ?_|refine k1ud (hd:=rfl) rfl rfl ?_|(apply zBQ;exact rfl;exact rfl;exact rfl;(with_reducible exact zHK);exact hidx;(rw[qAC,hI3.len];omega))|(apply zDv;exact rfl;(first|with_reducible exact zG3))|exact zCT rfl zAm rfl hat3 rfl|(refine zCJ (by kernel_rfl) ?_;apply zIY;exact rfl;exact rfl;(with_reducible exact zFd);exact rfl;exact rfl;exact hil;exact rfl)|refine aJA ?_|refine ayA rfl ?_|refine ayQ rfl ?_|apply ay (hd:=rfl)|refine zBp rfl rfl ?_|refine w1 rfl rfl ?_|(refine w0' ?_)|refine zAJ rfl ?_|refine zAI rfl ?_|apply zAO|apply zAP|refine awDA ?_|apply eb_n
       all_goals first|omega|(dsimp only;omega)|skip
       all_goals exact⟨(j+1,L3.set p.1.toNat (some p.2),true),⟨hjl,hM1,hM2,hM3,hV3⟩,by dsimp only;omega,zAU (Le_all rfl) (zAK rfl rfl (zAK rfl (congrArg (Ob.buf true _ 5) (hset p.2).symm) zAe)) rfl rfl⟩
      |some v =>
       rw[e3]at hat3
       replace hat3:(L3.map stD)[p.1.toNat]?=some (.agg [bl true,i64 v.of,i64 v.has,i64 v.height,zBU v.tries]):=hat3
       obtain⟨ht3,hb1,hb2⟩:=hI3.bd _ _ e3
       have hcnt3:=zNX L3
       have hS:=zW5 true true v p.2 (by omega)
       unfold rsD at hS
       by_cases hvp:v=p.2
       ·have hM:addV (L3,nw3) p=some (L3,nw3):=by unfold addV;dsimp only;rw[e3];dsimp only;rw[if_pos hvp]
        rw[hM]at hV3
        rw[decide_eq_true hvp]at hS
        have hst:(L3.map stD).set p.1.toNat (.agg [bl true,i64 p.2.of,i64 p.2.has,i64 p.2.height,zBU p.2.tries])=L3.map stD:=by rw[hset,<-hvp,zcd e3]
        cases nw3
        all_goals
         repeat' first|apply en_n|apply zAE|apply zAA|apply zAB|apply w0|refine k0u (hd:=rfl) rfl rfl ?_|(apply zBQ;exact rfl;exact rfl;exact rfl;(with_reducible exact zHK);exact hidx;(rw[qAC,hI3.len];omega))|(apply zDv;exact rfl;(first|with_reducible exact zG3))|exact zCT rfl zAm rfl hat3 rfl|exact zEf rfl zFd rfl hat3 rfl rfl rfl|exact ycA zJZ hS|(refine zCJ (by kernel_rfl) ?_;apply zIY;exact rfl;exact rfl;(with_reducible exact zFd);exact rfl;exact rfl;exact hil;exact rfl)|refine aJA ?_|refine ayA rfl ?_|refine ayQ rfl ?_|apply ay (hd:=rfl)|refine zBp rfl rfl ?_|refine w1 rfl rfl ?_|(refine w0' ?_)|refine zAJ rfl ?_|refine zAI rfl ?_|apply zAO|apply zAP|refine awDA ?_|apply eb_n
        all_goals first|omega|(dsimp only;omega)|skip
        all_goals exact⟨(j+1,L3,_),⟨hjl,hI3,hc3,hg3,hV3⟩,by dsimp only;omega,zAU (Le_all rfl) (zAK rfl rfl (zAK rfl (congrArg (Ob.buf true _ 5) hst.symm) zAe)) rfl rfl⟩
       ·have hRn:R=none:=by
         rw[<-hV3];unfold addV;dsimp only;rw[e3];dsimp only;rw[if_neg hvp];rfl
        rw[decide_eq_false hvp]at hS
        rw[hRn]
        skip
        exact yB
     ·have hj2:j=l.length:=by omega
      rw[hj2,List.drop_length]at hV3
      replace hV3:(zJu conF m (m.code.length-(k+1)) (k+1) (L3,nw3)).bind (fun r=>if r.2 then zER conF m f r.1 else some r.1)=R:=hV3
      skip
      repeat' first|apply en_n|apply zAE|apply zAA|apply zAB|apply w0|refine ayA rfl ?_|refine ayQ rfl ?_|apply ay (hd:=rfl)|refine zBp rfl rfl ?_|refine zAI rfl ?_|apply zBH|apply en_e|apply eb_n|apply eb_e
      all_goals first|omega|(rw[qAC];omega)|skip
      exact⟨(k+1,L3,nw3),⟨hkn,hI3,hg3,hV3⟩,by dsimp only;omega,zAU (Le_all rfl) (zA4 _) rfl rfl⟩
  ·have hk2:k=m.code.length:=by omega
   rw[hk2,qBM]at hV2
   replace hV2:(if nw2=true then zER conF m f L2 else some L2)=R:=hV2
   skip
   repeat' first|apply en_n|apply zAE|apply zAA|apply zAB|apply w0|refine ayA rfl ?_|refine ayQ rfl ?_|refine zAI rfl ?_|apply zBH|apply en_e|apply eb_n|apply eb_e
   all_goals first|omega|skip
   refine⟨(f,L2,nw2),⟨hI2,fun h=>?_,fun h=>?_⟩,by show (if nw2=true then f else 0)<f+1;split <;> omega,zAU (Le_all rfl) (zA4 _) rfl rfl⟩
   ·dsimp only at h ⊢
    subst h
    rw[if_pos rfl]at hV2
    have:=hg.more rfl rfl
    dsimp only at this
    exact⟨hV2,by omega⟩
   ·dsimp only at h ⊢
    subst h
    rw[if_neg (by decide)]at hV2
    exact hV2.symm

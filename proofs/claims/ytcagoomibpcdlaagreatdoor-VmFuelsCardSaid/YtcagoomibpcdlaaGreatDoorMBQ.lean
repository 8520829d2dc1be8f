/- Texts of this claim, merged: VmDL. -/
import Derived.Test.YtcagoomibpcdlaaGreatDoorMAB
import Derived.Test.YtcagoomibpcdlaaGreatDoorMBG
import Derived.Test.YtcagoomibpcdlaaGreatDoorMBP
namespace Go.Proofs.YtcagoomibpcdlaaGreatDoor
open Go.Sx Go.Vm
theorem zRv: zIf Tryz.prog 151=some (vD ⟨0,0,[]⟩ false):=by kernel_rfl
abbrev idsK: List Nat:=[3,1,2,4]
def KA(m:Img)(c:CK): List Ob :=
 [.gone,.buf true 151 4 (c.at_.map enCS),.map none (kvs cki (hasD c.has)),
  .box [.d (.slice (m.pool.map enCn)),.d (.slice (m.code.map enIn)),.buf 1 c.at_.length,.mp 2,.buf 4 c.work.length,.d (bl c.bad)],.buf true 3 1 (c.work.map ival)]
theorem zYj(m:Img)(c c':CK): zDH (zEL (zBa idsK (CX m c)) idsK (KA m c)) idsK ((CX m c').map (Ob.ren idsK))=KA m c':=rfl
theorem zT9(m:Img)(c:CK): Picks (KA m c) idsK (CX m c):=rfl
theorem zV6: idsK.Nodup:=by decide
theorem zOI(m:Img)(c:CK): (KA m c).all (Ob.below (KA m c).length)=true:=rfl
theorem zWq{k:Option Nat}{l:List (Value×D)}: WOb (.map none l) (.map k l):=fun g w id h=>by
 obtain⟨b,es,ck,h1,h2,h3,h4,h5,h6,h7⟩:=h
 exact⟨b,es,ck,h1,h2,h3,h4,h5,(fun c hc=>by cases hc),h7⟩
attribute [local irreducible] zAQ Program.underlying Ylds zBD alex zCA zBi awp zAp zCI zCH zAW zBw zA5 zD4 zB0 zBp zBF zBv zB9 zCE zES zBn zBm zBs JFit
section
variable {N d:Nat}{w0:World}{St0:Stab}{X:Nat→Prop}{ops:Array Oper}{rest:List Oper}{K:Sl→List Ob→Prop}{σ:Sl}{ty:TypeId}{pos:String}{after:Array Edge}{gd:Option (Nat×Bool)}{f:FuncId}{args:List Operand}{ts:Array TypeId}{avs:List SV}{m:Img}{r r':CK}{res:SV}{η:List Ob}
theorem aKA(he:η=KA m r)(hb:zAQ Tryz.prog f=true)(hc:zAW Tryz.prog f avs (CX m r) res (CX m r'))(ha:SArgs σ idsK args avs)(hd:Nat.blt d N=true)(hba:avs.all (SV.bel 4)=true)
  (h:alex ⟨Tryz.prog,N,w0,St0,X,0⟩ false ops rest K ((d,res.ren idsK)::zDl (zBa idsK (CX m r)) idsK σ) (KA m r')) :
  zBD ⟨Tryz.prog,N,w0,St0,X,0⟩ false ops ⟨some d,.call ⟨.value (.func f),args.toArray,ts⟩,ty,pos,after,gd⟩ rest K σ η:=by
 subst he
 have hh:=(congrArg (alex ⟨Tryz.prog,N,w0,St0,X,0⟩ false ops rest K ((d,res.ren idsK)::zDl (zBa idsK (CX m r)) idsK σ)) (zYj m r r')).mpr h
 refine zGI (C:=⟨Tryz.prog,N,w0,St0,X,0⟩) (η:=KA m r) idsK hb hc ha (zT9 m r) hd zV6 ?_ ?_ ?_ hba ?_ ?_ hh
 ·rfl
 ·rfl
 ·rfl
 ·rfl
 ·rfl
end
theorem zUV(m:Img): CB (ck0 m):=⟨fun q x hq=>absurd hq zLn,Nat.zero_le _,fun f=>by show (0:Int)≤_;decide⟩
set_option maxHeartbeats 8000000 in
theorem zTh(m:Img)(him:ImgOk m)(T:CK)(hT:T=ckT conF m): zAp Tryz.prog 36 [zDY m] (.tup [.slice (T.at_.map enCS),bl (!T.bad)]):=by
 have hcl:=him.code
 obtain⟨us,hus⟩:=zTC (P:=Tryz.prog) (n:=m.code.length) zPT zIJ zRv rfl rfl zSB ⟨by omega,by omega⟩
 have hC:=zQ3 him (zMr m) (zUV m) (Int.le_refl 0) ⟨-1,0,[]⟩
 refine zDy Tryz.func36 rfl Tryz.ntmps36 Tryz.results36 rfl ?_
 intro wb St0
 unfold zDY
 repeat' first|(refine zGo (id:=1) ?_)|apply en_n|apply zAK|apply zAA|apply zAF|apply w0|(apply aBox (hd:=rfl) (hro:=rfl);exact rfl;exact rfl)|apply ay (hd:=rfl)|exact zAD rfl|exact zCB rfl
 refine Stop.go ?_
 refine zAK ?_
 refine zO6 [.y (.d (.agg [.slice (m.pool.map enCn),.slice (m.code.map enIn)])),.y (.ptr 0 (0+1)),.y (.d (.slice (m.code.map enIn))),.y (.d (i64 (m.code.length:Int))),.mk (zX6 10 151 m.code.length (vD ⟨0,0,[]⟩ false) us),.mk (zWL 11)] (by kernel_rfl) (by kernel_rfl) (.inr (by kernel_rfl)) ?_ ?_
 ·exact⟨⟨⟨rfl,zBG rfl zDG rfl rfl rfl⟩,rfl⟩,⟨⟨rfl,zAC rfl zBE⟩,rfl⟩,⟨⟨rfl,zAG rfl zBk rfl rfl⟩,rfl⟩,⟨⟨rfl,zBZ rfl zFf⟩,rfl⟩,⟨⟨hus _ _ _ _ _ _ _ _ _ _ rfl rfl,rfl,rfl,by kernel_rfl⟩,rfl⟩,⟨⟨zTD,rfl,rfl,by kernel_rfl⟩,rfl⟩,trivial⟩
 intro bs hbs
 rcases bs with _|⟨b1,_|⟨b2,_|⟨b3,q⟩⟩⟩
 ·simp[pnF]at hbs
 ·simp[pnF]at hbs
 ·skip
  repeat' first|(refine zGo (id:=2) ?_)|apply en_n|apply zAF|apply w0|(refine zT3 (cs:=[.slice (m.pool.map enCn),.slice (m.code.map enIn),.val (.slice (some ⟨b1,0,none⟩) m.code.length m.code.length),.val (.map (some b2)),.val (.slice none 0 0),.val (.bool false)]) zR7 zR1 (PD_d rfl rfl (PD_d rfl rfl (PD_d rfl rfl zDR))) rfl)|(refine zBr (by kernel_rfl) ?_;apply aBox;exact rfl;exact rfl;exact rfl;exact rfl)|apply ay (hd:=rfl)|exact zFI rfl
  refine Stop.go ?_
  refine zLw 1 3 2 m.code.length m.code.length 4 b1 (xs:=List.replicate m.code.length (vD ⟨0,0,[]⟩ false)) rfl rfl rfl rfl rfl (List.length_replicate ..) (by simp only[maxLen];omega) (fun d hd=>by rw[List.eq_of_mem_replicate hd];rfl) ?_
  refine zO8 2 3 3 b2 rfl rfl rfl ?_
  refine zMu 3 4 true 3 1 rfl rfl rfl ?_
  refine zDQ (s:=[(4,.ptr 3 0)]) (h:=KA m (ck0 m)) ?_ ?_
  ·refine zAV (zAI rfl zAd) (zHh rfl (zAP rfl (congrArg (Ob.buf true _ 4) ?_) (zH1 rfl zWq (zH1 (o:=.box _) rfl ?_ (zAP rfl rfl zA7))))) rfl (zOI m _)
   ·exact List.map_replicate
   ·have e:(ck0 m).at_.length=m.code.length:=List.length_replicate ..
    rw[e]
    exact zOC
  have h1c:CB (ck1 m):=(zKo (zUV m) (k:=0) (s:=⟨-1,0,[]⟩) (by show (0:Int)≤_;omega) (Nat.zero_le _)).1
  repeat' first|apply en_n|apply zAK|apply zAA|apply zAF|apply w0|(refine zCX (cs:=[i64 (-1),i64 0,zCL [],bl false]) zGR zEd (PD_d rfl rfl zDR) rfl)|(refine aKA rfl zFY hC ?_ rfl rfl ?_;(repeat (refine zAB rfl ?_));exact zAE)|apply ay (hd:=rfl)|exact zAH rfl|apply zAO
  all_goals first|omega|skip
  refine zBo (α:=CK) (fun c=>CRun conF m T c∧CB c) (fun _=>[(4,.ptr 3 0)]) (fun c=>KA m c) (fun c=>c.mu) (ck1 m) ⟨hT▸zQ5 conF m,h1c⟩ (zAV (zAI rfl zAd) (zB2 _) rfl (zOI m _)) ?_
  rintro⟨A,H,W,B⟩ ⟨hR,hB⟩
  have hwl:=hB.wrk
  have hcn:=zJ1 ⟨A,H,W,B⟩
  have hln:=hR.inv.len
  cases B with
  |true =>
   have hTc:=hR.done (.inl rfl)
   subst hTc
   by_cases hw:W=[]
   ·have hlen:¬(W.length:Int)>0:=by rw[hw];simp
    skip
    repeat' first|(refine zGo (id:=7) ?_)|apply en_n|apply zAK|apply zAA|apply zAF|apply w0|exact zAN rfl|(apply zAG;exact rfl;(first|with_reducible exact zAx|with_reducible exact zAg|with_reducible exact zEH);exact rfl;exact rfl)|(apply k1u (hd:=rfl);exact rfl;exact rfl)|(apply zDt;exact rfl;exact rfl;first|assumption|omega)|apply ay (hd:=rfl)|exact zAJ rfl|exact zAc rfl rfl|(apply zA4;exact rfl;(with_reducible exact zCY))|exact zAH rfl|(apply zAC;exact rfl;(with_reducible exact zFQ))|(apply zAM;exact rfl)|apply zBu|apply en_e|apply eb_e
    all_goals refine Stop.go ?_
    refine zCq 1 (mu:=true) rfl rfl ?_
    repeat' first|apply en_n|apply zAK|apply zAF|apply w0|(refine zBq ?_)|(refine zCJ ?_)|(refine RV_b rfl rfl ?_ ?_ ?_)|(refine RV_d rfl ?_ ?_)|exact zC6|exact zAN rfl|(apply zAG;exact rfl;(first|with_reducible exact zAx|with_reducible exact zAg|with_reducible exact zEH);exact rfl;exact rfl)|apply ay (hd:=rfl)|exact zAD rfl|exact zBd rfl|exact zAz rfl|exact zAH rfl|(apply zAC;exact rfl;(with_reducible first|exact zEl|exact zCy))|apply zAT|refine zAr (by kernel_rfl) (by kernel_rfl) ?_
    ·exact(List.length_map _).symm
    ·rfl
    ·rfl
   ·have hpos:0<W.length:=List.length_pos_iff.2 hw
    have hlen:(W.length:Int)>0:=by omega
    skip
    repeat' first|(refine zGo (id:=7) ?_)|apply en_n|apply zAK|apply zAA|apply zAF|apply w0|exact zAN rfl|(apply zAG;exact rfl;(first|with_reducible exact zAx|with_reducible exact zAg|with_reducible exact zEH);exact rfl;exact rfl)|(apply zE2;exact rfl;exact rfl;first|assumption|omega)|apply ay (hd:=rfl)|exact zAJ rfl|exact zBd rfl|exact zAj rfl rfl|(apply zA4;exact rfl;(with_reducible exact zCY))|exact zAH rfl|(apply zAC;exact rfl;(with_reducible first|exact zFQ|exact zCy))|(apply w1;exact rfl;exact rfl)|(apply zAM;exact rfl)|apply zBu|apply en_e|apply eb_e
    all_goals refine Stop.go ?_
    refine zCq 1 (mu:=true) rfl rfl ?_
    repeat' first|apply en_n|apply zAK|apply zAF|apply w0|(refine zBq ?_)|(refine zCJ ?_)|(refine RV_b rfl rfl ?_ ?_ ?_)|(refine RV_d rfl ?_ ?_)|exact zC6|exact zAN rfl|(apply zAG;exact rfl;(first|with_reducible exact zAx|with_reducible exact zAg|with_reducible exact zEH);exact rfl;exact rfl)|apply ay (hd:=rfl)|exact zAD rfl|exact zBd rfl|exact zAz rfl|exact zAH rfl|(apply zAC;exact rfl;(with_reducible first|exact zEl|exact zCy))|apply zAT|refine zAr (by kernel_rfl) (by kernel_rfl) ?_
    ·exact(List.length_map _).symm
    ·rfl
    ·rfl
  |false =>
   by_cases hw:W=[]
   ·have hTc:=hR.done (.inr hw)
    subst hTc
    have hlen:¬(W.length:Int)>0:=by rw[hw];simp
    skip
    repeat' first|(refine zGo (id:=7) ?_)|apply en_n|apply zAK|apply zAA|apply zAF|apply w0|exact zAN rfl|(apply zAG;exact rfl;(first|with_reducible exact zAx|with_reducible exact zAg|with_reducible exact zEH);exact rfl;exact rfl)|(apply k1u (hd:=rfl);exact rfl;exact rfl)|(apply zDt;exact rfl;exact rfl;first|assumption|omega)|apply ay (hd:=rfl)|exact zAJ rfl|exact zAc rfl rfl|(apply zA4;exact rfl;(with_reducible exact zCY))|exact zAH rfl|(apply zAC;exact rfl;(with_reducible exact zFQ))|(apply zAM;exact rfl)|apply zBu|apply en_e|apply eb_e
    all_goals refine Stop.go ?_
    refine zCq 1 (mu:=true) rfl rfl ?_
    repeat' first|apply en_n|apply zAK|apply zAF|apply w0|(refine zBq ?_)|(refine zCJ ?_)|(refine RV_b rfl rfl ?_ ?_ ?_)|(refine RV_d rfl ?_ ?_)|exact zC6|exact zAN rfl|(apply zAG;exact rfl;(first|with_reducible exact zAx|with_reducible exact zAg|with_reducible exact zEH);exact rfl;exact rfl)|apply ay (hd:=rfl)|exact zAD rfl|exact zBd rfl|exact zAz rfl|exact zAH rfl|(apply zAC;exact rfl;(with_reducible first|exact zEl|exact zCy))|apply zAT|refine zAr (by kernel_rfl) (by kernel_rfl) ?_
    ·exact(List.length_map _).symm
    ·rfl
    ·rfl
   ·obtain⟨k,s,hwk,hk0,hkl,hat,hci,hRn,hmu⟩:=hR.next him rfl hw
    have hpos:0<W.length:=List.length_pos_iff.2 hw
    have hD:=do_m him hci (zQJ hB) hk0 hat
    have hlen:(W.length:Int)>0:=by omega
    have en:((W.length:Int)-1).toNat=W.length-1:=by omega
    have hlast:(W.map ival)[((W.length:Int)-1).toNat]?=some (i64 k):=by
     rw[en,List.getElem?_map,←List.getLast?_eq_getElem?]
     have h2:W=W.dropLast++[k]:=hwk
     rw[h2,List.getLast?_append]
     rfl
    have hcd:=zZC (con:=conF) him (zQJ hB) hk0 hkl hat
    have hr1:0≤(W.length:Int)-1∧(W.length:Int)-1<(W.length:Int):=by omega
    have hr2:0≤(W.length:Int)-1∧(W.length:Int)-1≤(W.length:Int):=by omega
    have edl:W.dropLast.length=((W.length:Int)-1).toNat:=by rw[List.length_dropLast,en]
    have hbx:Ob.box [.d (.slice (m.pool.map enCn)),.d (.slice (m.code.map enIn)),.buf 1 A.length,.mp 2,.buf 4 W.dropLast.length,.d (bl false)]=Ob.box [.d (.slice (m.pool.map enCn)),.d (.slice (m.code.map enIn)),.buf 1 A.length,.mp 2,.buf 4 ((W.length:Int)-1).toNat,.d (bl false)]:=by rw[edl]
    have hcut:WOb (Ob.buf true 3 1 (W.dropLast.map ival)) (Ob.buf true 3 1 (W.map ival)):=by
     rw[List.dropLast_eq_take,List.map_take]
     exact zJX _ _
    repeat' first|(refine zFE (id:=6) (s:=[(4,.ptr 3 0),(5,.d (i64 k))]) (h:=KA m (CK.popd ⟨A,H,W,false⟩)) (zAV (zAI rfl (zAI rfl zAd)) (zHh rfl (zAP rfl rfl (zAP rfl rfl (zAP rfl hbx (zH1 rfl hcut zA7))))) rfl (zOI m _)) ?_)|apply en_n|apply zAK|apply zAA|apply zAF|apply w0|exact zAN rfl|(apply zAG;exact rfl;(first|with_reducible exact zAx|with_reducible exact zAg|with_reducible exact zEH);exact rfl;exact rfl)|(apply zBY;exact rfl;exact rfl;exact rfl;(with_reducible exact zBK);exact hr1;exact Nat.le_of_eq (List.length_map _).symm)|(apply zCg;exact rfl;(with_reducible exact zAS);exact rfl;exact hlast;exact rfl)|(apply zFb;exact rfl;exact(by rw[zBK];rfl);exact rfl;exact hr2;exact⟨_,_,_,_,rfl,Nat.le_of_eq (List.length_map _).symm⟩)|(refine zBr (by kernel_rfl) ?_;apply zAl;exact rfl;exact rfl;exact rfl;(with_reducible exact zAx);exact rfl;exact rfl;exact rfl;exact rfl)|(refine aKA rfl zTS hD ?_ rfl rfl ?_;(repeat (refine zAB rfl ?_));exact zAE)|(apply zE2;exact rfl;exact rfl;first|assumption|omega)|apply ay (hd:=rfl)|exact zAJ rfl|exact zAD rfl|(apply zDX;exact rfl;exact rfl)|exact zBd rfl|exact zAj rfl rfl|(apply zA4;exact rfl;(with_reducible exact zCY))|exact zAH rfl|(apply zAC;exact rfl;(with_reducible first|exact zFQ|exact zCy))|(apply w1;exact rfl;exact rfl)|(refine w0' ?_)|(apply zAL;exact rfl)|apply zAO|apply zAU|refine zAr (by kernel_rfl) (by kernel_rfl) ?_|apply eb_n
    all_goals first|omega|(rw[List.length_map];omega)|skip
    exact⟨_,⟨hRn,hcd⟩,hmu,zAV (zAI rfl zAd) (zB2 _) rfl (zOI m _)⟩
 ·simp[pnF]at hbs
end Go.Proofs.YtcagoomibpcdlaaGreatDoor

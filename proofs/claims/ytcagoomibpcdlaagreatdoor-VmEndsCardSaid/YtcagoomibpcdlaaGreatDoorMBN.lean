/- Parts of the proof. -/
import Derived.Test.YtcagoomibpcdlaaGreatDoorMBM
set_option maxHeartbeats 16000000
namespace Go.Proofs.YtcagoomibpcdlaaGreatDoor
open _root_.Go.Proofs.Tryz
open Go.Sx Go.Vm
theorem zTK: zIk prog 151=some (vD ⟨0,0,[]⟩ false):=by kernel_rfl
abbrev idsK: List Nat:=[3,1,2,4]
def KA(m:Img)(c:CK): List Ob :=
 [.gone,.buf true 151 4 (c.at_.map enCS),.map none (kvs cki (hasD c.has)),
  .box [.d (.slice (m.pool.map enCn)),.d (.slice (m.code.map enIn)),.buf 1 c.at_.length,.mp 2,.buf 4 c.work.length,.d (bl c.bad)],.buf true 3 1 (c.work.map ival)]
theorem zaK(m:Img)(c c':CK): zDT (zEc (zBo idsK (CX m c)) idsK (KA m c)) idsK ((CX m c').map (Ob.ren idsK))=KA m c':=rfl
theorem zVX(m:Img)(c:CK): Picks (KA m c) idsK (CX m c):=rfl
theorem zXh: idsK.Nodup:=by decide
theorem zPR(m:Img)(c:CK): (KA m c).all (Ob.below (KA m c).length)=true:=rfl
theorem zYR{k:Option Nat}{l:List (Value×D)}: WOb (.map none l) (.map k l):=fun g w id h=>by
 obtain⟨b,es,ck,h1,h2,h3,h4,h5,h6,h7⟩:=h
 exact⟨b,es,ck,h1,h2,h3,h4,h5,(fun c hc=>by cases hc),h7⟩
attribute [local irreducible] zAO Program.underlying Ylds zBE alex zB0 zBk awp zAg zB9 zB8 zAU zBj zA6 zDJ zBl zBn zBC zBq zBz zB7 zDQ zBm zBc zBe JFit
section
variable {N d:Nat}{w0:World}{St0:Stab}{X:Nat->Prop}{ops:Array Oper}{rest:List Oper}{K:Sl->List Ob->Prop}{σ:Sl}{ty:TypeId}{pos:String}{after:Array Edge}{gd:Option (Nat×Bool)}{f:FuncId}{args:List Operand}{ts:Array TypeId}{avs:List SV}{m:Img}{r r':CK}{res:SV}{η:List Ob}
theorem aKA(he:η=KA m r)(hb:zAO prog f=true)(hc:zAU prog f avs (CX m r) res (CX m r'))(ha:SArgs σ idsK args avs)(hd:Nat.blt d N=true)(hba:avs.all (SV.bel 4)=true)
  (h:alex ⟨prog,N,w0,St0,X,0⟩ false ops rest K ((d,res.ren idsK)::zD2 (zBo idsK (CX m r)) idsK σ) (KA m r')) :
  zBE ⟨prog,N,w0,St0,X,0⟩ false ops ⟨some d,.call ⟨.value (.func f),args.toArray,ts⟩,ty,pos,after,gd⟩ rest K σ η:=by
 subst he
 have hh:=(congrArg (alex ⟨prog,N,w0,St0,X,0⟩ false ops rest K ((d,res.ren idsK)::zD2 (zBo idsK (CX m r)) idsK σ)) (zaK m r r')).mpr h
 refine zGg (C:=⟨prog,N,w0,St0,X,0⟩) (η:=KA m r) idsK hb hc ha (zVX m r) hd zXh ?_ ?_ ?_ hba ?_ ?_ hh
 ·rfl
 ·rfl
 ·rfl
 ·rfl
 ·rfl
end
theorem zVw(m:Img): CB (ck0 m):=⟨fun q x hq=>absurd hq zMp,qAV _,fun f=>by show (0:Int)<=_;decide⟩
theorem zU7(m:Img)(him:ImgOk m)(T:CK)(hT:T=ckT conF m): zAg prog 36 [zCm m] (.tup [.slice (T.at_.map enCS),bl (!T.bad)]):=by
 have hcl:=him.code
 obtain⟨us,hus⟩:=zUe (P:=prog) (n:=m.code.length) zQj zIr zTK rfl rfl zTa ⟨by omega,by omega⟩
 have hC:=zST him (zNt m) (zVw m) (qBG 0) ⟨-1,0,[]⟩
 refine zDU func36 rfl ntmps36 results36 rfl ?_
 intro wb St0
 unfold zCm
 repeat' first|(refine zEd (id:=1) ?_)|apply en_n|apply zAG|apply zAA|apply zAD|apply w0|refine aBox (hd:=rfl) (hro:=rfl) rfl rfl ?_|apply ay (hd:=rfl)|exact zAB rfl|exact zBN rfl
 refine Stop.go ?_
 refine zAG ?_
 refine zQM [.y (.d (.agg [.slice (m.pool.map enCn),.slice (m.code.map enIn)])),.y (.ptr 0 (0+1)),.y (.d (.slice (m.code.map enIn))),.y (.d (i64 (m.code.length:Int))),.mk (zZk 10 151 m.code.length (vD ⟨0,0,[]⟩ false) us),.mk (zXx 11)] (by kernel_rfl) (by kernel_rfl) (.inr (by kernel_rfl)) ?_ ?_
 ·exact⟨⟨⟨rfl,zBA rfl zCt rfl rfl rfl⟩,rfl⟩,⟨⟨rfl,zAC rfl zA9⟩,rfl⟩,⟨⟨rfl,zAE rfl zBg rfl rfl⟩,rfl⟩,⟨⟨rfl,zBD rfl zDk⟩,rfl⟩,⟨⟨hus _ _ _ _ _ _ _ _ _ _ rfl rfl,rfl,rfl,by kernel_rfl⟩,rfl⟩,⟨⟨zUf,rfl,rfl,by kernel_rfl⟩,rfl⟩,trivial⟩
 intro bs hbs
 rcases bs with _|⟨b1,_|⟨b2,_|⟨b3,q⟩⟩⟩
 ·simp[pnF]at hbs
 ·simp[pnF]at hbs
 ·skip
  repeat' first|(refine zEd (id:=2) ?_)|apply en_n|apply zAD|apply w0|(refine zVR (cs:=[.slice (m.pool.map enCn),.slice (m.code.map enIn),.val (.slice (some ⟨b1,0,none⟩) m.code.length m.code.length),.val (.map (some b2)),.val (.slice none 0 0),.val (.bool false)]) zTW zTQ (PD_d rfl rfl (PD_d rfl rfl (PD_d rfl rfl zCi))) rfl)|(refine zBs (by kernel_rfl) ?_;apply aBox;exact rfl;exact rfl;exact rfl;exact rfl)|apply ay (hd:=rfl)|exact zFc rfl
  refine Stop.go ?_
  refine zMx 1 3 2 m.code.length m.code.length 4 b1 (xs:=List.replicate m.code.length (vD ⟨0,0,[]⟩ false)) rfl rfl rfl rfl rfl (qAm ..) (by simp only[maxLen];omega) (fun d hd=>by rw[List.eq_of_mem_replicate hd];rfl) ?_
  refine zQO 2 3 3 b2 rfl rfl rfl ?_
  refine zNw 3 4 true 3 1 rfl rfl rfl ?_
  refine zCI (s:=[(4,.ptr 3 0)]) (h:=KA m (ck0 m)) ?_ ?_
  ·refine zAS (Le_all rfl) (zIC rfl (zAN rfl (congrArg (Ob.buf true _ 4) ?_) (zHC rfl zYR (zHC (o:=.box _) rfl ?_ (zAN rfl rfl zAs))))) rfl (zPR m _)
   ·exact qBM
   ·have e:(ck0 m).at_.length=m.code.length:=qAm ..
    rw[e]
    exact zPM
  have h1c:CB (ck1 m):=(zLd (zVw m) (k:=0) (s:=⟨-1,0,[]⟩) (by show (0:Int)<=_;omega) (qAV _)).1
  repeat' first|apply en_n|apply zAG|apply zAA|apply zAD|apply w0|(refine zBr (cs:=[i64 (-1),i64 0,zBW [],bl false]) zGq zEv (PD_d rfl rfl zCi) rfl)|(refine aKA rfl zFx hC (SArgs_all rfl) rfl rfl ?_)|apply ay (hd:=rfl)|exact zAH rfl|apply zAK
  all_goals first|omega|skip
  refine zBV (α:=CK) (fun c=>CRun conF m T c/\CB c) (fun _=>[(4,.ptr 3 0)]) (fun c=>KA m c) (fun c=>c.mu) (ck1 m) ⟨hT▸zSW conF m,h1c⟩ (zAS (Le_all rfl) (zBF _) rfl (zPR m _)) ?_
  rintro⟨A,H,W,B⟩ ⟨hR,hB⟩
  have hwl:=hB.wrk
  have hcn:=zKp ⟨A,H,W,B⟩
  have hln:=hR.inv.len
  cases B with
  |true =>
   have hTc:=hR.done (.inl rfl)
   subst hTc
   by_cases hw:W=[]
   ·have hlen:¬(W.length:Int)>0:=by rw[hw];simp
    skip
    repeat' first|(refine zEd (id:=7) ?_)|apply en_n|apply zAG|apply zAA|apply zAD|apply w0|exact zAL rfl|(apply zAE;exact rfl;(first|with_reducible exact zAt|with_reducible exact zAb|with_reducible exact zEZ);exact rfl;exact rfl)|refine k1u (hd:=rfl) rfl rfl ?_|exact zDx rfl rfl|apply ay (hd:=rfl)|exact zAF rfl|exact zAV rfl rfl|exact zA3 rfl zCP|exact zAH rfl|exact zAC rfl zFo|refine zAJ rfl ?_|apply zBX|apply en_e|apply eb_e
    all_goals refine Stop.go ?_
    refine zCo 1 (mu:=true) rfl rfl ?_
    repeat' first|apply en_n|apply zAG|apply zAD|apply w0|(refine zBQ ?_)|(refine zBp ?_)|(refine RV_b rfl rfl ?_ ?_ ?_)|(refine RV_d rfl ?_ ?_)|exact zCh|exact zAL rfl|(apply zAE;exact rfl;(first|with_reducible exact zAt|with_reducible exact zAb|with_reducible exact zEZ);exact rfl;exact rfl)|apply ay (hd:=rfl)|exact zAB rfl|exact zBS rfl|exact zAp rfl|exact zAH rfl|(apply zAC;exact rfl;(with_reducible first|exact zE8|exact zC6))|apply zAQ|refine zAf (by kernel_rfl) (by kernel_rfl) ?_
    ·exact(qAC _).symm
    ·rfl
    ·rfl
   ·have hpos:0<W.length:=qBe.2 hw
    have hlen:(W.length:Int)>0:=by omega
    skip
    repeat' first|(refine zEd (id:=7) ?_)|apply en_n|apply zAG|apply zAA|apply zAD|apply w0|exact zAL rfl|(apply zAE;exact rfl;(first|with_reducible exact zAt|with_reducible exact zAb|with_reducible exact zEZ);exact rfl;exact rfl)|exact zEr rfl rfl|apply ay (hd:=rfl)|exact zAF rfl|exact zBS rfl|exact zAZ rfl rfl|exact zA3 rfl zCP|exact zAH rfl|(apply zAC;exact rfl;(with_reducible first|exact zFo|exact zC6))|refine w1 rfl rfl ?_|refine zAJ rfl ?_|apply zBX|apply en_e|apply eb_e
    all_goals refine Stop.go ?_
    refine zCo 1 (mu:=true) rfl rfl ?_
    repeat' first|apply en_n|apply zAG|apply zAD|apply w0|(refine zBQ ?_)|(refine zBp ?_)|(refine RV_b rfl rfl ?_ ?_ ?_)|(refine RV_d rfl ?_ ?_)|exact zCh|exact zAL rfl|(apply zAE;exact rfl;(first|with_reducible exact zAt|with_reducible exact zAb|with_reducible exact zEZ);exact rfl;exact rfl)|apply ay (hd:=rfl)|exact zAB rfl|exact zBS rfl|exact zAp rfl|exact zAH rfl|(apply zAC;exact rfl;(with_reducible first|exact zE8|exact zC6))|apply zAQ|refine zAf (by kernel_rfl) (by kernel_rfl) ?_
    ·exact(qAC _).symm
    ·rfl
    ·rfl
  |false =>
   by_cases hw:W=[]
   ·have hTc:=hR.done (.inr hw)
    subst hTc
    have hlen:¬(W.length:Int)>0:=by rw[hw];simp
    skip
    repeat' first|(refine zEd (id:=7) ?_)|apply en_n|apply zAG|apply zAA|apply zAD|apply w0|exact zAL rfl|(apply zAE;exact rfl;(first|with_reducible exact zAt|with_reducible exact zAb|with_reducible exact zEZ);exact rfl;exact rfl)|refine k1u (hd:=rfl) rfl rfl ?_|exact zDx rfl rfl|apply ay (hd:=rfl)|exact zAF rfl|exact zAV rfl rfl|exact zA3 rfl zCP|exact zAH rfl|exact zAC rfl zFo|refine zAJ rfl ?_|apply zBX|apply en_e|apply eb_e
    all_goals refine Stop.go ?_
    refine zCo 1 (mu:=true) rfl rfl ?_
    repeat' first|apply en_n|apply zAG|apply zAD|apply w0|(refine zBQ ?_)|(refine zBp ?_)|(refine RV_b rfl rfl ?_ ?_ ?_)|(refine RV_d rfl ?_ ?_)|exact zCh|exact zAL rfl|(apply zAE;exact rfl;(first|with_reducible exact zAt|with_reducible exact zAb|with_reducible exact zEZ);exact rfl;exact rfl)|apply ay (hd:=rfl)|exact zAB rfl|exact zBS rfl|exact zAp rfl|exact zAH rfl|(apply zAC;exact rfl;(with_reducible first|exact zE8|exact zC6))|apply zAQ|refine zAf (by kernel_rfl) (by kernel_rfl) ?_
    ·exact(qAC _).symm
    ·rfl
    ·rfl
   ·obtain⟨k,s,hwk,hk0,hkl,hat,hci,hRn,hmu⟩:=hR.next him rfl hw
    have hpos:0<W.length:=qBe.2 hw
    have hD:=do_m him hci (zRe hB) hk0 hat
    have hlen:(W.length:Int)>0:=by omega
    have en:((W.length:Int)-1).toNat=W.length-1:=by omega
    have hlast:(W.map ival)[((W.length:Int)-1).toNat]?=some (i64 k):=by
     rw[en,qAL,<-qBS]
     have h2:W=W.dropLast++[k]:=hwk
     rw[h2,List.getLast?_append]
     rfl
    have hcd:=zas (con:=conF) him (zRe hB) hk0 hkl hat
    have hr1:0<=(W.length:Int)-1/\(W.length:Int)-1<(W.length:Int):=by omega
    have hr2:0<=(W.length:Int)-1/\(W.length:Int)-1<=(W.length:Int):=by omega
    have edl:W.dropLast.length=((W.length:Int)-1).toNat:=by rw[qAv,en]
    have hbx:Ob.box [.d (.slice (m.pool.map enCn)),.d (.slice (m.code.map enIn)),.buf 1 A.length,.mp 2,.buf 4 W.dropLast.length,.d (bl false)]=Ob.box [.d (.slice (m.pool.map enCn)),.d (.slice (m.code.map enIn)),.buf 1 A.length,.mp 2,.buf 4 ((W.length:Int)-1).toNat,.d (bl false)]:=by rw[edl]
    have hcut:WOb (Ob.buf true 3 1 (W.dropLast.map ival)) (Ob.buf true 3 1 (W.map ival)):=by
     rw[qBY,qBb]
     exact zKJ _ _
    repeat' first|(refine zFZ (id:=6) (s:=[(4,.ptr 3 0),(5,.d (i64 k))]) (h:=KA m (CK.popd ⟨A,H,W,false⟩)) (zAS (Le_all rfl) (zIC rfl (zAN rfl rfl (zAN rfl rfl (zAN rfl hbx (zHC rfl hcut zAs))))) rfl (zPR m _)) ?_)|apply en_n|apply zAG|apply zAA|apply zAD|apply w0|exact zAL rfl|(apply zAE;exact rfl;(first|with_reducible exact zAt|with_reducible exact zAb|with_reducible exact zEZ);exact rfl;exact rfl)|exact zBM rfl rfl rfl zA5 hr1 (qA1 (qAC _).symm)|exact zCR rfl zAP rfl hlast rfl|(apply zF1;exact rfl;exact(by rw[zA5];rfl);exact rfl;exact hr2;exact⟨_,_,_,_,rfl,qA1 (qAC _).symm⟩)|(refine zBs (by kernel_rfl) ?_;apply zAj;exact rfl;exact rfl;exact rfl;(with_reducible exact zAt);exact rfl;exact rfl;exact rfl;exact rfl)|(refine aKA rfl zUt hD (SArgs_all rfl) rfl rfl ?_)|exact zEr rfl rfl|apply ay (hd:=rfl)|exact zAF rfl|exact zAB rfl|refine zC2 rfl rfl ?_|exact zBS rfl|exact zAZ rfl rfl|exact zA3 rfl zCP|exact zAH rfl|(apply zAC;exact rfl;(with_reducible first|exact zFo|exact zC6))|refine w1 rfl rfl ?_|(refine w0' ?_)|refine zAI rfl ?_|apply zAK|apply zAR|refine zAf (by kernel_rfl) (by kernel_rfl) ?_|apply eb_n
    all_goals first|omega|(rw[qAC];omega)|skip
    exact⟨_,⟨hRn,hcd⟩,hmu,zAS (Le_all rfl) (zBF _) rfl (zPR m _)⟩
 ·simp[pnF]at hbs
end Go.Proofs.YtcagoomibpcdlaaGreatDoor

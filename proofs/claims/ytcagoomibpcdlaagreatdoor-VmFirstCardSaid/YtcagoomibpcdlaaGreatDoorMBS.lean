/- Parts of the proof. -/
import Derived.Test.YtcagoomibpcdlaaGreatDoorMBH
import Derived.Test.YtcagoomibpcdlaaGreatDoorMBR
set_option maxHeartbeats 16000000
namespace Go.Proofs.YtcagoomibpcdlaaGreatDoor
open _root_.Go.Proofs.Tryz
open Go.Sx Go.Vm
theorem zSZ: zIz prog 151=some (vD ⟨0,0,[]⟩ false):=by kernel_rfl
abbrev idsK: List Nat:=[3,1,2,4]
def KA(m:Img)(c:CK): List Ob :=
 [.gone,.buf true 151 4 (c.at_.map enCS),.map none (kvs cki (hasD c.has)),
  .box [.d (.slice (m.pool.map enCn)),.d (.slice (m.code.map enIn)),.buf 1 c.at_.length,.mp 2,.buf 4 c.work.length,.d (bl c.bad)],.buf true 3 1 (c.work.map ival)]
theorem zZU(m:Img)(c c':CK): zDR (zEU (zBa idsK (CX m c)) idsK (KA m c)) idsK ((CX m c').map (Ob.ren idsK))=KA m c':=rfl
theorem zUr(m:Img)(c:CK): Picks (KA m c) idsK (CX m c):=rfl
theorem zWy: idsK.Nodup:=by decide
theorem zOt(m:Img)(c:CK): (KA m c).all (Ob.below (KA m c).length)=true:=rfl
theorem zXh{k:Option Nat}{l:List (Value×D)}: WOb (.map none l) (.map k l):=fun g w id h=>by
 obtain⟨b,es,ck,h1,h2,h3,h4,h5,h6,h7⟩:=h
 exact⟨b,es,ck,h1,h2,h3,h4,h5,(fun c hc=>by cases hc),h7⟩
attribute [local irreducible] zAN Program.underlying Ylds zA9 alex zB3 zBf awp zAi zCC zCB zAU zBl zAz zDt zBq zBj zBB zBr zB2 zB8 zD7 zBi zBd zBg JFit
section
variable {N d:Nat}{w0:World}{St0:Stab}{X:Nat->Prop}{ops:Array Oper}{rest:List Oper}{K:Sl->List Ob->Prop}{σ:Sl}{ty:TypeId}{pos:String}{after:Array Edge}{gd:Option (Nat×Bool)}{f:FuncId}{args:List Operand}{ts:Array TypeId}{avs:List SV}{m:Img}{r r':CK}{res:SV}{η:List Ob}
theorem aKA(he:η=KA m r)(hb:zAN prog f=true)(hc:zAU prog f avs (CX m r) res (CX m r'))(ha:SArgs σ idsK args avs)(hd:Nat.blt d N=true)(hba:avs.all (SV.bel 4)=true)
  (h:alex ⟨prog,N,w0,St0,X,0⟩ false ops rest K ((d,res.ren idsK)::zDx (zBa idsK (CX m r)) idsK σ) (KA m r')) :
  zA9 ⟨prog,N,w0,St0,X,0⟩ false ops ⟨some d,.call ⟨.value (.func f),args.toArray,ts⟩,ty,pos,after,gd⟩ rest K σ η:=by
 subst he
 have hh:=(congrArg (alex ⟨prog,N,w0,St0,X,0⟩ false ops rest K ((d,res.ren idsK)::zDx (zBa idsK (CX m r)) idsK σ)) (zZU m r r')).mpr h
 refine zGc (C:=⟨prog,N,w0,St0,X,0⟩) (η:=KA m r) idsK hb hc ha (zUr m r) hd zWy ?_ ?_ ?_ hba ?_ ?_ hh
 ·rfl
 ·rfl
 ·rfl
 ·rfl
 ·rfl
end
theorem zVE(m:Img): CB (ck0 m):=⟨fun q x hq=>absurd hq zMG,qAX _,fun f=>by show (0:Int)<=_;decide⟩
theorem zUP(m:Img)(him:ImgOk m)(T:CK)(hT:T=ckT conF m): zAi prog 36 [zDH m] (.tup [.slice (T.at_.map enCS),bl (!T.bad)]):=by
 have hcl:=him.code
 obtain⟨us,hus⟩:=zTs (P:=prog) (n:=m.code.length) zP5 zIc zSZ rfl rfl zSp ⟨by omega,by omega⟩
 have hC:=zRf him (zNM m) (zVE m) (qA6 0) ⟨-1,0,[]⟩
 refine zED func36 rfl ntmps36 results36 rfl ?_
 intro wb St0
 unfold zDH
 repeat' first|(refine zEj (id:=1) ?_)|apply en_n|apply zAH|apply zAA|apply zAD|apply w0|(apply aBox (hd:=rfl) (hro:=rfl);exact rfl;exact rfl)|apply ay (hd:=rfl)|exact zAB rfl|exact zCD rfl
 refine Stop.go ?_
 refine zAH ?_
 refine zPj [.y (.d (.agg [.slice (m.pool.map enCn),.slice (m.code.map enIn)])),.y (.ptr 0 (0+1)),.y (.d (.slice (m.code.map enIn))),.y (.d (i64 (m.code.length:Int))),.mk (zYv 10 151 m.code.length (vD ⟨0,0,[]⟩ false) us),.mk (zXD 11)] (by kernel_rfl) (by kernel_rfl) (.inr (by kernel_rfl)) ?_ ?_
 ·exact⟨⟨⟨rfl,zA4 rfl zCo rfl rfl rfl⟩,rfl⟩,⟨⟨rfl,zAC rfl zBD⟩,rfl⟩,⟨⟨rfl,zAE rfl zBo rfl rfl⟩,rfl⟩,⟨⟨rfl,zBI rfl zEd⟩,rfl⟩,⟨⟨hus _ _ _ _ _ _ _ _ _ _ rfl rfl,rfl,rfl,by kernel_rfl⟩,rfl⟩,⟨⟨zTt,rfl,rfl,by kernel_rfl⟩,rfl⟩,trivial⟩
 intro bs hbs
 rcases bs with _|⟨b1,_|⟨b2,_|⟨b3,q⟩⟩⟩
 ·simp[pnF]at hbs
 ·simp[pnF]at hbs
 ·skip
  repeat' first|(refine zEj (id:=2) ?_)|apply en_n|apply zAD|apply w0|(refine zUl (cs:=[.slice (m.pool.map enCn),.slice (m.code.map enIn),.val (.slice (some ⟨b1,0,none⟩) m.code.length m.code.length),.val (.map (some b2)),.val (.slice none 0 0),.val (.bool false)]) zSl zSf (PD_d rfl rfl (PD_d rfl rfl (PD_d rfl rfl zCf))) rfl)|(refine zBv (by kernel_rfl) ?_;apply aBox;exact rfl;exact rfl;exact rfl;exact rfl)|apply ay (hd:=rfl)|exact zFZ rfl
  refine Stop.go ?_
  refine zMP 1 3 2 m.code.length m.code.length 4 b1 (xs:=List.replicate m.code.length (vD ⟨0,0,[]⟩ false)) rfl rfl rfl rfl rfl (qAp ..) (by simp only[maxLen];omega) (fun d hd=>by rw[List.eq_of_mem_replicate hd];rfl) ?_
  refine zPl 2 3 3 b2 rfl rfl rfl ?_
  refine zNP 3 4 true 3 1 rfl rfl rfl ?_
  refine zDa (s:=[(4,.ptr 3 0)]) (h:=KA m (ck0 m)) ?_ ?_
  ·refine zAT (Le_all rfl) (zHx rfl (zAO rfl (congrArg (Ob.buf true _ 4) ?_) (zII rfl zXh (zII (o:=.box _) rfl ?_ (zAO rfl rfl zAt))))) rfl (zOt m _)
   ·exact qBR
   ·have e:(ck0 m).at_.length=m.code.length:=qAp ..
    rw[e]
    exact zOn
  have h1c:CB (ck1 m):=(zLA (zVE m) (k:=0) (s:=⟨-1,0,[]⟩) (by show (0:Int)<=_;omega) (qAX _)).1
  repeat' first|apply en_n|apply zAH|apply zAA|apply zAD|apply w0|(refine zBY (cs:=[i64 (-1),i64 0,zCK [],bl false]) zGh zEn (PD_d rfl rfl zCf) rfl)|(refine aKA rfl zFr hC (SArgs_all rfl) rfl rfl ?_)|apply ay (hd:=rfl)|exact zAG rfl|apply zAL
  all_goals first|omega|skip
  refine zBW (α:=CK) (fun c=>CRun conF m T c/\CB c) (fun _=>[(4,.ptr 3 0)]) (fun c=>KA m c) (fun c=>c.mu) (ck1 m) ⟨hT▸zRi conF m,h1c⟩ (zAT (Le_all rfl) (zB5 _) rfl (zOt m _)) ?_
  rintro⟨A,H,W,B⟩ ⟨hR,hB⟩
  have hwl:=hB.wrk
  have hcn:=zKM ⟨A,H,W,B⟩
  have hln:=hR.inv.len
  cases B with
  |true =>
   have hTc:=hR.done (.inl rfl)
   subst hTc
   by_cases hw:W=[]
   ·have hlen:¬(W.length:Int)>0:=by rw[hw];simp
    skip
    repeat' first|(refine zEj (id:=7) ?_)|apply en_n|apply zAH|apply zAA|apply zAD|apply w0|exact zAK rfl|(apply zAE;exact rfl;(first|with_reducible exact zAw|with_reducible exact zAc|with_reducible exact zER);exact rfl;exact rfl)|(apply k1u (hd:=rfl);exact rfl;exact rfl)|exact zDs rfl rfl|apply ay (hd:=rfl)|exact zAF rfl|exact zAX rfl rfl|exact zA5 rfl zCc|exact zAG rfl|exact zAC rfl zFj|refine zAJ rfl ?_|apply zBc|apply en_e|apply eb_e
    all_goals refine Stop.go ?_
    refine zCx 1 (mu:=true) rfl rfl ?_
    repeat' first|apply en_n|apply zAH|apply zAD|apply w0|(refine zBu ?_)|(refine zCJ ?_)|(refine RV_b rfl rfl ?_ ?_ ?_)|(refine RV_d rfl ?_ ?_)|exact zDC|exact zAK rfl|(apply zAE;exact rfl;(first|with_reducible exact zAw|with_reducible exact zAc|with_reducible exact zER);exact rfl;exact rfl)|apply ay (hd:=rfl)|exact zAB rfl|exact zBX rfl|exact zAy rfl|exact zAG rfl|(apply zAC;exact rfl;(with_reducible first|exact zEy|exact zC4))|apply zAQ|refine zAj (by kernel_rfl) (by kernel_rfl) ?_
    ·exact(qAC _).symm
    ·rfl
    ·rfl
   ·have hpos:0<W.length:=qBi.2 hw
    have hlen:(W.length:Int)>0:=by omega
    skip
    repeat' first|(refine zEj (id:=7) ?_)|apply en_n|apply zAH|apply zAA|apply zAD|apply w0|exact zAK rfl|(apply zAE;exact rfl;(first|with_reducible exact zAw|with_reducible exact zAc|with_reducible exact zER);exact rfl;exact rfl)|exact zEk rfl rfl|apply ay (hd:=rfl)|exact zAF rfl|exact zBX rfl|exact zAa rfl rfl|exact zA5 rfl zCc|exact zAG rfl|(apply zAC;exact rfl;(with_reducible first|exact zFj|exact zC4))|refine w1 rfl rfl ?_|refine zAJ rfl ?_|apply zBc|apply en_e|apply eb_e
    all_goals refine Stop.go ?_
    refine zCx 1 (mu:=true) rfl rfl ?_
    repeat' first|apply en_n|apply zAH|apply zAD|apply w0|(refine zBu ?_)|(refine zCJ ?_)|(refine RV_b rfl rfl ?_ ?_ ?_)|(refine RV_d rfl ?_ ?_)|exact zDC|exact zAK rfl|(apply zAE;exact rfl;(first|with_reducible exact zAw|with_reducible exact zAc|with_reducible exact zER);exact rfl;exact rfl)|apply ay (hd:=rfl)|exact zAB rfl|exact zBX rfl|exact zAy rfl|exact zAG rfl|(apply zAC;exact rfl;(with_reducible first|exact zEy|exact zC4))|apply zAQ|refine zAj (by kernel_rfl) (by kernel_rfl) ?_
    ·exact(qAC _).symm
    ·rfl
    ·rfl
  |false =>
   by_cases hw:W=[]
   ·have hTc:=hR.done (.inr hw)
    subst hTc
    have hlen:¬(W.length:Int)>0:=by rw[hw];simp
    skip
    repeat' first|(refine zEj (id:=7) ?_)|apply en_n|apply zAH|apply zAA|apply zAD|apply w0|exact zAK rfl|(apply zAE;exact rfl;(first|with_reducible exact zAw|with_reducible exact zAc|with_reducible exact zER);exact rfl;exact rfl)|(apply k1u (hd:=rfl);exact rfl;exact rfl)|exact zDs rfl rfl|apply ay (hd:=rfl)|exact zAF rfl|exact zAX rfl rfl|exact zA5 rfl zCc|exact zAG rfl|exact zAC rfl zFj|refine zAJ rfl ?_|apply zBc|apply en_e|apply eb_e
    all_goals refine Stop.go ?_
    refine zCx 1 (mu:=true) rfl rfl ?_
    repeat' first|apply en_n|apply zAH|apply zAD|apply w0|(refine zBu ?_)|(refine zCJ ?_)|(refine RV_b rfl rfl ?_ ?_ ?_)|(refine RV_d rfl ?_ ?_)|exact zDC|exact zAK rfl|(apply zAE;exact rfl;(first|with_reducible exact zAw|with_reducible exact zAc|with_reducible exact zER);exact rfl;exact rfl)|apply ay (hd:=rfl)|exact zAB rfl|exact zBX rfl|exact zAy rfl|exact zAG rfl|(apply zAC;exact rfl;(with_reducible first|exact zEy|exact zC4))|apply zAQ|refine zAj (by kernel_rfl) (by kernel_rfl) ?_
    ·exact(qAC _).symm
    ·rfl
    ·rfl
   ·obtain⟨k,s,hwk,hk0,hkl,hat,hci,hRn,hmu⟩:=hR.next him rfl hw
    have hpos:0<W.length:=qBi.2 hw
    have hD:=do_m him hci (zQv hB) hk0 hat
    have hlen:(W.length:Int)>0:=by omega
    have en:((W.length:Int)-1).toNat=W.length-1:=by omega
    have hlast:(W.map ival)[((W.length:Int)-1).toNat]?=some (i64 k):=by
     rw[en,qAL,<-qBc]
     have h2:W=W.dropLast++[k]:=hwk
     rw[h2,List.getLast?_append]
     rfl
    have hcd:=zZx (con:=conF) him (zQv hB) hk0 hkl hat
    have hr1:0<=(W.length:Int)-1/\(W.length:Int)-1<(W.length:Int):=by omega
    have hr2:0<=(W.length:Int)-1/\(W.length:Int)-1<=(W.length:Int):=by omega
    have edl:W.dropLast.length=((W.length:Int)-1).toNat:=by rw[qAt,en]
    have hbx:Ob.box [.d (.slice (m.pool.map enCn)),.d (.slice (m.code.map enIn)),.buf 1 A.length,.mp 2,.buf 4 W.dropLast.length,.d (bl false)]=Ob.box [.d (.slice (m.pool.map enCn)),.d (.slice (m.code.map enIn)),.buf 1 A.length,.mp 2,.buf 4 ((W.length:Int)-1).toNat,.d (bl false)]:=by rw[edl]
    have hcut:WOb (Ob.buf true 3 1 (W.dropLast.map ival)) (Ob.buf true 3 1 (W.map ival)):=by
     rw[qBe,qBX]
     exact zJr _ _
    repeat' first|(refine zFV (id:=6) (s:=[(4,.ptr 3 0),(5,.d (i64 k))]) (h:=KA m (CK.popd ⟨A,H,W,false⟩)) (zAT (Le_all rfl) (zHx rfl (zAO rfl rfl (zAO rfl rfl (zAO rfl hbx (zII rfl hcut zAt))))) rfl (zOt m _)) ?_)|apply en_n|apply zAH|apply zAA|apply zAD|apply w0|exact zAK rfl|(apply zAE;exact rfl;(first|with_reducible exact zAw|with_reducible exact zAc|with_reducible exact zER);exact rfl;exact rfl)|exact zBZ rfl rfl rfl zBJ hr1 (qA0 (qAC _).symm)|exact zCl rfl zAP rfl hlast rfl|(apply zFv;exact rfl;exact(by rw[zBJ];rfl);exact rfl;exact hr2;exact⟨_,_,_,_,rfl,qA0 (qAC _).symm⟩)|(refine zBv (by kernel_rfl) ?_;apply zAh;exact rfl;exact rfl;exact rfl;(with_reducible exact zAw);exact rfl;exact rfl;exact rfl;exact rfl)|(refine aKA rfl zT9 hD (SArgs_all rfl) rfl rfl ?_)|exact zEk rfl rfl|apply ay (hd:=rfl)|exact zAF rfl|exact zAB rfl|refine zDb rfl rfl ?_|exact zBX rfl|exact zAa rfl rfl|exact zA5 rfl zCc|exact zAG rfl|(apply zAC;exact rfl;(with_reducible first|exact zFj|exact zC4))|refine w1 rfl rfl ?_|(refine w0' ?_)|refine zAI rfl ?_|apply zAL|apply zAS|refine zAj (by kernel_rfl) (by kernel_rfl) ?_|apply eb_n
    all_goals first|omega|(rw[qAC];omega)|skip
    exact⟨_,⟨hRn,hcd⟩,hmu,zAT (Le_all rfl) (zB5 _) rfl (zOt m _)⟩
 ·simp[pnF]at hbs
end Go.Proofs.YtcagoomibpcdlaaGreatDoor

/- Parts. -/
import Derived.Test.YtjcgiiedaccjpaaGreatDoorMBE
set_option maxHeartbeats 16000000
namespace Go.Proofs.YtjcgiiedaccjpaaGreatDoor
open _root_.Go.Proofs.Tryz
open Go.Sx
attribute [local irreducible] zAK Program.underlying Ylds zA3 alex zBc zBL awp zAc zBd zBi zBD zBI zBS zA5 zBT zBY zBe zBs zBN VCall
theorem zEh{ks:List Tr}{i:Nat}{k:Tr}(h:ks[i]?=some k): szL (ks.drop i)=k.sz+szL (ks.drop (i+1)):=by
 obtain⟨hi,rfl⟩:=qAA.1 h
 rw[qAZ hi,szL]
theorem zNZ{k:Int}{tx:List UInt8}{S:Bag}{pv:List (List UInt8)}{ks:List Tr}{i:Nat}{t:Tr}{F:List (List UInt8)}(h:ks[i]?=some t)(hk:k=6\/k=9\/k=11): zCZ k tx S pv (ks.drop i) i F=zCZ k tx S pv (ks.drop (i+1)) (i+1) (t.free S F):=by
 obtain⟨hi,rfl⟩:=qAA.1 h
 rw[qAZ hi,zCZ,if_neg (by omega),bagK,if_neg (by omega),if_neg (by omega)]
theorem zPj{L:List Nd}(hL:L.length<=2000000){m:Nat}(ih:zGy L m)(n:Nat)(x:Nd)(ks:List Tr)(S:Bag)(F:List (List UInt8))(b:Nat)(hk:x.kind=6\/x.kind=9\/x.kind=11)(hm:Tr.sz (.mk x ks)<=m+1)(h:At L n (.mk x ks))(hw:Tr.werr (.mk x ks) false=0)(hS:GoodB S)(hb:∀a,lkB S a<=b)(hb2:b+Tr.sz (.mk x ks)<=1000000)(hF:F.length+Tr.sz (.mk x ks)<=1000000):
  zBD prog 143 [.ptr 0 0,.d (i64 (n:Int))] (fO L S F) (.d (i64 ((n+Tr.sz (.mk x ks):Nat):Int))) (fO L S (Tr.free (.mk x ks) S F)):=by
 obtain⟨h1,h2⟩:=zHN hw
 obtain⟨h3,h4,h5⟩:=zDY h1
 have hx:=h.here
 have hkn:=h.kidn
 have hlen:=h.len
 have hsz:Tr.sz (.mk x ks)=szL ks+1:=by rw[Tr.sz]
 have hsl:=zIz ks
 have hke:=zHj n ks
 have he:Tr.free (.mk x ks) S F=zCZ x.kind x.text S [] ks 0 F:=by rw[Tr.free,if_neg (by omega)]
 rw[he]
 have hkid:∀(i:Nat) (t:Tr) (F1:List (List UInt8)),ks[i]?=some t->F1.length+szL (ks.drop i)<=999999->zBD prog 143 [.ptr 0 0,.d (i64 ((kidAt n ks i:Nat):Int))] (fO L S F1) (.d (i64 ((kidAt n ks (i+1):Nat):Int))) (fO L S (t.free S F1)):=fun i t F1 hi hf=>by
  rw[zDP hi]
  have h6:=zFV (qAE hi)
  rw[zEh hi]at hf
  refine ih _ t S F1 b (by omega) (h.kid hi) ?_ hS hb (by omega) (by omega)
  have h7:=zFT (j:=i) h2 hi
  rcases hk with hk|hk|hk <;> simpa[hk]using h7
 have hF0:F.length+szL ks<=999999:=by omega
 have hN:n+1+szL ks=n+Tr.sz (.mk x ks):=by omega
 rw[<-hN,<-hke]
 clear h1 h2 h3 h4 h5 hw h hS ih hsz hm hb2 hF he hN hke
 rcases hk with hk|hk|hk
 all_goals
  have hk':x.kind=6\/x.kind=9\/x.kind=11:=by omega
  refine zB3 func143 rfl ntmps143 results143 rfl rfl rfl ?_
  intro wb St0 X fx
  repeat' first|apply en_n|apply zAE|apply zAA|apply zAD|apply w0|exact zBU rfl rfl|exact zBW rfl rfl|refine k0u (hd:=rfl) rfl rfl ?_|exact zAS rfl|(apply aJ (hd:=rfl);(first|exact zAq rfl|exact Co_bb rfl rfl rfl|exact Co_nn rfl);exact rfl;(with_reducible exact zAa);assumption;omega;exact fun _=>rfl)|(apply zBF (hd:=rfl) (hro:=rfl);(with_reducible exact zAx))|apply ay (hd:=rfl)|exact zAC rfl|exact zAB rfl|exact zAg rfl zAZ rfl|refine zBE rfl rfl ?_|exact zAi rfl rfl|exact zAj rfl rfl|exact zAG rfl|(apply zAH;exact rfl;(with_reducible first|exact fd_0|exact fn_0|exact fn_3))|(apply zAJ;exact rfl;(with_reducible first|exact zAd|exact zAY|exact zAp);exact rfl;exact rfl)|refine w1 rfl rfl ?_|(refine w0' ?_)|(apply zAl;exact rfl;exact rfl;exact rfl;(with_reducible exact zAZ);exact rfl;exact rfl;exact rfl;exact rfl)|refine zAN rfl ?_|refine zAQ rfl ?_|apply zAI|apply zAO|apply eb_n
  all_goals try omega
  refine zAv (α:=Nat×List (List UInt8)) (fun p=>p.1<=ks.length/\p.2.length+szL (ks.drop p.1)<=999999/\zCZ x.kind x.text S [] (ks.drop p.1) p.1 p.2=zCZ x.kind x.text S [] ks 0 F) (fun p=>[(0,.ptr 0 0),(1,.d (i64 ((kidAt n ks p.1:Nat):Int))),(124,.d (i64 x.kids)),(125,.d (i64 (p.1:Int)))])
   (fun p=>[.bx (fx 0) (some 188) [.d (zAm L),.mp 1,.buf 2 (p.2.map str).length],bagO (fx 1) S,.buf false 9 1 (p.2.map str)]) (fun p=>ks.length-p.1) (0,F) ⟨qAR _,by rw[qBM];exact hF0,by rw[qBM]⟩
   (zAV (Le_cons rfl (Le_d rfl (by rw[zCV];rfl) (Le_all rfl))) (zAT rfl rfl (zAT rfl rfl (zBM rfl rfl rfl zAW))) rfl rfl) ?_
  rintro⟨i,F1⟩ ⟨q1,q2,q3⟩
  dsimp only at q1 q2 q3 ⊢
  rcases qAI i ks.length with hlt|hge
  ·obtain⟨t,ht⟩:∃t,ks[i]?=some t:=⟨_,qAB hlt⟩
   have hc:=hkid i t F1 ht q2
   rw[zNZ ht hk']at q3
   have hfl:=zEn t S F1
   rw[zEh ht]at q2
   have hli:(i:Int)<x.kids:=by omega
   generalize t.free S F1=F2 at *
   repeat' first|apply en_n|apply zAE|apply zAA|apply zAD|apply w0|exact zBh rfl rfl|(refine zDf [0,1,2] zHp (hc) (SArgs_all rfl) rfl rfl (by decide) rfl rfl rfl rfl rfl rfl ?_)|apply ay (hd:=rfl)|exact zAC rfl|exact zAB rfl|refine zBE rfl rfl ?_|exact zAG rfl|refine zAN rfl ?_|apply zAI|apply zAO|apply eb_n
   all_goals try omega
   exact⟨(i+1,F2),⟨by simp only;omega,by simp only;omega,q3⟩,by simp only;omega,zAV (Le_all rfl) (zAT rfl rfl (zAT rfl rfl (zBM rfl rfl rfl zAW))) rfl rfl⟩
  ·have hli:¬(i:Int)<x.kids:=by omega
   have e:i=ks.length:=by omega
   subst e
   rw[List.drop_length,zCZ]at q3
   rw[<-q3]
   exact yV

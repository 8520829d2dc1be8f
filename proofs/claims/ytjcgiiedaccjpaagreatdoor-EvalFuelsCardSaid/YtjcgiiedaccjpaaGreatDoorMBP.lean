/- Parts. -/
import Derived.Test.YtjcgiiedaccjpaaGreatDoorMBO
set_option maxHeartbeats 16000000
namespace Go.Proofs.YtjcgiiedaccjpaaGreatDoor
open _root_.Go.Proofs.Tryz
open Go.Sx
attribute [local irreducible] zAK Program.underlying Ylds zA3 alex zBc zBL awp zAc zBd zBi zBD zBI zBS zA5 zBT zBY zBe zBs zBN VCall
theorem zVV{P:Program}{η:List Ob}{σ:Sl}{dst:Option Nat}{ty:TypeId}{pos:String}{after:Array Edge}{gd:Option (Nat×Bool)}{t yt:TypeId}{p q:Operand}{k:Int}{c:Nat}(hk:k=2*(c:Int)+1)(hc:c<=1000000)(hp:oval σ p=.d (i64 k))(hq:oval σ q=.d (i64 2)):
  Ylds P η σ ⟨dst,.binOp .quo t p q yt,ty,pos,after,gd⟩ (.d (i64 (c:Int))):=by
 have h:=zVR (P:=P) (η:=η) (dst:=dst) (ty:=ty) (pos:=pos) (after:=after) (gd:=gd) (t:=t) (yt:=yt) hp hq (by decide)
 have e:IntKind.i64.wrap (k.tdiv 2)=(c:Int):=by
  rw[zFF,Int.tdiv_eq_ediv_of_nonneg (by omega)];omega
 rw[e]at h;exact h
theorem zPb{k:Int}{tx:List UInt8}{S:Bag}(pv pv':List (List UInt8)){i:Nat}(hk:k=10)(hi:i%2=1)(F:List (List UInt8)): ∀ks:List Tr,zCZ k tx S pv ks i F=zCZ k tx S pv' ks i F
 |[]=>by rw[zCZ,zCZ]
 |t::r=>by rw[zCZ,zCZ,if_pos ⟨hk,hi⟩,if_pos ⟨hk,hi⟩]
theorem zPa{k:Int}{tx:List UInt8}{S:Bag}{ks:List Tr}{i:Nat}{p u:Tr}{F:List (List UInt8)}(hk:k=10)(hi:i%2=1)(hp:ks[i]?=some p)(hu:ks[i+1]?=some u):
  zCZ k tx S [] (ks.drop i) i F=zCZ k tx S [] (ks.drop (i+2)) (i+2) (u.free (upsB S (zBn p.fl)) F):=by
 obtain⟨h1,rfl⟩:=qAA.1 hp
 obtain⟨h2,rfl⟩:=qAA.1 hu
 rw[qAZ h1,qAZ h2,zCZ,if_pos ⟨hk,hi⟩,zCZ,if_neg (by omega),bagK,if_neg (by omega),if_pos ⟨hk,by omega⟩]
 exact zPb _ _ hk (by omega) _ _
theorem At.cut{L:List Nd}{n:Nat}{t:Tr}(h:At L n t): cutO L (n:Int) ((n+t.sz:Nat):Int)=some t.fl:=by
 obtain⟨R,hd⟩:=h.pre
 have hl:=h.len
 rw[cutO,if_pos (by omega),qAc,qAc,List.drop_take,hd,Nat.add_sub_cancel_left,<-Tr.fl_len,List.take_left]
theorem zNd{L:List Nd}(hL:L.length<=2000000){m:Nat}(ih:zGy L m)(n:Nat)(x:Nd)(ks:List Tr)(S:Bag)(F:List (List UInt8))(b:Nat)(hk:x.kind=10)(hm:Tr.sz (.mk x ks)<=m+1)(h:At L n (.mk x ks))(hw:Tr.werr (.mk x ks) false=0)(hS:GoodB S)(hb:∀a,lkB S a<=b)(hb2:b+Tr.sz (.mk x ks)<=1000000)(hF:F.length+Tr.sz (.mk x ks)<=1000000):
  zBD prog 143 [.ptr 0 0,.d (i64 (n:Int))] (fO L S F) (.d (i64 ((n+Tr.sz (.mk x ks):Nat):Int))) (fO L S (Tr.free (.mk x ks) S F)):=by
 obtain⟨h1,h2⟩:=zHN hw
 obtain⟨h3,h4,h5⟩:=zDY h1
 have hx:=h.here
 have hkn:=h.kidn
 have hlen:=h.len
 have hsz:Tr.sz (.mk x ks)=szL ks+1:=by rw[Tr.sz]
 have hsl:=zIz ks
 have hke:=zHj n ks
 have hcnt:∃c:Nat,ks.length=2*c+1/\1<=c:=by
  rw[hk]at h5
  have:3<=x.kids/\x.kids%2=1:=by simpa[cntK]using h5
  exact⟨ks.length / 2,by omega,by omega⟩
 obtain⟨c,hcl,hc1⟩:=hcnt
 obtain⟨t0,ht0⟩:∃t,ks[0]?=some t:=⟨_,qAB (by omega)⟩
 have he:Tr.free (.mk x ks) S F=zCZ x.kind x.text S [] (ks.drop 1) 1 (t0.free S F):=by
  obtain⟨hi,rfl⟩:=qAA.1 ht0
  rw[Tr.free,if_neg (by omega)]
  conv=>lhs;rw[show ks=ks.drop 0 by rw[qBM],qAZ hi]
  rw[zCZ,if_neg (by omega),bagK,if_neg (by omega),if_neg (by omega)]
 rw[he]
 have hs0:=zFV (qAE ht0)
 have hd0:=zEh ht0
 rw[qBM,qAU]at hd0
 have hfl0:=zEn t0 S F
 have hf:=ih (n+1) t0 S F b (by omega) (by simpa[zCV]using h.kid ht0) (by simpa[hk]using zFT (j:=0) h2 ht0) hS hb (by omega) (by omega)
 have hk1:n+1+t0.sz=kidAt n ks 1:=by rw[zDP ht0,zCV]
 rw[hk1]at hf
 have hpair:∀(i:Nat) (p u:Tr) (F1:List (List UInt8)),i%2=1->ks[i]?=some p->ks[i+1]?=some u->F1.length+szL (ks.drop i)<=999999->
   zBD prog 174 [.ptr 0 0,.d (i64 ((kidAt n ks (i+1):Nat):Int)),.d (strs (zBn p.fl))] (fO L S F1) (.d (i64 ((kidAt n ks (i+2):Nat):Int))) (fO L S (u.free (upsB S (zBn p.fl)) F1)):=fun i p u F1 ho hp hu hf=>by
  have e2:kidAt n ks (i+2)=kidAt n ks (i+1)+u.sz:=zDP hu
  rw[e2]
  have h6:=zFV (qAE hu)
  have h8:=zHc p.fl
  rw[Tr.fl_len]at h8
  have h9:=zEh hp
  have h10:=zEh hu
  have h11:szL (ks.drop i)<=szL ks:=by
   have:=zGV (ks.take i) (ks.drop i)
   rw[qAj]at this;omega
  refine zHL L _ _ S F1 _ (zBn p.fl) hS (by omega) (fun a=>by have:=hb a;omega) ?_
  refine ih _ u (upsB S (zBn p.fl)) F1 (b+(zBn p.fl).length) (by omega) (h.kid hu) ?_ (hS.ups _) (fun a=>by rw[zFY];have h6:(zBn p.fl).count a<=(zBn p.fl).length:=qBO;have:=hb a;omega) (by omega) (by omega)
  have h7:=zFT (j:=i+1) h2 hu
  simpa[hk,show ¬(i+1)%2=1 by omega]using h7
 have hcut:∀(i:Nat) (p:Tr),ks[i]?=some p->cutO L (kidAt n ks i:Int) (kidAt n ks (i+1):Int)=some p.fl/\endF L (kidAt n ks i:Int)=(kidAt n ks (i+1):Int):=fun i p hp=>by
  rw[zDP hp]
  exact⟨(h.kid hp).cut,(h.kid hp).endF⟩
 have hF0:(t0.free S F).length+szL (ks.drop 1)<=999999:=by omega
 have hN:n+1+szL ks=n+Tr.sz (.mk x ks):=by omega
 rw[<-hN,<-hke]
 generalize t0.free S F=F0 at *
 have hkids:x.kids=2*(c:Int)+1:=by omega
 have hcb:c<=1000000:=by omega
 have hend:∀q:Int,zAc prog 115 [zAm L,i64 q] (i64 (endF L q)):=fun q=>zIu L q hL
 have hnm:∀p:Tr,p∈ks->zAc prog 130 [zAm p.fl] (strs (zBn p.fl)):=fun p hp=>zJq p.fl (by have:=zFV hp;rw[Tr.fl_len];omega)
 have hfall:∀i,i<=2*c+1->zCZ x.kind x.text S [] (ks.drop i) i F0=zCZ x.kind x.text S [] (ks.drop i) i F0:=fun _ _=>rfl
 rw[show ((n+1:Nat):Int)=(n:Int)+1 from rfl]at hf
 clear h1 h2 h3 h4 h5 hw h hS ih hsz hm hb2 hF he hN hke hd0 hfl0 hs0 hk1 hfall hkn hsl
 refine zB3 func143 rfl ntmps143 results143 rfl rfl rfl ?_
 intro wb St0 X fx
 repeat' first|apply en_n|apply zAE|apply zAA|apply zAD|apply w0|exact zBU rfl rfl|exact zBW rfl rfl|exact zAS rfl|(refine zDf [0,1,2] zHp (hf) (SArgs_all rfl) rfl rfl (by decide) rfl rfl rfl rfl rfl rfl ?_)|exact zVV hkids hcb rfl rfl|(apply aJ (hd:=rfl);(first|exact zAq rfl|exact Co_bb rfl rfl rfl|exact Co_nn rfl);exact rfl;(with_reducible exact zAa);assumption;omega;exact fun _=>rfl)|(apply zBF (hd:=rfl) (hro:=rfl);(with_reducible exact zAx))|apply ay (hd:=rfl)|exact zAC rfl|exact zAB rfl|exact zAg rfl zAZ rfl|refine zBE rfl rfl ?_|exact zAG rfl|(apply zAH;exact rfl;(with_reducible first|exact fd_0|exact fn_0|exact fn_3))|(apply zAJ;exact rfl;(with_reducible first|exact zAd|exact zAY|exact zAp);exact rfl;exact rfl)|(refine w0' ?_)|(apply zAl;exact rfl;exact rfl;exact rfl;(with_reducible exact zAZ);exact rfl;exact rfl;exact rfl;exact rfl)|refine zAN rfl ?_|refine zAQ rfl ?_|apply zAI
 all_goals try omega
 refine zAv (α:=Nat×List (List UInt8)) (fun p=>p.1<=c/\p.2.length+szL (ks.drop (2*p.1+1))<=999999/\zCZ x.kind x.text S [] (ks.drop (2*p.1+1)) (2*p.1+1) p.2=zCZ x.kind x.text S [] (ks.drop 1) 1 F0) (fun p=>[(0,.ptr 0 0),(1,.d (i64 ((kidAt n ks (2*p.1+1):Nat):Int))),(88,.d (i64 (c:Int))),(89,.d (i64 (p.1:Int)))])
  (fun p=>[.bx (fx 0) (some 188) [.d (zAm L),.mp 1,.buf 2 (p.2.map str).length],bagO (fx 1) S,.buf false 9 1 (p.2.map str)]) (fun p=>c-p.1) (0,F0) ⟨qAR _,hF0,rfl⟩
  (zAV (Le_all rfl) (zAT rfl rfl (zAT rfl rfl (zBM rfl rfl rfl zAW))) rfl rfl) ?_
 rintro⟨i,F1⟩ ⟨q1,q2,q3⟩
 dsimp only at q1 q2 q3 ⊢
 rcases qAI i c with hlt|hge
 ·obtain⟨p,hp⟩:∃t,ks[2*i+1]?=some t:=⟨_,qAB (by omega)⟩
  obtain⟨u,hu⟩:∃t,ks[2*i+1+1]?=some t:=⟨_,qAB (by omega)⟩
  have hwi:=hpair (2*i+1) p u F1 (by omega) hp hu q2
  obtain⟨hcu,hen⟩:=hcut _ p hp
  have hE:=hend (kidAt n ks (2*i+1):Int)
  rw[hen]at hE
  have hn:=hnm p (qAE hp)
  rw[zPa hk (by omega) hp hu]at q3
  have hfl:=zEn u (upsB S (zBn p.fl)) F1
  rw[zEh hp,zEh hu,show 2*i+1+1+1=2*i+1+2 from rfl]at q2
  have hli:(i:Int)<(c:Int):=by omega
  generalize u.free (upsB S (zBn p.fl)) F1=F2 at *
  generalize zBn p.fl=N at *
  generalize p.fl=pf at *
  clear hpair hcut hend hnm
  repeat' first|exact zWE hcu rfl rfl rfl zAa|apply en_n|apply zAE|apply zAA|apply zAD|apply w0|exact zBh rfl rfl|exact zAS rfl|(refine zAU zIY hE (CoLA rfl))|(refine zAU zHo hn (CoLA rfl))|(refine zDf [0,1,2] zHn (hwi) (SArgs_all rfl) rfl rfl (by decide) rfl rfl rfl rfl rfl rfl ?_)|apply ay (hd:=rfl)|exact zAC rfl|exact zAB rfl|refine zBE rfl rfl ?_|exact zAG rfl|exact zAH rfl fd_0|exact zAJ rfl zAY rfl rfl|refine zAN rfl ?_|apply zAI|apply zAO|apply eb_n
  all_goals try omega
  exact⟨(i+1,F2),⟨by simp only;omega,by simp only;rw[show 2*(i+1)+1=2*i+1+2 by omega];omega,q3⟩,by simp only;omega,zAV (Le_all rfl) (zAT rfl rfl (zAT rfl rfl (zBM rfl rfl rfl zAW))) rfl rfl⟩
 ·have hli:¬(i:Int)<(c:Int):=by omega
  have e:2*i+1=ks.length:=by omega
  rw[e,List.drop_length,zCZ]at q3
  rw[<-q3,e]
  exact yV

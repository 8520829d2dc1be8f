/- Parts. -/
import Derived.Test.YtjcgiiedaccjpaaGreatDoorPAN
import Derived.Test.YtjcgiiedaccjpaaGreatDoorPAR
set_option maxHeartbeats 16000000
namespace Go.Proofs.YtjcgiiedaccjpaaGreatDoor
open _root_.Go.Proofs.Tryz
open Go.Sx
attribute [local irreducible] zAQ Program.underlying Ylds zBJ alex zBk zBZ awp zAX FCall zBo zBR zBX zBb zBD zBd zBj zBn zBu zBP VCall
theorem zGt{ks:List Tr}{i:Nat}{k:Tr}(h:ks[i]?=some k): szL (ks.drop i)=k.sz+szL (ks.drop (i+1)):=by
 obtain⟨hi,rfl⟩:=qAA.1 h
 rw[qAW hi,szL]
theorem zSd{k:Int}{tx:List UInt8}{S:Bag}{pv:List (List UInt8)}{ks:List Tr}{i:Nat}{t:Tr}{F:List (List UInt8)}(h:ks[i]?=some t)(hk:k=6\/k=9\/k=11): zDc k tx S pv (ks.drop i) i F=zDc k tx S pv (ks.drop (i+1)) (i+1) (t.free S F):=by
 obtain⟨hi,rfl⟩:=qAA.1 h
 rw[qAW hi,zDc,if_neg oM,bagK,if_neg oM,if_neg oM]
theorem zVJ{L:List Nd}(hL:L.length<=2000000){m:Nat}(ih:zJl L m)(n:Nat)(x:Nd)(ks:List Tr)(S:Bag)(F:List (List UInt8))(b:Nat)(hk:x.kind=6\/x.kind=9\/x.kind=11)(hm:Tr.sz (.mk x ks)<=m+1)(h:At L n (.mk x ks))(hw:Tr.werr (.mk x ks) false=0)(hS:GoodB S)(hb:∀a,lkB S a<=b)(hb2:b+Tr.sz (.mk x ks)<=1000000)(hF:F.length+Tr.sz (.mk x ks)<=1000000):
  zBR prog 143 [.ptr 0 0,.d (i64 (n:Int))] (fO L S F) (.d (i64 ((n+Tr.sz (.mk x ks):Nat):Int))) (fO L S (Tr.free (.mk x ks) S F)):=by
 obtain⟨h1,h2⟩:=zFX hw
 obtain⟨h3,h4,h5⟩:=zDl h1
 have hx:=h.here
 have hkn:=h.kidn
 have hlen:=h.len
 have hsz:Tr.sz (.mk x ks)=szL ks+1:=by rw[Tr.sz]
 have hsl:=zHG ks
 have hke:=zKr n ks
 have he:Tr.free (.mk x ks) S F=zDc x.kind x.text S [] ks 0 F:=by rw[Tr.free,if_neg oM]
 rw[he]
 have hkid:∀(i:Nat) (t:Tr) (F1:List (List UInt8)),ks[i]?=some t->F1.length+szL (ks.drop i)<=999999->zBR prog 143 [.ptr 0 0,.d (i64 ((kidAt n ks i:Nat):Int))] (fO L S F1) (.d (i64 ((kidAt n ks (i+1):Nat):Int))) (fO L S (t.free S F1)):=fun i t F1 hi hf=>by
  rw[zDt hi]
  have h6:=zEE (qAC hi)
  rw[zGt hi]at hf
  refine ih _ t S F1 b oM (h.kid hi) ?_ hS hb oM oM
  have h7:=zEW (j:=i) h2 hi
  rcases hk with hk|hk|hk <;> simpa[hk]using h7
 have hF0:F.length+szL ks<=999999:=by omega
 have hN:n+1+szL ks=n+Tr.sz (.mk x ks):=by omega
 rw[<-hN,<-hke]
 clear h1 h2 h3 h4 h5 hw h hS ih hsz hm hb2 hF he hN hke
 rcases hk with hk|hk|hk
 all_goals
  have hk':x.kind=6\/x.kind=9\/x.kind=11:=by omega
  refine zCl func143 rfl ntmps143 results143 rfl rfl rfl ?_
  intro wb St0 X fx
  repeat' first|apply en_n|apply zAE|apply zAA|apply zAD|apply w0|refine k0u (hd:=rfl) rfl rfl ?_|refine aJA ?_|refine aAlA ?_|refine ayA rfl ?_|refine ayQ rfl ?_|apply ay (hd:=rfl)|refine zBN rfl rfl ?_|refine w1 rfl rfl ?_|(refine w0' ?_)|refine aStA ?_|refine zAJ rfl ?_|refine zAK rfl ?_|apply zAH|apply zAM|apply eb_n
  all_goals try omega
  refine zAt (α:=Nat×List (List UInt8)) (fun p=>p.1<=ks.length/\p.2.length+szL (ks.drop p.1)<=999999/\zDc x.kind x.text S [] (ks.drop p.1) p.1 p.2=zDc x.kind x.text S [] ks 0 F) (fun p=>[(0,.ptr 0 0),(1,.d (i64 ((kidAt n ks p.1:Nat):Int))),(124,.d (i64 x.kids)),(125,.d (i64 (p.1:Int)))])
   (fun p=>[.bx (fx 0) (some 188) [.d (zAu L),.mp 1,.buf 2 (p.2.map str).length],bagO (fx 1) S,.buf false 9 1 (p.2.map str)]) (fun p=>ks.length-p.1) (0,F) ⟨qAO _,by rw[qAp];exact hF0,by rw[qAp]⟩
   (zAV (Le_cons rfl (Le_d rfl (by rw[zCu];rfl) (Le_all rfl))) (zAT rfl rfl (zAT rfl rfl (zBa rfl rfl rfl zAW))) rfl rfl) ?_
  rintro⟨i,F1⟩ ⟨q1,q2,q3⟩
  dsimp only at q1 q2 q3 ⊢
  rcases qAF i ks.length with hlt|hge
  ·obtain⟨t,ht⟩:∃t,ks[i]?=some t:=⟨_,qAB hlt⟩
   have hc:=hkid i t F1 ht q2
   rw[zSd ht hk']at q3
   have hfl:=zG3 t S F1
   rw[zGt ht]at q2
   have hli:(i:Int)<x.kids:=by omega
   generalize t.free S F1=F2 at *
   repeat' first|apply en_n|apply zAE|apply zAA|apply zAD|apply w0|(refine zEt [0,1,2] zKy (hc) (SArgs_all rfl) rfl rfl dC rfl rfl rfl rfl rfl rfl ?_)|refine ayA rfl ?_|refine ayQ rfl ?_|apply ay (hd:=rfl)|refine zBN rfl rfl ?_|refine zAJ rfl ?_|apply zAH|apply zAM|apply eb_n
   all_goals try omega
   exact⟨(i+1,F2),⟨by simp only;omega,by simp only;omega,q3⟩,by simp only;omega,zAV (Le_all rfl) (zAT rfl rfl (zAT rfl rfl (zBa rfl rfl rfl zAW))) rfl rfl⟩
  ·have hli:¬(i:Int)<x.kids:=by omega
   have e:i=ks.length:=by omega
   subst e
   rw[List.drop_length,zDc]at q3
   rw[<-q3]
   repeat' first|apply en_n|apply zAE|apply zAA|apply zAD|apply w0|exact zBr rfl rfl|apply ay (hd:=rfl)|exact zAC rfl|exact zAB rfl|refine zAK rfl ?_|apply zAN|apply zAz|apply en_e|apply eb_e
   all_goals exact zB8 (zAV (Le_all rfl) (zAT rfl rfl (zAT rfl rfl (zBa rfl rfl rfl zAW))) rfl rfl)
theorem zcS{P:Program}{η:List Ob}{σ:Sl}{dst:Option Nat}{ty:TypeId}{pos:String}{after:Array Edge}{gd:Option (Nat×Bool)}{t yt:TypeId}{p q:Operand}{k:Int}{c:Nat}(hk:k=2*(c:Int)+1)(hc:c<=1000000)(hp:oval σ p=.d (i64 k))(hq:oval σ q=.d (i64 2)):
  Ylds P η σ ⟨dst,.binOp .quo t p q yt,ty,pos,after,gd⟩ (.d (i64 (c:Int))):=by
 have h:=zYQ (P:=P) (η:=η) (dst:=dst) (ty:=ty) (pos:=pos) (after:=after) (gd:=gd) (t:=t) (yt:=yt) hp hq dC
 have e:IntKind.i64.wrap (k.tdiv 2)=(c:Int):=by
  rw[zD6,Int.tdiv_eq_ediv_of_nonneg oM];omega
 rw[e]at h;exact h
theorem zU9{k:Int}{tx:List UInt8}{S:Bag}(pv pv':List (List UInt8)){i:Nat}(hk:k=10)(hi:i%2=1)(F:List (List UInt8)): ∀ks:List Tr,zDc k tx S pv ks i F=zDc k tx S pv' ks i F
 |[]=>by rw[zDc,zDc]
 |t::r=>by rw[zDc,zDc,if_pos ⟨hk,hi⟩,if_pos ⟨hk,hi⟩]
theorem zU8{k:Int}{tx:List UInt8}{S:Bag}{ks:List Tr}{i:Nat}{p u:Tr}{F:List (List UInt8)}(hk:k=10)(hi:i%2=1)(hp:ks[i]?=some p)(hu:ks[i+1]?=some u):
  zDc k tx S [] (ks.drop i) i F=zDc k tx S [] (ks.drop (i+2)) (i+2) (u.free (upsB S (zBf p.fl)) F):=by
 obtain⟨h1,rfl⟩:=qAA.1 hp
 obtain⟨h2,rfl⟩:=qAA.1 hu
 rw[qAW h1,qAW h2,zDc,if_pos ⟨hk,hi⟩,zDc,if_neg oM,bagK,if_neg oM,if_pos ⟨hk,by omega⟩]
 exact zU9 _ _ hk oM _ _
theorem At.cut{L:List Nd}{n:Nat}{t:Tr}(h:At L n t): cutO L (n:Int) ((n+t.sz:Nat):Int)=some t.fl:=by
 obtain⟨R,hd⟩:=h.pre
 have hl:=h.len
 rw[cutO,if_pos oM,qAT,qAT,List.drop_take,hd,Nat.add_sub_cancel_left,<-Tr.fl_len,List.take_left]
theorem zSh{L:List Nd}(hL:L.length<=2000000){m:Nat}(ih:zJl L m)(n:Nat)(x:Nd)(ks:List Tr)(S:Bag)(F:List (List UInt8))(b:Nat)(hk:x.kind=10)(hm:Tr.sz (.mk x ks)<=m+1)(h:At L n (.mk x ks))(hw:Tr.werr (.mk x ks) false=0)(hS:GoodB S)(hb:∀a,lkB S a<=b)(hb2:b+Tr.sz (.mk x ks)<=1000000)(hF:F.length+Tr.sz (.mk x ks)<=1000000):
  zBR prog 143 [.ptr 0 0,.d (i64 (n:Int))] (fO L S F) (.d (i64 ((n+Tr.sz (.mk x ks):Nat):Int))) (fO L S (Tr.free (.mk x ks) S F)):=by
 obtain⟨h1,h2⟩:=zFX hw
 obtain⟨h3,h4,h5⟩:=zDl h1
 have hx:=h.here
 have hkn:=h.kidn
 have hlen:=h.len
 have hsz:Tr.sz (.mk x ks)=szL ks+1:=by rw[Tr.sz]
 have hsl:=zHG ks
 have hke:=zKr n ks
 have hcnt:∃c:Nat,ks.length=2*c+1/\1<=c:=by
  rw[hk]at h5
  have:3<=x.kids/\x.kids%2=1:=by simpa[cntK]using h5
  exact⟨ks.length / 2,by omega,by omega⟩
 obtain⟨c,hcl,hc1⟩:=hcnt
 obtain⟨t0,ht0⟩:∃t,ks[0]?=some t:=⟨_,qAB oM⟩
 have he:Tr.free (.mk x ks) S F=zDc x.kind x.text S [] (ks.drop 1) 1 (t0.free S F):=by
  obtain⟨hi,rfl⟩:=qAA.1 ht0
  rw[Tr.free,if_neg oM]
  conv=>lhs;rw[show ks=ks.drop 0 by rw[qAp],qAW hi]
  rw[zDc,if_neg oM,bagK,if_neg oM,if_neg oM]
 rw[he]
 have hs0:=zEE (qAC ht0)
 have hd0:=zGt ht0
 rw[qAp,qAS]at hd0
 have hfl0:=zG3 t0 S F
 have hf:=ih (n+1) t0 S F b oM (by simpa[zCu]using h.kid ht0) (by simpa[hk]using zEW (j:=0) h2 ht0) hS hb oM oM
 have hk1:n+1+t0.sz=kidAt n ks 1:=by rw[zDt ht0,zCu]
 rw[hk1]at hf
 have hpair:∀(i:Nat) (p u:Tr) (F1:List (List UInt8)),i%2=1->ks[i]?=some p->ks[i+1]?=some u->F1.length+szL (ks.drop i)<=999999->
   zBR prog 174 [.ptr 0 0,.d (i64 ((kidAt n ks (i+1):Nat):Int)),.d (strs (zBf p.fl))] (fO L S F1) (.d (i64 ((kidAt n ks (i+2):Nat):Int))) (fO L S (u.free (upsB S (zBf p.fl)) F1)):=fun i p u F1 ho hp hu hf=>by
  have e2:kidAt n ks (i+2)=kidAt n ks (i+1)+u.sz:=zDt hu
  rw[e2]
  have h6:=zEE (qAC hu)
  have h8:=zFu p.fl
  rw[Tr.fl_len]at h8
  have h9:=zGt hp
  have h10:=zGt hu
  have h11:szL (ks.drop i)<=szL ks:=by
   have:=zJB (ks.take i) (ks.drop i)
   rw[qAi]at this;omega
  refine zKL L _ _ S F1 _ (zBf p.fl) hS oM (fun a=>by have:=hb a;omega) ?_
  refine ih _ u (upsB S (zBf p.fl)) F1 (b+(zBf p.fl).length) oM (h.kid hu) ?_ (hS.ups _) (fun a=>by rw[zGz];have h6:(zBf p.fl).count a<=(zBf p.fl).length:=qBg;have:=hb a;omega) oM oM
  have h7:=zEW (j:=i+1) h2 hu
  simpa[hk,show ¬(i+1)%2=1 by omega]using h7
 have hcut:∀(i:Nat) (p:Tr),ks[i]?=some p->cutO L (kidAt n ks i:Int) (kidAt n ks (i+1):Int)=some p.fl/\endF L (kidAt n ks i:Int)=(kidAt n ks (i+1):Int):=fun i p hp=>by
  rw[zDt hp]
  exact⟨(h.kid hp).cut,(h.kid hp).endF⟩
 have hF0:(t0.free S F).length+szL (ks.drop 1)<=999999:=by omega
 have hN:n+1+szL ks=n+Tr.sz (.mk x ks):=by omega
 rw[<-hN,<-hke]
 generalize t0.free S F=F0 at *
 have hkids:x.kids=2*(c:Int)+1:=by omega
 have hcb:c<=1000000:=by omega
 have hend:∀q:Int,zAX prog 115 [zAu L,i64 q] (i64 (endF L q)):=fun q=>zMS L q hL
 have hnm:∀p:Tr,p∈ks->zAX prog 130 [zAu p.fl] (strs (zBf p.fl)):=fun p hp=>zNs p.fl (by have:=zEE hp;rw[Tr.fl_len];omega)
 have hfall:∀i,i<=2*c+1->zDc x.kind x.text S [] (ks.drop i) i F0=zDc x.kind x.text S [] (ks.drop i) i F0:=fun _ _=>rfl
 rw[show ((n+1:Nat):Int)=(n:Int)+1 from rfl]at hf
 clear h1 h2 h3 h4 h5 hw h hS ih hsz hm hb2 hF he hN hke hd0 hfl0 hs0 hk1 hfall hkn hsl
 refine zCl func143 rfl ntmps143 results143 rfl rfl rfl ?_
 intro wb St0 X fx
 repeat' first|apply en_n|apply zAE|apply zAA|apply zAD|apply w0|(refine zEt [0,1,2] zKy (hf) (SArgs_all rfl) rfl rfl dC rfl rfl rfl rfl rfl rfl ?_)|exact zcS hkids hcb rfl rfl|refine aJA ?_|refine aAlA ?_|refine ayA rfl ?_|refine ayQ rfl ?_|apply ay (hd:=rfl)|refine zBN rfl rfl ?_|(refine w0' ?_)|refine aStA ?_|refine zAJ rfl ?_|refine zAK rfl ?_|apply zAH
 all_goals try omega
 refine zAt (α:=Nat×List (List UInt8)) (fun p=>p.1<=c/\p.2.length+szL (ks.drop (2*p.1+1))<=999999/\zDc x.kind x.text S [] (ks.drop (2*p.1+1)) (2*p.1+1) p.2=zDc x.kind x.text S [] (ks.drop 1) 1 F0) (fun p=>[(0,.ptr 0 0),(1,.d (i64 ((kidAt n ks (2*p.1+1):Nat):Int))),(88,.d (i64 (c:Int))),(89,.d (i64 (p.1:Int)))])
  (fun p=>[.bx (fx 0) (some 188) [.d (zAu L),.mp 1,.buf 2 (p.2.map str).length],bagO (fx 1) S,.buf false 9 1 (p.2.map str)]) (fun p=>c-p.1) (0,F0) ⟨qAO _,hF0,rfl⟩
  (zAV (Le_all rfl) (zAT rfl rfl (zAT rfl rfl (zBa rfl rfl rfl zAW))) rfl rfl) ?_
 rintro⟨i,F1⟩ ⟨q1,q2,q3⟩
 dsimp only at q1 q2 q3 ⊢
 rcases qAF i c with hlt|hge
 ·obtain⟨p,hp⟩:∃t,ks[2*i+1]?=some t:=⟨_,qAB oM⟩
  obtain⟨u,hu⟩:∃t,ks[2*i+1+1]?=some t:=⟨_,qAB oM⟩
  have hwi:=hpair (2*i+1) p u F1 oM hp hu q2
  obtain⟨hcu,hen⟩:=hcut _ p hp
  have hE:=hend (kidAt n ks (2*i+1):Int)
  rw[hen]at hE
  have hn:=hnm p (qAC hp)
  rw[zU8 hk oM hp hu]at q3
  have hfl:=zG3 u (upsB S (zBf p.fl)) F1
  rw[zGt hp,zGt hu,show 2*i+1+1+1=2*i+1+2 from rfl]at q2
  have hli:(i:Int)<(c:Int):=by omega
  generalize u.free (upsB S (zBf p.fl)) F1=F2 at *
  generalize zBf p.fl=N at *
  generalize p.fl=pf at *
  clear hpair hcut hend hnm
  repeat' first|exact zdK hcu rfl rfl rfl zAe|apply en_n|apply zAE|apply zAA|apply zAD|apply w0|exact ycA zL7 hE|exact ycA zKw hn|(refine zEt [0,1,2] zKv (hwi) (SArgs_all rfl) rfl rfl dC rfl rfl rfl rfl rfl rfl ?_)|refine ayA rfl ?_|refine ayQ rfl ?_|apply ay (hd:=rfl)|refine zBN rfl rfl ?_|refine zAJ rfl ?_|apply zAH|apply zAM|apply eb_n
  all_goals try omega
  exact⟨(i+1,F2),⟨by simp only;omega,by simp only;rw[show 2*(i+1)+1=2*i+1+2 by omega];omega,q3⟩,by simp only;omega,zAV (Le_all rfl) (zAT rfl rfl (zAT rfl rfl (zBa rfl rfl rfl zAW))) rfl rfl⟩
 ·have hli:¬(i:Int)<(c:Int):=by omega
  have e:2*i+1=ks.length:=by omega
  rw[e,List.drop_length,zDc]at q3
  rw[<-q3,e]
  repeat' first|apply en_n|apply zAE|apply zAA|apply zAD|apply w0|exact zBr rfl rfl|apply ay (hd:=rfl)|exact zAC rfl|exact zAB rfl|refine zAK rfl ?_|apply zAN|apply zAz|apply en_r|apply en_e|apply eb_r|apply eb_e
  all_goals exact zB8 (zAV (Le_all rfl) (zAT rfl rfl (zAT rfl rfl (zBa rfl rfl rfl zAW))) rfl rfl)
theorem zVH{L:List Nd}(hL:L.length<=2000000){m:Nat}(_ih:zJl L m)(n:Nat)(x:Nd)(ks:List Tr)(S:Bag)(F:List (List UInt8))(b:Nat)(hk:x.kind=3)(hm:Tr.sz (.mk x ks)<=m+1)(h:At L n (.mk x ks))(hw:Tr.werr (.mk x ks) false=0)(_hS:GoodB S)(_hb:∀a,lkB S a<=b)(hb2:b+Tr.sz (.mk x ks)<=1000000)(hF:F.length+Tr.sz (.mk x ks)<=1000000):
  zBR prog 143 [.ptr 0 0,.d (i64 (n:Int))] (fO L S F) (.d (i64 ((n+Tr.sz (.mk x ks):Nat):Int))) (fO L S (Tr.free (.mk x ks) S F)):=by
 obtain⟨h1,h2⟩:=zFX hw
 obtain⟨h3,h4,h5⟩:=zDl h1
 have hx:=h.here
 have hkn:=h.kidn
 have hlen:=h.len
 have hsz:Tr.sz (.mk x ks)=szL ks+1:=by rw[Tr.sz]
 have hl0:ks.length=0:=by
  have:x.kids=0:=by rw[hk]at h5;simpa[cntK]using h5
  omega
 match ks,hl0 with
 |[],_ =>
  rw[hsz,szL]at hF
  rw[hsz,szL]
  have hct:=zJm F x.text oM
  have hcap:((F.map str).length + [str x.text].length)*16<=140737488355328/\(F.map str).length + [str x.text].length<=140737488355328:=by
   simp only[qAE,qAK,qAb];omega
  have he:Tr.free (.mk x []) S F=if lkB S x.text=0/\x.text∉F then F++[x.text]else F:=by rw[Tr.free,if_pos hk]
  rw[he]
  clear h1 h2 h3 h4 h5 hw h _hS _ih hsz hm hb2 hF he
  by_cases c1:lkB S x.text=0
  ·have c1':((lkB S x.text:Nat):Int)=0:=by rw[c1];rfl
   by_cases c2:x.text∈F
   ·rw[if_neg (fun c=>c.2 c2)]
    rw[show F.contains x.text=true by simpa using c2]at hct
    refine zCl func143 rfl ntmps143 results143 rfl rfl rfl ?_
    intro wb St0 X fx
    repeat' first|apply en_n|apply zAE|apply zAA|apply zAD|apply w0|exact zBH rfl rfl|exact zBA rfl rfl|exact zAn rfl|exact zJZ rfl rfl rfl zKl ustr zI8|(refine zAP zH6 hct (zEH rfl rfl rfl (CoLA rfl)))|(apply aJ (hd:=rfl);(first|exact zAr rfl|exact Co_bb rfl rfl rfl|exact Co_nn rfl);exact rfl;(with_reducible exact zAe);assumption;omega;exact fun _=>rfl)|(apply zA4 (hd:=rfl) (hro:=rfl);(with_reducible exact zA2))|apply ay (hd:=rfl)|exact zAC rfl|exact zAB rfl|exact zAl rfl zAh rfl|refine zBN rfl rfl ?_|exact zBY rfl|exact zAj rfl rfl|exact zAi rfl rfl|exact zAU rfl|(apply zAI;exact rfl;(with_reducible first|exact fd_0|exact fd_1|exact fd_2|exact fn_0|exact fn_1))|(apply zAG;exact rfl;(with_reducible first|exact zCK|exact zLk|exact zAx|exact zAm|exact zAf|exact zCK);exact rfl;exact rfl)|refine w1 rfl rfl ?_|(refine w0' ?_)|(apply zAq;exact rfl;exact rfl;exact rfl;(with_reducible exact zAh);exact rfl;exact rfl;exact rfl;exact rfl)|refine zAJ rfl ?_|refine zAK rfl ?_|apply zAH|apply zAM|apply zAN|refine zAy (by kernel_rfl) (by kernel_rfl) ?_|apply eb_n
    all_goals try omega
    exact zB8 (zAV (Le_d rfl (by congr 2) Le_nil) (zAT rfl rfl (zAT rfl rfl (zBa rfl rfl rfl zAW))) rfl rfl)
   ·rw[if_pos ⟨c1,c2⟩]
    rw[show F.contains x.text=false by simpa using c2]at hct
    refine zCl func143 rfl ntmps143 results143 rfl rfl rfl ?_
    intro wb St0 X fx
    repeat' first|(refine zVy (rid:=6) [.ptr 0 0,.ptr 0 0,.ptr 0 0,.ptr 0 2,.buf 2 (F.map str).length,.ptr 3 1,.d (str x.text),.d (strs [x.text]),.top] 8 2 kR kR rfl rfl rfl (.inr kR) ⟨.inr ⟨⟨rfl,zAU rfl⟩,rfl,rfl,.inr ⟨rfl,rfl,zAU rfl⟩⟩,⟨.inr ⟨⟨rfl,zAU rfl⟩,rfl,rfl,.inl kR⟩,⟨.inr ⟨⟨rfl,zAn rfl⟩,rfl,rfl,.inl kR⟩,⟨.inr ⟨⟨rfl,zAI rfl fd_2⟩,rfl,rfl,.inl kR⟩,⟨.inr ⟨⟨rfl,zAG rfl zCK rfl rfl⟩,rfl,rfl,.inl kR⟩,⟨.inr ⟨⟨rfl,zAI rfl fn_1⟩,rfl,rfl,.inl kR⟩,⟨.inr ⟨⟨rfl,zAG rfl zAf rfl rfl⟩,rfl,rfl,.inl kR⟩,⟨.inr ⟨⟨rfl,zCI zBL zA6 zCq rfl rfl (zAL rfl zAF) rfl⟩,rfl,rfl,.inl kR⟩,⟨.inl rfl,trivial⟩⟩⟩⟩⟩⟩⟩⟩⟩ rfl rfl rfl rfl rfl zBL zA6 zDe zCx rfl rfl (zCe fun _=>rfl) hcap ?_)|apply en_n|apply zAE|apply zAA|apply zAD|apply w0|(refine zEN kR ?_;refine aStA ?_)|exact zJZ rfl rfl rfl zKl ustr zI8|(refine zAP zH6 hct (zEH rfl rfl rfl (CoLA rfl)))|refine aJA ?_|refine aAlA ?_|refine ayA rfl ?_|refine ayQ rfl ?_|apply ay (hd:=rfl)|refine zBN rfl rfl ?_|refine w1 rfl rfl ?_|(refine w0' ?_)|refine aStA ?_|refine zAJ rfl ?_|refine zAK rfl ?_|apply zAH|apply zAM|apply zAN|refine awDA ?_|apply eb_n
    all_goals try omega
    exact zB8 (zAV (Le_d rfl (by congr 2) Le_nil) (zAT rfl (by rw[show ((F++[x.text]).map str).length=(F.map str).length + [str x.text].length by simp];rfl) (zAT rfl rfl (zBa rfl rfl (by rw[qAZ]) zAW))) rfl rfl)
  ·have c1':¬((lkB S x.text:Nat):Int)=0:=by omega
   rw[if_neg (fun c=>c1 c.1)]
   refine zCl func143 rfl ntmps143 results143 rfl rfl rfl ?_
   intro wb St0 X fx
   repeat' first|apply en_n|apply zAE|apply zAA|apply zAD|apply w0|exact zBH rfl rfl|exact zBA rfl rfl|exact zAn rfl|exact zJZ rfl rfl rfl zKl ustr zI8|(apply aJ (hd:=rfl);(first|exact zAr rfl|exact Co_bb rfl rfl rfl|exact Co_nn rfl);exact rfl;(with_reducible exact zAe);assumption;omega;exact fun _=>rfl)|(apply zA4 (hd:=rfl) (hro:=rfl);(with_reducible exact zA2))|apply ay (hd:=rfl)|exact zAC rfl|exact zAB rfl|exact zAl rfl zAh rfl|refine zBN rfl rfl ?_|exact zAi rfl rfl|exact zAU rfl|(apply zAI;exact rfl;(with_reducible first|exact fd_0|exact fd_1|exact fn_0|exact fn_1))|(apply zAG;exact rfl;(with_reducible first|exact zLk|exact zAx|exact zAm|exact zAf);exact rfl;exact rfl)|refine w1 rfl rfl ?_|refine k1 (hd:=rfl) rfl rfl ?_|(refine w0' ?_)|(apply zAq;exact rfl;exact rfl;exact rfl;(with_reducible exact zAh);exact rfl;exact rfl;exact rfl;exact rfl)|refine zAJ rfl ?_|refine zAK rfl ?_|apply zAH|apply zAM|apply zAN|refine zAy (by kernel_rfl) (by kernel_rfl) ?_|apply eb_n
   all_goals try omega
   exact zB8 (zAV (Le_d rfl (by congr 2) Le_nil) (zAT rfl rfl (zAT rfl rfl (zBa rfl rfl rfl zAW))) rfl rfl)
theorem zVG(L:List Nd)(hL:L.length<=2000000): ∀m,zJl L m
 |0=>fun n t S F b hm=>by have:=zDy t;omega
 |m+1=>fun n t S F b hm h hw hS hb hb2 hF=>by
  have ih:=zVG L hL m
  match t,hm,h,hw,hb2,hF with
  | .mk x ks,hm,h,hw,hb2,hF =>
   have h3:=(zDl (zFX hw).1).1
   have h4:=(zDl (zFX hw).1).2.1
   have hk:(1<=x.kind/\x.kind<=12):=by
    have h5:(1<=x.kind/\x.kind<=12)\/(21<=x.kind/\x.kind<=24):=by simpa[okK]using h3
    have h6:¬(21<=x.kind/\x.kind<=24):=by simpa[patK]using h4
    omega
   have hc:(x.kind=1\/x.kind=2\/x.kind=4)\/x.kind=3\/x.kind=5\/(x.kind=6\/x.kind=9\/x.kind=11)\/(x.kind=7\/x.kind=12)\/x.kind=8\/x.kind=10:=by omega
   rcases hc with hc|hc|hc|hc|hc|hc|hc
   ·exact zVI hL ih n x ks S F b hc hm h hw hS hb hb2 hF
   ·exact zVH hL ih n x ks S F b hc hm h hw hS hb hb2 hF
   ·exact zaO hL ih n x ks S F b hc hm h hw hS hb hb2 hF
   ·exact zVJ hL ih n x ks S F b hc hm h hw hS hb hb2 hF
   ·exact zXh hL ih n x ks S F b hc hm h hw hS hb hb2 hF
   ·exact zXg hL ih n x ks S F b hc hm h hw hS hb hb2 hF
   ·exact zSh hL ih n x ks S F b hc hm h hw hS hb hb2 hF
def zHq(t:Tr): List (List UInt8):=if chkT t false=0 then t.free [] []else[]
theorem za3(t:Tr)(hw:t.wf)(hL:t.fl.length<=1000000): zAX prog 76 [zAu t.fl] (strs (zHq t)):=by
 have hc:=zN3 t hw hL
 refine zAc func76 rfl ntmps76 results76 rfl ?_
 intro wb St0
 by_cases h0:chkT t false=0
 ·have hch:=h0
  rw[zHq,if_pos h0]
  rw[h0]at hc
  have h1:¬(4000<t.sz\/100<zF2 t.fl):=fun c=>by rw[chkT,if_pos c]at h0;omega
  have h2:t.werr false=0:=by
   rw[chkT,if_neg h1]at h0
   by_cases hq:t.werr false=0
   ·exact hq
   ·rw[if_pos hq]at h0;exact absurd h0 hq
  have hf:=zVG t.fl oM t.sz 0 t [] [] 0 (qAN _) (.top hw) h2 .nil (fun a=>qAN _) oM pAJ
  rw[qAS]at hf
  generalize t.free [] []=F at *
  clear h1 h2 hch
  skip
  repeat' first|(refine zJi 1 2 false 9 1 rfl rfl rfl ?_)|(apply zPF;(with_reducible exact zUE);(with_reducible exact zTB);exact zLS rfl (zLS rfl zZC);exact rfl;exact rfl;exact rfl;exact rfl)|apply en_n|apply zAE|apply zAA|apply zAD|apply w0|exact zBQ rfl rfl|(refine zAP zIi hc (CoLA rfl))|refine zS5 (hd:=rfl) (hro:=rfl) zKl ustr ?_|exact zAn rfl|(refine zEt [1,0,2] zKy (hf) (SArgs_all rfl) rfl rfl (by decide) rfl rfl rfl rfl rfl rfl ?_)|apply ay (hd:=rfl)|exact zAC rfl|exact zA0 rfl|exact zAp rfl|exact zAU rfl|exact zJk rfl|exact zAI rfl fd_2|(apply zAG;exact rfl;(with_reducible first|exact zCK|exact zCK);exact rfl;exact rfl)|refine zAK rfl ?_|apply zAM|apply zAN|apply zAO|(apply zIU;exact rfl;exact rfl;(first|exact rfl|(simp;done)))
  all_goals rfl
 ·rw[zHq,if_neg h0]
  repeat' first|apply en_n|apply zAE|apply zAA|apply zAD|apply w0|exact zCC rfl rfl|(refine zAP zIi hc (CoLA rfl))|apply ay (hd:=rfl)|exact zAC rfl|exact zA0 rfl|refine zAJ rfl ?_|apply zAN|apply en_r|apply zAO|refine zZh rfl ?_
  all_goals rfl
end Go.Proofs.YtjcgiiedaccjpaaGreatDoor
namespace Go.Proofs.YtjcgiiedaccjpaaGreatDoor
open _root_.Go.Proofs.Tryz
open Go.Sx
attribute [local irreducible] zAQ Program.underlying Ylds zBJ alex zBk zBZ awp zAX FCall zBo zBb zBD zBd zBj zBn
theorem zdN(x:Int): W (IntKind.i64.wrap x)=W x:=by rw[zD6,W,W];omega
def divV(a b:Int): Int:=if W b=0 then 0 else W ((W a).tdiv (W b))
def modV(a b:Int): Int:=if W b=0 then 0 else(W a).tmod (W b)
def zWV(b:Int): Int:=if W b=0 then 10 else 0
theorem zE0{b:Int}(h:W b=0): zWV b=10:=if_pos h
theorem zE1{b:Int}(h:¬W b=0): zWV b=0:=if_neg h
theorem zTT(a b:Int): zAX prog 94 [i64 a,i64 b] (.tup [i64 (divV a b),i64 (zWV b)]):=by
 refine zAc func94 rfl ntmps94 results94 rfl ?_
 intro wb St0
 repeat' first|apply en_n|apply zAE|apply zAA|apply zAD|apply w0|exact ycA zGF (zF7 _)|(apply zYQ;exact rfl;exact rfl;assumption)|refine ayA rfl ?_|apply ay (hd:=rfl)|exact zDz rfl rfl|(apply zA3;exact rfl;all_goals intro hb)|apply zAM|apply zAN|apply en_r|apply zAO|(apply res2;exact rfl;exact rfl)
 all_goals refine zFF ?_
 ·rw[divV,if_pos hb]
 ·rw[zE0 hb]
 ·rw[divV,if_neg hb];exact zdN _
 ·rw[zE1 hb]
theorem zTS(a b:Int): zAX prog 97 [i64 a,i64 b] (.tup [i64 (modV a b),i64 (zWV b)]):=by
 refine zAc func97 rfl ntmps97 results97 rfl ?_
 intro wb St0
 repeat' first|apply en_n|apply zAE|apply zAA|apply zAD|apply w0|exact ycA zGF (zF7 _)|(apply zLa;exact rfl;exact rfl;assumption)|refine ayA rfl ?_|apply ay (hd:=rfl)|exact zDz rfl rfl|(apply zA3;exact rfl;all_goals intro hb)|apply zAM|apply zAN|apply en_r|apply zAO|(apply res2;exact rfl;exact rfl)
 all_goals refine zFF ?_
 ·rw[modV,if_pos hb]
 ·rw[zE0 hb]
 ·rw[modV,if_neg hb]
 ·rw[zE1 hb]
theorem zQh(a b:Int): a.tdiv b=if decide (a<0)=decide (b<0)then(a.natAbs:Int).tdiv b.natAbs else -((a.natAbs:Int).tdiv b.natAbs):=by
 by_cases ha:a<0 <;> by_cases hb:b<0
 ·have e1:a = -(a.natAbs:Int):=by omega
  have e2:b = -(b.natAbs:Int):=by omega
  rw[decide_eq_true ha,decide_eq_true hb,if_pos rfl]
  conv=>lhs;rw[e1,e2,Int.neg_tdiv,Int.tdiv_neg,Int.neg_neg]
 ·have e1:a = -(a.natAbs:Int):=by omega
  have e2:b=(b.natAbs:Int):=by omega
  rw[decide_eq_true ha,decide_eq_false hb,if_neg dC]
  conv=>lhs;rw[e1,e2,Int.neg_tdiv]
 ·have e1:a=(a.natAbs:Int):=by omega
  have e2:b = -(b.natAbs:Int):=by omega
  rw[decide_eq_false ha,decide_eq_true hb,if_neg dC]
  conv=>lhs;rw[e1,e2,Int.tdiv_neg]
 ·have e1:a=(a.natAbs:Int):=by omega
  have e2:b=(b.natAbs:Int):=by omega
  rw[decide_eq_false ha,decide_eq_false hb,if_pos rfl]
  conv=>lhs;rw[e1,e2]
theorem zQg(a b:Int): a.tmod b=if a<0 then -((a.natAbs:Int).tmod b.natAbs)else(a.natAbs:Int).tmod b.natAbs:=by
 have hb:a.tmod b=a.tmod b.natAbs:=by
  by_cases hb:b<0
  ·have e2:b = -(b.natAbs:Int):=by omega
   conv=>lhs;rw[e2,Int.tmod_neg]
  ·have e2:b=(b.natAbs:Int):=by omega
   conv=>lhs;rw[e2]
 rw[hb]
 split
 ·rename_i ha
  have e1:a = -(a.natAbs:Int):=by omega
  conv=>lhs;rw[e1,Int.neg_tmod]
 ·rename_i ha
  have e1:a=(a.natAbs:Int):=by omega
  conv=>lhs;rw[e1]
theorem zKR(a b:Nat): 0<=(a:Int).tmod b/\(a:Int).tmod b<=a :=
 ⟨Int.natCast_nonneg (a%b),Int.ofNat_le.2 (Nat.mod_le a b)⟩
theorem zOF{b:Int}(h:¬b=0): ((b.natAbs:Nat):Int)≠0:=by omega
def okZ(b:Int): Bool:=!decide (W b=0)
theorem zZn(a b:Int): zAX prog 209 [i64 a,i64 b] (.tup [i64 (divV a b),bl (okZ b)]):=by
 refine zAc func209 rfl ntmps209 results209 rfl ?_
 intro wb St0
 repeat' first|apply en_n|apply zAE|apply zAA|apply zAD|apply w0|(apply zPG (k:=.u64);exact rfl;exact rfl)|(apply zHC;exact rfl;exact rfl;with_reducible exact zIM)|exact ycA zIj (zIX _)|exact ycA zPt (zPd _ (W_bd _))|(apply zYQ;exact rfl;exact rfl;exact zOF (by assumption))|(refine zAP zKz (zLM _ (by rw[zCD];omega)) (CoLA rfl))|refine ayA rfl ?_|apply ay (hd:=rfl)|exact zCt rfl rfl|exact zDz rfl rfl|(apply zA3;exact rfl;all_goals intro hb)|(apply zLN;exact rfl;all_goals intro hb)|apply zAM|apply zAN|apply en_r|apply zAO|(apply res2;exact rfl;exact rfl)
 ·rw[divV,if_pos hb]
 ·rw[okZ,decide_eq_true hb];rfl
 ·rename_i h0
  rw[divV,if_neg h0,zQh (W a) (W b),if_neg hb,zcV,zCD]
  generalize ((W a).natAbs:Int).tdiv (W b).natAbs=x
  refine zFF ?_
  rw[W,W];omega
 ·rename_i h0
  rw[okZ,decide_eq_false h0];rfl
 ·rename_i h0
  rw[divV,if_neg h0,zQh (W a) (W b),if_pos hb,zcV]
 ·rename_i h0
  rw[okZ,decide_eq_false h0];rfl
theorem zZk(a b:Int): zAX prog 210 [i64 a,i64 b] (.tup [i64 (modV a b),bl (okZ b)]):=by
 refine zAc func210 rfl ntmps210 results210 rfl ?_
 intro wb St0
 repeat' first|apply en_n|apply zAE|apply zAA|apply zAD|apply w0|(apply zGm;exact rfl;(first|with_reducible exact si64|with_reducible exact su64|with_reducible exact su8|with_reducible exact si32);(first|with_reducible exact ui64|with_reducible exact uu64|with_reducible exact uu8|with_reducible exact ui32))|exact zcO rfl|exact ycA zIj (zIX _)|exact ycA zPt (zPd _ (W_bd _))|(apply zLa;exact rfl;exact rfl;exact zOF (by assumption))|refine ayA rfl ?_|apply ay (hd:=rfl)|exact zCt rfl rfl|exact zDz rfl rfl|(apply zA3;exact rfl;all_goals intro hb)|apply zAM|apply zAN|apply en_r|apply zAO|(apply res2;exact rfl;exact rfl)
 ·rw[modV,if_pos hb]
 ·rw[okZ,decide_eq_true hb];rfl
 ·rename_i h0
  have h1:=W_bd a
  have h2:=zKR (W a).natAbs (W b).natAbs
  rw[modV,if_neg h0,zQg (W a) (W b),if_pos hb,zD6,zD6]
  refine zFF ?_
  omega
 ·rename_i h0
  rw[okZ,decide_eq_false h0];rfl
 ·rename_i h0
  have h1:=W_bd a
  have h2:=zKR (W a).natAbs (W b).natAbs
  rw[modV,if_neg h0,zQg (W a) (W b),if_neg hb,zD6]
  refine zFF ?_
  omega
 ·rename_i h0
  rw[okZ,decide_eq_false h0];rfl
end Go.Proofs.YtjcgiiedaccjpaaGreatDoor
namespace Go.Proofs.YtjcgiiedaccjpaaGreatDoor
open _root_.Go.Proofs.Tryz
open Go.Sx Go.Ev
theorem zGC(v:V): (∃n,v=.num n)\/∀n,v≠.num n:=by cases v <;> first|exact .inl ⟨_,rfl⟩|exact .inr fun n h=>by cases h
theorem zGQ(v:V): (∃n,v=.text n)\/∀n,v≠.text n:=by cases v <;> first|exact .inl ⟨_,rfl⟩|exact .inr fun n h=>by cases h
theorem zNN(v:V): (∃n,v=.cell n)\/∀n,v≠.cell n:=by cases v <;> first|exact .inl ⟨_,rfl⟩|exact .inr fun n h=>by cases h
attribute [local irreducible] zAQ Program.underlying Ylds zBJ alex zBk zBZ awp zAX FCall zBo zBR zBX zEg zBb zBD zBd zBj zBn zBu zEL zBP VCall
theorem zRB(R:Rn)(s:S)(bs:List Nat)(hbs:bs.length=s.cells.length)(f:FuncId)(a b:V)(hn:(∀n,a≠.num n)\/∀n,b≠.num n): R.To 147 [.ptr 0 0,.d (.slice [encV bs a,encV bs b]),.d (.ref [.clo f []])] s bs (s.stop 4).2 (fun _=>encV [] (.num 0)):=by
 have hs:=zF8 R s bs hbs 4
 obtain⟨d1,e1⟩:=zDX bs a
 obtain⟨d2,e2⟩:=zDX bs b
 rcases zGC a with⟨x,rfl⟩|ha
 ·rcases hn with hn|hn
  ·exact absurd rfl (hn x)
  ·have h2:=zIN hn
   clear hn
   rw[e2]
   generalize tyV b=t2 at *
   refine Rn.to_of hbs func147 rfl ntmps147 results147 rfl ?_
   intro wb St0 X fx
   repeat' first|(refine zCa (zs:=[.int .i64 0]) (hidL (zBc bs s.cells)) 2 (zBF _) ?_ rfl rfl rfl rfl rfl rfl rfl ?_;with_reducible exact zCM)|(refine zCa (zs:=[.int .i64 0]) (hidL (zBc bs s.cells)) 3 (zBF _) ?_ rfl rfl rfl rfl rfl rfl rfl ?_;with_reducible exact zCM)|(refine zB0 5 2 2 rfl rfl rfl rfl rfl rfl rfl ?_)|apply en_n|apply zAE|apply zAA|apply zAD|apply w0|(apply zBG;exact rfl;exact rfl;(with_reducible exact zCE);exact(by decide);exact rfl;exact rfl;exact(by decide))|(apply zFN;exact rfl;with_reducible exact zCh)|(apply zFO;exact rfl;(first|exact rfl|assumption);with_reducible exact zCh;with_reducible exact zIG)|(refine zCH 4 [0,1] zDv (hs) rfl rfl rfl rfl (SArgs_all rfl) rfl rfl (by decide) rfl rfl rfl rfl rfl rfl rfl (fun y0 hy0=>⟨rfl,rfl,rfl,zA1 hy0.1 hbs hy0.2⟩) (fun y hy=>?_))|apply ay (hd:=rfl)|exact zAC rfl|exact zAB rfl|exact zAR rfl zC1|exact zBY rfl|exact zAi rfl rfl|exact zAb rfl rfl|exact zAU rfl|refine w1 rfl rfl ?_|(refine w0' ?_)|(apply zAq;exact rfl;exact rfl;exact rfl;(with_reducible exact zDw);exact rfl;exact rfl;exact rfl;exact rfl)|refine zAJ rfl ?_|apply en_r
   all_goals exact Rn.retO hy rfl rfl rfl
 ·have h1:=zIN ha
  rw[e1]
  clear hn ha
  generalize tyV a=t1 at *
  rcases zGC b with⟨y,rfl⟩|hb2
  ·skip
   refine Rn.to_of hbs func147 rfl ntmps147 results147 rfl ?_
   intro wb St0 X fx
   repeat' first|(refine zCa (zs:=[.int .i64 0]) (hidL (zBc bs s.cells)) 2 (zBF _) ?_ rfl rfl rfl rfl rfl rfl rfl ?_;with_reducible exact zCM)|(refine zCa (zs:=[.int .i64 0]) (hidL (zBc bs s.cells)) 3 (zBF _) ?_ rfl rfl rfl rfl rfl rfl rfl ?_;with_reducible exact zCM)|(refine zB0 5 2 2 rfl rfl rfl rfl rfl rfl rfl ?_)|apply en_n|apply zAE|apply zAA|apply zAD|apply w0|refine k0u (hd:=rfl) rfl rfl ?_|(apply zBG;exact rfl;exact rfl;(with_reducible exact zCE);exact(by decide);exact rfl;exact rfl;exact(by decide))|(apply zFN;exact rfl;with_reducible exact zCh)|(apply zFO;exact rfl;(first|exact rfl|assumption);with_reducible exact zCh;with_reducible exact zIG)|(refine zCH 4 [0,1] zDv (hs) rfl rfl rfl rfl (SArgs_all rfl) rfl rfl (by decide) rfl rfl rfl rfl rfl rfl rfl (fun y0 hy0=>⟨rfl,rfl,rfl,zA1 hy0.1 hbs hy0.2⟩) (fun y hy=>?_))|apply ay (hd:=rfl)|exact zAC rfl|exact zAB rfl|exact zAR rfl zC1|exact zBY rfl|exact zAj rfl rfl|exact zAb rfl rfl|exact zAU rfl|(refine w0' ?_)|(apply zAq;exact rfl;exact rfl;exact rfl;(with_reducible exact zDw);exact rfl;exact rfl;exact rfl;exact rfl)|refine zAJ rfl ?_|apply en_r
   all_goals exact Rn.retO hy rfl rfl rfl
  ·have h2:=zIN hb2
   rw[e2]
   clear hb2
   generalize tyV b=t2 at *
   refine Rn.to_of hbs func147 rfl ntmps147 results147 rfl ?_
   intro wb St0 X fx
   repeat' first|(refine zCa (zs:=[.int .i64 0]) (hidL (zBc bs s.cells)) 2 (zBF _) ?_ rfl rfl rfl rfl rfl rfl rfl ?_;with_reducible exact zCM)|(refine zCa (zs:=[.int .i64 0]) (hidL (zBc bs s.cells)) 3 (zBF _) ?_ rfl rfl rfl rfl rfl rfl rfl ?_;with_reducible exact zCM)|(refine zB0 5 2 2 rfl rfl rfl rfl rfl rfl rfl ?_)|apply en_n|apply zAE|apply zAA|apply zAD|apply w0|refine k0u (hd:=rfl) rfl rfl ?_|(apply zBG;exact rfl;exact rfl;(with_reducible exact zCE);exact(by decide);exact rfl;exact rfl;exact(by decide))|(apply zFO;exact rfl;(first|exact rfl|assumption);with_reducible exact zCh;with_reducible exact zIG)|(refine zCH 4 [0,1] zDv (hs) rfl rfl rfl rfl (SArgs_all rfl) rfl rfl (by decide) rfl rfl rfl rfl rfl rfl rfl (fun y0 hy0=>⟨rfl,rfl,rfl,zA1 hy0.1 hbs hy0.2⟩) (fun y hy=>?_))|apply ay (hd:=rfl)|exact zAC rfl|exact zAB rfl|exact zAR rfl zC1|exact zBY rfl|exact zAj rfl rfl|exact zAb rfl rfl|exact zAU rfl|(refine w0' ?_)|(apply zAq;exact rfl;exact rfl;exact rfl;(with_reducible exact zDw);exact rfl;exact rfl;exact rfl;exact rfl)|refine zAJ rfl ?_|apply en_r
   all_goals exact Rn.retO hy rfl rfl rfl
theorem zUb(R:Rn)(s s':S)(bs:List Nat)(hbs:bs.length=s.cells.length)(f:FuncId)(hbf:zAQ prog f=true)(x y n:Int)(hf:R.To f ([.ptr 0 0,.d (i64 x),.d (i64 y)]++([]:List D).map SV.d) s bs s' (fun _=>encV [] (.num n))): R.To 147 [.ptr 0 0,.d (.slice [encV bs (.num x),encV bs (.num y)]),.d (.ref [.clo f []])] s bs s' (fun _=>encV [] (.num n)):=by
 refine Rn.to_of hbs func147 rfl ntmps147 results147 rfl ?_
 intro wb St0 X fx
 repeat' first|(refine zCa (zs:=[.int .i64 0]) (hidL (zBc bs s.cells)) 2 (zBF _) ?_ rfl rfl rfl rfl rfl rfl rfl ?_;with_reducible exact zCM)|(refine zCa (zs:=[.int .i64 0]) (hidL (zBc bs s.cells)) 3 (zBF _) ?_ rfl rfl rfl rfl rfl rfl rfl ?_;with_reducible exact zCM)|(refine zB0 5 2 2 rfl rfl rfl rfl rfl rfl rfl ?_)|apply en_n|apply zAE|apply zAA|apply zAD|apply w0|(apply zBG;exact rfl;exact rfl;(with_reducible exact zCE);exact dC;exact rfl;exact rfl;exact dC)|(apply zFN;exact rfl;with_reducible exact zCh)|exact zDu rfl zXu|(refine zWE 4 [0,1] rfl hbf (hf) rfl rfl rfl rfl (SArgs_all rfl) rfl rfl dC rfl rfl rfl rfl rfl rfl rfl (fun y0 hy0=>⟨rfl,rfl,rfl,zA1 hy0.1 hbs hy0.2⟩) (fun z hz=>?_))|refine ayA rfl ?_|apply ay (hd:=rfl)|refine w1 rfl rfl ?_|(refine w0' ?_)|refine aStA ?_|refine zAK rfl ?_|apply zAM
 all_goals exact Rn.retO hz rfl rfl rfl
theorem b1_E(R:Rn)(s:S)(bs:List Nat)(hbs:bs.length=s.cells.length)(a b:Int): R.To 87 [.ptr 0 0,.d (i64 a),.d (i64 b)] s bs s (fun _=>encV [] (.num (Wn (a+b)))):=by
 refine Rn.to_of hbs func87 rfl ntmps87 results87 rfl ?_
 intro wb St0 X fx
 repeat' first|apply en_n|apply zAE|apply zAA|apply zAD|apply w0|(refine zAP zZ8 (zZY a b) (CoLA rfl))|exact zAo zD5 zCM (PD_d rfl rfl zBE) rfl|(apply zDj;exact rfl;with_reducible exact zCh)|apply ay (hd:=rfl)|exact zAC rfl|exact zAB rfl|apply zAN
 all_goals exact Rn.ret0 (y:=bs) ⟨qAw,hbs⟩ rfl rfl
theorem b2_E(R:Rn)(s:S)(bs:List Nat)(hbs:bs.length=s.cells.length)(a b:Int): R.To 89 [.ptr 0 0,.d (i64 a),.d (i64 b)] s bs s (fun _=>encV [] (.num (Wn (a-b)))):=by
 refine Rn.to_of hbs func89 rfl ntmps89 results89 rfl ?_
 intro wb St0 X fx
 repeat' first|apply en_n|apply zAE|apply zAA|apply zAD|apply w0|(refine zAP zZ6 (zZV a b) (CoLA rfl))|exact zAo zD5 zCM (PD_d rfl rfl zBE) rfl|(apply zDj;exact rfl;with_reducible exact zCh)|apply ay (hd:=rfl)|exact zAC rfl|exact zAB rfl|apply zAN
 all_goals exact Rn.ret0 (y:=bs) ⟨qAw,hbs⟩ rfl rfl
theorem b3_E(R:Rn)(s:S)(bs:List Nat)(hbs:bs.length=s.cells.length)(a b:Int): R.To 91 [.ptr 0 0,.d (i64 a),.d (i64 b)] s bs s (fun _=>encV [] (.num (Wn (a*b)))):=by
 refine Rn.to_of hbs func91 rfl ntmps91 results91 rfl ?_
 intro wb St0 X fx
 repeat' first|apply en_n|apply zAE|apply zAA|apply zAD|apply w0|(refine zAP zZ7 (zZX a b) (CoLA rfl))|exact zAo zD5 zCM (PD_d rfl rfl zBE) rfl|(apply zDj;exact rfl;with_reducible exact zCh)|apply ay (hd:=rfl)|exact zAC rfl|exact zAB rfl|apply zAN
 all_goals exact Rn.ret0 (y:=bs) ⟨qAw,hbs⟩ rfl rfl
theorem zQV(R:Rn)(s:S)(bs:List Nat)(hbs:bs.length=s.cells.length)(n:Int): R.To 95 [.ptr 0 0,.d (i64 n),.d (i64 0)] s bs s (fun _=>encV [] (.num n)):=by
 refine Rn.to_of hbs func95 rfl ntmps95 results95 rfl ?_
 intro wb St0 X fx
 repeat' first|apply en_n|apply zAE|apply zAA|apply zAD|apply w0|exact zBQ rfl rfl|exact zAo zD5 zCM (PD_d rfl rfl zBE) rfl|(apply zDj;exact rfl;with_reducible exact zCh)|apply ay (hd:=rfl)|exact zAC rfl|exact zAB rfl|refine zAK rfl ?_|apply zAM|apply zAN
 all_goals exact Rn.ret0 (y:=bs) ⟨qAw,hbs⟩ rfl rfl
theorem zQW(R:Rn)(s:S)(bs:List Nat)(hbs:bs.length=s.cells.length)(n:Int): R.To 95 [.ptr 0 0,.d (i64 n),.d (i64 10)] s bs (s.raise (-2)).2 (fun _=>encV [] (.num 0)):=by
 have hs:=zMh R s bs hbs (-2)
 refine Rn.to_of hbs func95 rfl ntmps95 results95 rfl ?_
 intro wb St0 X fx
 repeat' first|apply en_n|apply zAE|apply zAA|apply zAD|apply w0|exact zCC rfl rfl|(refine zCH 2 [0,1] zJ5 (hs) rfl rfl rfl rfl (SArgs_all rfl) rfl rfl (by decide) rfl rfl rfl rfl rfl rfl rfl (fun y0 hy0=>⟨rfl,rfl,rfl,zA1 hy0.1 hbs hy0.2⟩) (fun y hy=>?_))|apply ay (hd:=rfl)|exact zAC rfl|exact zAB rfl|exact zAU rfl|refine zAJ rfl ?_|apply zAN|apply en_r
 all_goals exact Rn.ret0 hy rfl rfl
theorem zc7(R:Rn)(s:S)(bs:List Nat)(hbs:bs.length=s.cells.length)(a b:Int)(h:¬Wn b=0): R.To 93 [.ptr 0 0,.d (i64 a),.d (i64 b)] s bs s (fun _=>encV [] (.num (Wn ((Wn a).tdiv (Wn b))))):=by
 have hc:=zTT a b
 rw[zE1 h,show divV a b=Wn ((Wn a).tdiv (Wn b))from if_neg h]at hc
 have hs:=zQV R s bs hbs (Wn ((Wn a).tdiv (Wn b)))
 refine Rn.to_of hbs func93 rfl ntmps93 results93 rfl ?_
 intro wb St0 X fx
 repeat' first|apply en_n|apply zAE|apply zAA|apply zAD|apply w0|(refine zAP zUk hc (CoLA rfl))|(refine zCH 2 [0,1] zJ4 (hs) rfl rfl rfl rfl (SArgs_all rfl) rfl rfl (by decide) rfl rfl rfl rfl rfl rfl rfl (fun y0 hy0=>⟨rfl,rfl,rfl,zA1 hy0.1 hbs hy0.2⟩) (fun y hy=>?_))|apply ay (hd:=rfl)|exact zAC rfl|exact zAB rfl|exact zAb rfl rfl|exact zAU rfl|apply zAN
 all_goals exact Rn.ret0 hy rfl rfl
theorem zc8(R:Rn)(s:S)(bs:List Nat)(hbs:bs.length=s.cells.length)(a b:Int)(h:Wn b=0): R.To 93 [.ptr 0 0,.d (i64 a),.d (i64 b)] s bs (s.raise (-2)).2 (fun _=>encV [] (.num 0)):=by
 have hc:=zTT a b
 rw[zE0 h,show divV a b=0 from if_pos h]at hc
 have hs:=zQW R s bs hbs 0
 refine Rn.to_of hbs func93 rfl ntmps93 results93 rfl ?_
 intro wb St0 X fx
 repeat' first|apply en_n|apply zAE|apply zAA|apply zAD|apply w0|(refine zAP zUk hc (CoLA rfl))|(refine zCH 2 [0,1] zJ4 (hs) rfl rfl rfl rfl (SArgs_all rfl) rfl rfl (by decide) rfl rfl rfl rfl rfl rfl rfl (fun y0 hy0=>⟨rfl,rfl,rfl,zA1 hy0.1 hbs hy0.2⟩) (fun y hy=>?_))|apply ay (hd:=rfl)|exact zAC rfl|exact zAB rfl|exact zAb rfl rfl|exact zAU rfl|apply zAN
 all_goals exact Rn.ret0 hy rfl rfl
theorem zc5(R:Rn)(s:S)(bs:List Nat)(hbs:bs.length=s.cells.length)(a b:Int)(h:¬Wn b=0): R.To 96 [.ptr 0 0,.d (i64 a),.d (i64 b)] s bs s (fun _=>encV [] (.num ((Wn a).tmod (Wn b)))):=by
 have hc:=zTS a b
 rw[zE1 h,show modV a b=(Wn a).tmod (Wn b)from if_neg h]at hc
 have hs:=zQV R s bs hbs ((Wn a).tmod (Wn b))
 refine Rn.to_of hbs func96 rfl ntmps96 results96 rfl ?_
 intro wb St0 X fx
 repeat' first|apply en_n|apply zAE|apply zAA|apply zAD|apply w0|(refine zAP zUj hc (CoLA rfl))|(refine zCH 2 [0,1] zJ4 (hs) rfl rfl rfl rfl (SArgs_all rfl) rfl rfl (by decide) rfl rfl rfl rfl rfl rfl rfl (fun y0 hy0=>⟨rfl,rfl,rfl,zA1 hy0.1 hbs hy0.2⟩) (fun y hy=>?_))|apply ay (hd:=rfl)|exact zAC rfl|exact zAB rfl|exact zAb rfl rfl|exact zAU rfl|apply zAN
 all_goals exact Rn.ret0 hy rfl rfl
theorem zc6(R:Rn)(s:S)(bs:List Nat)(hbs:bs.length=s.cells.length)(a b:Int)(h:Wn b=0): R.To 96 [.ptr 0 0,.d (i64 a),.d (i64 b)] s bs (s.raise (-2)).2 (fun _=>encV [] (.num 0)):=by
 have hc:=zTS a b
 rw[zE0 h,show modV a b=0 from if_pos h]at hc
 have hs:=zQW R s bs hbs 0
 refine Rn.to_of hbs func96 rfl ntmps96 results96 rfl ?_
 intro wb St0 X fx
 repeat' first|apply en_n|apply zAE|apply zAA|apply zAD|apply w0|(refine zAP zUj hc (CoLA rfl))|(refine zCH 2 [0,1] zJ4 (hs) rfl rfl rfl rfl (SArgs_all rfl) rfl rfl (by decide) rfl rfl rfl rfl rfl rfl rfl (fun y0 hy0=>⟨rfl,rfl,rfl,zA1 hy0.1 hbs hy0.2⟩) (fun y hy=>?_))|apply ay (hd:=rfl)|exact zAC rfl|exact zAB rfl|exact zAb rfl rfl|exact zAU rfl|apply zAN
 all_goals exact Rn.ret0 hy rfl rfl
theorem zYz(b:Bool): zAX prog 99 [bl b] (encV [] (.num (if b=true then 1 else 0))):=by
 cases b
 all_goals refine zAc func99 rfl ntmps99 results99 rfl ?_
 all_goals intro wb St0
 all_goals skip
 repeat' first|apply en_n|apply zAE|apply zAA|apply zAD|apply w0|exact zAo zD5 zCM (PD_d rfl rfl zBE) rfl|exact zAo zD5 zCM zBE rfl|(apply zDj;exact rfl;with_reducible exact zCh)|apply ay (hd:=rfl)|exact zAC rfl|exact zAB rfl|refine zAJ rfl ?_|refine zAK rfl ?_|apply zAM|apply zAN|apply en_r|apply zAO|refine res1 rfl ?_
 all_goals rfl
theorem b6_E(R:Rn)(s:S)(bs:List Nat)(hbs:bs.length=s.cells.length)(a b:Int): R.To 98 [.ptr 0 0,.d (i64 a),.d (i64 b)] s bs s (fun _=>encV [] (bit (a=b))):=by
 have hc:=zYz (decide (a=b))
 rw[show encV [] (.num (if decide (a=b)=true then 1 else 0))=encV [] (bit (a=b)) by unfold bit;simp]at hc
 generalize bit (a=b)=v at *
 refine Rn.to_of hbs func98 rfl ntmps98 results98 rfl ?_
 intro wb St0 X fx
 repeat' first|apply en_n|apply zAE|apply zAA|apply zAD|apply w0|(refine zAP zYp hc (CoLA rfl))|apply ay (hd:=rfl)|exact zAC rfl|exact zAB rfl|exact zDz rfl rfl|apply zAN
 all_goals exact Rn.ret0 (y:=bs) ⟨qAw,hbs⟩ rfl rfl
theorem b7_E(R:Rn)(s:S)(bs:List Nat)(hbs:bs.length=s.cells.length)(a b:Int): R.To 100 [.ptr 0 0,.d (i64 a),.d (i64 b)] s bs s (fun _=>encV [] (bit (a<b))):=by
 have hc:=zYz (decide (a<b))
 rw[show encV [] (.num (if decide (a<b)=true then 1 else 0))=encV [] (bit (a<b)) by unfold bit;simp]at hc
 generalize bit (a<b)=v at *
 refine Rn.to_of hbs func100 rfl ntmps100 results100 rfl ?_
 intro wb St0 X fx
 repeat' first|apply en_n|apply zAE|apply zAA|apply zAD|apply w0|(refine zAP zYp hc (CoLA rfl))|apply ay (hd:=rfl)|exact zAC rfl|exact zAB rfl|exact zCt rfl rfl|apply zAN
 all_goals exact Rn.ret0 (y:=bs) ⟨qAw,hbs⟩ rfl rfl

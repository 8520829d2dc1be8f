/- Parts. -/
import Derived.Test.YtjcgiiedaccjpaaGreatDoorMAY
import Derived.Test.YtjcgiiedaccjpaaGreatDoorMAZ
set_option maxHeartbeats 16000000
namespace Go.Proofs.YtjcgiiedaccjpaaGreatDoor
open _root_.Go.Proofs.Tryz
open Go.Sx
attribute [local irreducible] zAK Program.underlying Ylds zA3 alex zBc zBL awp zAc zBd zBi zBD zBI zBS zA5 zBT zBY zBe zBs zBN VCall
theorem zNJ(L:List Nd)(n:Nat)(x:Nd)(ks:List Tr)(h:At L n (.mk x ks))(pat:Bool)(hL:L.length<=2000000):
  zBI prog 126 [.d (i64 (n:Int)),.d (bl pat),.ptr 0 0] (lO L) (i64 (zE2 x (Tr.kind1 (.mk x ks)) pat)):=by
 have hn:=zTF L n x ks h pat hL
 refine zCt func126 rfl ntmps126 results126 rfl ?_
 intro wb St0
 repeat' first|apply en_n|apply zAE|apply zAA|apply zAD|apply w0|(refine zAU zRO hn (CoLA rfl))|apply ay (hd:=rfl)|exact zAC rfl|exact zAB rfl|exact zAJ rfl zAY rfl rfl|apply zAM|apply zAL|refine res1 rfl ?_
 rfl
def zNE(n:Nat)(t:Tr)(pat:Bool): D:=if t.werr pat=0 then .tup [i64 ((n+t.sz:Nat):Int),i64 0]else .tup [i64 0,i64 (t.werr pat)]
theorem zOG(x:Nd)(ks:List Tr)(pat:Bool): Tr.werr (.mk x ks) pat=if zE2 x (Tr.kind1 (.mk x ks)) pat≠0 then zE2 x (Tr.kind1 (.mk x ks)) pat else zGS (decide (x.kind=10)) pat ks 0:=by rw[Tr.werr]
theorem zND{m pat:Bool}{ks:List Tr}{i:Nat}{k:Tr}(h:ks[i]?=some k): zGS m pat (ks.drop i) i=if k.werr (pat||(m&&decide (i%2=1)))≠0 then k.werr (pat||(m&&decide (i%2=1)))else zGS m pat (ks.drop (i+1)) (i+1):=by
 obtain⟨hi,rfl⟩:=qAA.1 h
 rw[qAZ hi,zGS]
theorem zIz: ∀ks:List Tr,ks.length<=szL ks
 |[]=>qAR _
 |k::r=>by
  have:=zIz r;have:=zFs k
  rw[szL,qAJ];omega
theorem zOH(L:List Nd)(hL:L.length<=2000000): ∀(m n:Nat) (t:Tr) (pat:Bool),t.sz<=m->At L n t->
  zBI prog 125 [.d (zAm L),.d (i64 (n:Int)),.d (bl pat),.clo 126 [0]] (lO L) (zNE n t pat)
 |0,n,t,pat,hm,h=>by have:=zFs t;omega
 |m+1,n,.mk x ks,pat,hm,h=>by
  have hc:=zNJ L n x ks h pat hL
  have hx:=h.here
  have hlen:=h.len
  have hsz:Tr.sz (.mk x ks)=szL ks+1:=by rw[Tr.sz]
  rw[zNE,zOG]
  generalize zE2 x (Tr.kind1 (.mk x ks)) pat=e0 at *
  by_cases he:e0=0
  ·subst he
   rw[show ∀W:Int,(if(0:Int)≠0 then(0:Int)else W)=W from fun W=>if_neg (by decide)]
   refine zJ1 func125 rfl ntmps125 results125 rfl ?_
   intro wb St0
   repeat' first|apply en_n|apply zAE|apply zAA|apply zAD|apply w0|exact zBg rfl rfl|exact zB7 rfl|(refine zCr [0] [0] rfl rfl zIX (hc) rfl (SArgs_all rfl) rfl (by decide) rfl rfl rfl rfl)|(apply aJ (hd:=rfl);(first|exact zAq rfl|exact Co_bb rfl rfl rfl|exact Co_nn rfl);exact rfl;(with_reducible exact zAa);assumption;omega;exact fun _=>rfl)|apply ay (hd:=rfl)|exact zAC rfl|exact zAB rfl|exact zA1 rfl fn_3|exact zAR rfl zAd|refine zBE rfl rfl ?_|refine zAQ rfl ?_|apply zAI|apply zAO
   all_goals try omega
   refine zAv (α:=Nat) (fun i=>i<=ks.length/\zGS (decide (x.kind=10)) pat (ks.drop i) i=zGS (decide (x.kind=10)) pat ks 0)
    (fun i=>[(0,.d (zAm L)),(1,.d (i64 (n:Int))),(2,.d (bl pat)),(3,.clo 126 [0]),(11,.d (i64 (kidAt n ks i:Nat))),(28,.d (i64 x.kids)),(29,.d (i64 (i:Int)))]) (fun _=>lO L) (fun i=>ks.length-i) 0 ⟨qAR _,by rw[qBM]⟩
    (zAV (Le_cons rfl (Le_cons rfl (Le_cons rfl (Le_cons rfl (Le_d rfl (by rw[zCV];rfl) (Le_all rfl)))))) (zAT rfl rfl zAW) rfl rfl) ?_
   rintro i ⟨hi1,hi2⟩
   have hkn:=h.kidn
   have hsl:=zIz ks
   rcases qAI i ks.length with hlt|hge
   ·obtain⟨k,hk⟩:∃k,ks[i]?=some k:=⟨_,qAB hlt⟩
    have hli:(i:Int)<x.kids:=by omega
    have hAt:=h.kid hk
    have hks:=zFV (qAE hk)
    have ih:=zOH L hL m (kidAt n ks i) k (pat||(decide (x.kind=10)&&decide (i%2=1))) (by omega) hAt
    rw[zND hk]at hi2
    have hsucc:=zDP (n:=n) hk
    have hkl:=hAt.len
    have hodd:(i:Int).tmod 2=((i%2:Nat):Int):=rfl
    generalize hq:(pat||(decide (x.kind=10)&&decide (i%2=1)))=q at *
    have hq2:(pat=true/\q=true)\/(pat=false/\x.kind=10/\(i:Int).tmod 2=1/\q=true)\/(pat=false/\x.kind=10/\¬(i:Int).tmod 2=1/\q=false)\/(pat=false/\¬x.kind=10/\q=false):=by
     rw[hodd]
     cases pat with
     |true=>exact .inl ⟨rfl,by rw[<-hq];simp⟩
     |false =>
      by_cases c1:x.kind=10
      ·by_cases c2:i%2=1
       ·exact .inr (.inl ⟨rfl,c1,by omega,by rw[<-hq];simp[c1,c2]⟩)
       ·exact .inr (.inr (.inl ⟨rfl,c1,by omega,by rw[<-hq];simp[c2]⟩))
      ·exact .inr (.inr (.inr ⟨rfl,c1,by rw[<-hq];simp[c1]⟩))
    clear hq hodd
    by_cases he2:k.werr q=0
    ·rw[zNE,if_pos he2]at ih
     rw[if_neg (by rw[he2];decide)]at hi2
     have hnx:kidAt n ks i+k.sz=kidAt n ks (i+1):=hsucc.symm
     rcases hq2 with⟨rfl,rfl⟩|⟨rfl,c1,c2,rfl⟩|⟨rfl,c1,c2,rfl⟩|⟨rfl,c1,rfl⟩
     all_goals
      repeat' first|apply en_n|apply zAE|apply zAA|apply zAD|apply w0|refine kU (hd:=rfl) rfl rfl ?_|refine k1u (hd:=rfl) rfl rfl ?_|refine k0u (hd:=rfl) rfl rfl ?_|exact zBh rfl rfl|exact zBU rfl rfl|exact zBW rfl rfl|exact zBg rfl rfl|exact zB7 rfl|(apply zSK;exact rfl;exact rfl;exact(by decide))|(refine zCr [0] [] rfl rfl zG9 (ih) rfl (SArgs_all rfl) rfl (by decide) rfl rfl rfl rfl)|(apply aJ (hd:=rfl);(first|exact zAq rfl|exact Co_bb rfl rfl rfl|exact Co_nn rfl);exact rfl;(with_reducible exact zAa);assumption;omega;exact fun _=>rfl)|apply ay (hd:=rfl)|exact zAC rfl|exact zAB rfl|exact zA1 rfl fn_0|exact zAR rfl zAp|refine zBE rfl rfl ?_|exact zAi rfl rfl|exact zAj rfl rfl|exact zAe rfl rfl|refine w1 rfl rfl ?_|refine zAN rfl ?_|refine zAQ rfl ?_|apply zAI|apply zAO|apply eb_n
     all_goals try omega
     all_goals exact⟨i+1,⟨by omega,hi2⟩,by omega,zAV (Le_cons rfl (Le_cons rfl (Le_cons rfl (Le_cons rfl (Le_d rfl (by rw[<-hnx]) (Le_all rfl)))))) (zAT rfl rfl zAW) rfl rfl⟩
    ·rw[zNE,if_neg he2]at ih
     rw[if_pos he2]at hi2
     rw[<-hi2,if_neg he2]
     rcases hq2 with⟨rfl,rfl⟩|⟨rfl,c1,c2,rfl⟩|⟨rfl,c1,c2,rfl⟩|⟨rfl,c1,rfl⟩
     all_goals
      repeat' first|apply en_n|apply zAE|apply zAA|apply zAD|apply w0|refine kU (hd:=rfl) rfl rfl ?_|refine k1u (hd:=rfl) rfl rfl ?_|refine k0u (hd:=rfl) rfl rfl ?_|exact zBh rfl rfl|exact zBU rfl rfl|exact zBW rfl rfl|exact zCz rfl rfl|(refine zB6 ?_)|(refine zEH ?_)|exact zEf|(refine RV_d rfl ?_ ?_)|(with_reducible exact rfl)|exact zB7 rfl|(apply zSK;exact rfl;exact rfl;exact(by decide))|(refine zCr [0] [] rfl rfl zG9 (ih) rfl (SArgs_all rfl) rfl (by decide) rfl rfl rfl rfl)|(apply aJ (hd:=rfl);(first|exact zAq rfl|exact Co_bb rfl rfl rfl|exact Co_nn rfl);exact rfl;(with_reducible exact zAa);assumption;omega;exact fun _=>rfl)|apply ay (hd:=rfl)|exact zAC rfl|exact zAB rfl|exact zA1 rfl fn_0|exact zAR rfl zAp|exact zAi rfl rfl|exact zAj rfl rfl|exact zAe rfl rfl|refine w1 rfl rfl ?_|refine zAN rfl ?_|apply zAI|apply zAO|apply zAM|apply en_r|apply eb_r
     all_goals try omega
     all_goals rfl
   ·have hli:¬(i:Int)<x.kids:=by omega
    have e:i=ks.length:=by omega
    subst e
    rw[List.drop_length,zGS]at hi2
    rw[<-hi2,if_pos rfl]
    have hke:=zHj n ks
    repeat' first|apply en_n|apply zAE|apply zAA|apply zAD|apply w0|exact zCT rfl rfl|(refine zB6 ?_)|(refine zEH ?_)|exact zEf|(refine RV_d rfl ?_ ?_)|(with_reducible exact rfl)|apply ay (hd:=rfl)|exact zAC rfl|exact zAB rfl|refine zAQ rfl ?_|apply zAM|apply zA0|apply en_e|apply eb_e
    all_goals first
     |rfl
     |(show i64 _=i64 _;congr 1;rw[hke,hsz];omega)
  ·rw[if_pos he,if_neg he]
   refine zJ1 func125 rfl ntmps125 results125 rfl ?_
   intro wb St0
   exact yU

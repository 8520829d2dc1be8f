/- Parts. -/
import Derived.Test.YtjcgiiedaccjpaaGreatDoorPAM
import Derived.Test.YtjcgiiedaccjpaaGreatDoorPAO
import Derived.Test.YtjcgiiedaccjpaaGreatDoorPAQ
set_option maxHeartbeats 16000000
namespace Go.Proofs.YtjcgiiedaccjpaaGreatDoor
open _root_.Go.Proofs.Tryz
open Go.Sx
attribute [local irreducible] zAQ Program.underlying Ylds zBJ alex zBk zBZ awp zAX FCall zBo zBR zBX zBb zBD zBd zBj zBn zBu zBP VCall
theorem zSE(L:List Nd)(n:Nat)(x:Nd)(ks:List Tr)(h:At L n (.mk x ks))(pat:Bool)(hL:L.length<=2000000):
  zBX prog 126 [.d (i64 (n:Int)),.d (bl pat),.ptr 0 0] (lO L) (i64 (zFQ x (Tr.kind1 (.mk x ks)) pat)):=by
 have hn:=zZr L n x ks h pat hL
 refine zDS func126 rfl ntmps126 results126 rfl ?_
 intro wb St0
 repeat' first|apply en_n|apply zAE|apply zAA|apply zAD|apply w0|exact ycA zXO hn|refine ayA rfl ?_|apply ay (hd:=rfl)|apply zAN|apply zAO|refine res1 rfl ?_
 rfl
def zR9(n:Nat)(t:Tr)(pat:Bool): D:=if t.werr pat=0 then .tup [i64 ((n+t.sz:Nat):Int),i64 0]else .tup [i64 0,i64 (t.werr pat)]
theorem zTO(x:Nd)(ks:List Tr)(pat:Bool): Tr.werr (.mk x ks) pat=if zFQ x (Tr.kind1 (.mk x ks)) pat≠0 then zFQ x (Tr.kind1 (.mk x ks)) pat else zHp (decide (x.kind=10)) pat ks 0:=by rw[Tr.werr]
theorem zLc{m pat:Bool}{ks:List Tr}{i:Nat}{k:Tr}(h:ks[i]?=some k): zHp m pat (ks.drop i) i=if k.werr (pat||(m&&decide (i%2=1)))≠0 then k.werr (pat||(m&&decide (i%2=1)))else zHp m pat (ks.drop (i+1)) (i+1):=by
 obtain⟨hi,rfl⟩:=qAA.1 h
 rw[qAW hi,zHp]
theorem zHG: ∀ks:List Tr,ks.length<=szL ks
 |[]=>qAO _
 |k::r=>by
  have:=zHG r;have:=zDy k
  rw[szL,qAK];omega
theorem zTR(L:List Nd)(hL:L.length<=2000000): ∀(m n:Nat) (t:Tr) (pat:Bool),t.sz<=m->At L n t->
  zBX prog 125 [.d (zAu L),.d (i64 (n:Int)),.d (bl pat),.clo 126 [0]] (lO L) (zR9 n t pat)
 |0,n,t,pat,hm,h=>by have:=zDy t;omega
 |m+1,n,.mk x ks,pat,hm,h=>by
  have hc:=zSE L n x ks h pat hL
  have hx:=h.here
  have hlen:=h.len
  have hsz:Tr.sz (.mk x ks)=szL ks+1:=by rw[Tr.sz]
  rw[zR9,zTO]
  generalize zFQ x (Tr.kind1 (.mk x ks)) pat=e0 at *
  by_cases he:e0=0
  ·subst he
   rw[show ∀W:Int,(if(0:Int)≠0 then(0:Int)else W)=W from fun W=>if_neg dC]
   refine zOA func125 rfl ntmps125 results125 rfl ?_
   intro wb St0
   repeat' first|apply en_n|apply zAE|apply zAA|apply zAD|apply w0|exact qcA [0] [0] zL5 (hc)|refine aJA ?_|refine ayA rfl ?_|refine ayQ rfl ?_|apply ay (hd:=rfl)|refine zBN rfl rfl ?_|refine zAK rfl ?_|apply zAH|apply zAM
   all_goals try omega
   refine zAt (α:=Nat) (fun i=>i<=ks.length/\zHp (decide (x.kind=10)) pat (ks.drop i) i=zHp (decide (x.kind=10)) pat ks 0)
    (fun i=>[(0,.d (zAu L)),(1,.d (i64 (n:Int))),(2,.d (bl pat)),(3,.clo 126 [0]),(11,.d (i64 (kidAt n ks i:Nat))),(28,.d (i64 x.kids)),(29,.d (i64 (i:Int)))]) (fun _=>lO L) (fun i=>ks.length-i) 0 ⟨qAO _,by rw[qAp]⟩
    (zAV (Le_cons rfl (Le_cons rfl (Le_cons rfl (Le_cons rfl (Le_d rfl (by rw[zCu];rfl) (Le_all rfl)))))) (zAT rfl rfl zAW) rfl rfl) ?_
   rintro i ⟨hi1,hi2⟩
   have hkn:=h.kidn
   have hsl:=zHG ks
   rcases qAF i ks.length with hlt|hge
   ·obtain⟨k,hk⟩:∃k,ks[i]?=some k:=⟨_,qAB hlt⟩
    have hli:(i:Int)<x.kids:=by omega
    have hAt:=h.kid hk
    have hks:=zEE (qAC hk)
    have ih:=zTR L hL m (kidAt n ks i) k (pat||(decide (x.kind=10)&&decide (i%2=1))) oM hAt
    rw[zLc hk]at hi2
    have hsucc:=zDt (n:=n) hk
    have hkl:=hAt.len
    have hodd:(i:Int).tmod 2=((i%2:Nat):Int):=rfl
    generalize hq:(pat||(decide (x.kind=10)&&decide (i%2=1)))=q at *
    have hq2:(pat=true/\q=true)\/(pat=false/\x.kind=10/\(i:Int).tmod 2=1/\q=true)\/(pat=false/\x.kind=10/\¬(i:Int).tmod 2=1/\q=false)\/(pat=false/\¬x.kind=10/\q=false):=by
     rw[hodd]
     cases pat with
     |true=>exact .inl ⟨rfl,by rw[<-hq];simp⟩
     |false =>
      by_cases c1:x.kind=10
      ·by_cases c2:i%2=1
       ·exact .inr (.inl ⟨rfl,c1,by omega,by rw[<-hq];simp[c1,c2]⟩)
       ·exact .inr (.inr (.inl ⟨rfl,c1,by omega,by rw[<-hq];simp[c2]⟩))
      ·exact .inr (.inr (.inr ⟨rfl,c1,by rw[<-hq];simp[c1]⟩))
    clear hq hodd
    by_cases he2:k.werr q=0
    ·rw[zR9,if_pos he2]at ih
     rw[if_neg (by rw[he2];decide)]at hi2
     have hnx:kidAt n ks i+k.sz=kidAt n ks (i+1):=hsucc.symm
     rcases hq2 with⟨rfl,rfl⟩|⟨rfl,c1,c2,rfl⟩|⟨rfl,c1,c2,rfl⟩|⟨rfl,c1,rfl⟩
     all_goals
      repeat' first|apply en_n|apply zAE|apply zAA|apply zAD|apply w0|refine kU (hd:=rfl) rfl rfl ?_|refine k1u (hd:=rfl) rfl rfl ?_|refine k0u (hd:=rfl) rfl rfl ?_|(apply zLa;exact rfl;exact rfl;exact dC)|exact qcA [0] [] zJ3 (ih)|refine aJA ?_|refine ayA rfl ?_|refine ayQ rfl ?_|apply ay (hd:=rfl)|refine zBN rfl rfl ?_|refine w1 rfl rfl ?_|refine zAJ rfl ?_|refine zAK rfl ?_|apply zAH|apply zAM|apply eb_n
     all_goals try omega
     all_goals exact⟨i+1,⟨by omega,hi2⟩,by omega,zAV (Le_cons rfl (Le_cons rfl (Le_cons rfl (Le_cons rfl (Le_d rfl (by rw[<-hnx]) (Le_all rfl)))))) (zAT rfl rfl zAW) rfl rfl⟩
    ·rw[zR9,if_neg he2]at ih
     rw[if_pos he2]at hi2
     rw[<-hi2,if_neg he2]
     rcases hq2 with⟨rfl,rfl⟩|⟨rfl,c1,c2,rfl⟩|⟨rfl,c1,c2,rfl⟩|⟨rfl,c1,rfl⟩
     all_goals
      exact yP
   ·have hli:¬(i:Int)<x.kids:=by omega
    have e:i=ks.length:=by omega
    subst e
    rw[List.drop_length,zHp]at hi2
    rw[<-hi2,if_pos rfl]
    have hke:=zKr n ks
    repeat' first|apply en_n|apply zAE|apply zAA|apply zAD|apply w0|(refine zAv ?_)|(refine zBI ?_)|exact zBg|(refine RV_d rfl ?_ ?_)|(with_reducible exact rfl)|refine ayA rfl ?_|refine ayQ rfl ?_|refine zAK rfl ?_|apply zAN|apply zAz|apply en_e|apply eb_e
    all_goals first
     |rfl
     |(show i64 _=i64 _;congr 1;rw[hke,hsz];omega)
  ·rw[if_pos he,if_neg he]
   refine zOA func125 rfl ntmps125 results125 rfl ?_
   intro wb St0
   exact ye
end Go.Proofs.YtjcgiiedaccjpaaGreatDoor
namespace Go.Proofs.YtjcgiiedaccjpaaGreatDoor
open _root_.Go.Proofs.Tryz
open Go.Sx
theorem zMu: zAQ prog 124=true:=by kernel_rfl
attribute [local irreducible] zAQ Program.underlying Ylds zBJ alex zBk zBZ awp zAX FCall zBo zBR zBX zBb zBD zBd zBj zBn zBu zBP VCall
def chkT(t:Tr)(pat:Bool): Int :=
 if 4000<t.sz\/100<zF2 t.fl then 60 else if t.werr pat≠0 then t.werr pat else if t.tw then 63 else 0
structure Ats(L:List Nd)(n:Nat)(ts:List Tr): Prop where
 drop:L.drop n=flL ts
 wf:wfL ts
theorem Ats.head{L:List Nd}{n:Nat}{t:Tr}{r:List Tr}(h:Ats L n (t::r)): At L n t:=by
 have hw:=h.wf
 rw[wfL]at hw
 exact⟨⟨flL r,by rw[h.drop,flL]⟩,hw.1⟩
theorem Ats.over{L:List Nd}{n:Nat}{t:Tr}{r:List Tr}(h:Ats L n (t::r)): Ats L (n+t.sz) r:=by
 have hw:=h.wf
 rw[wfL]at hw
 exact⟨by rw[<-qBs,h.drop,flL,<-Tr.fl_len,List.drop_left],hw.2⟩
theorem zMB: ∀(a b:List Tr),flL (a++b)=flL a++flL b
 |[],b=>by rw[qA9,flL,qA9]
 |t::a,b=>by rw[qBL,flL,flL,zMB a b,qAY]
theorem zR8{a b:List Tr}: wfL (a++b)↔wfL a/\wfL b:=by
 rw[zGp,zGp,zGp];simp only[qAm]
 exact⟨fun h=>⟨fun k hk=>h k (.inl hk),fun k hk=>h k (.inr hk)⟩,fun ⟨h1,h2⟩ k hk=>hk.elim (h1 k) (h2 k)⟩
theorem Ats.into{L:List Nd}{n:Nat}{x:Nd}{ks r:List Tr}(h:Ats L n (.mk x ks::r)): Ats L (n+1) (ks++r):=by
 have hw:=h.wf
 rw[wfL,Tr.wf]at hw
 refine⟨?_,zR8.2 ⟨hw.1.2,hw.2⟩⟩
 rw[<-qBs,h.drop,flL,Tr.fl,zMB];rfl
theorem zLi: ∀(a b:List Tr),twL (a++b)=(twL a||twL b)
 |[],b=>by rw[qA9,twL,qBJ]
 |t::a,b=>by rw[qBL,twL,twL,zLi a b,Bool.or_assoc]
theorem zMZ{t:Tr}(h:t.wf): zDA t.fl=true:=zHV.2 ⟨t,rfl,h⟩
theorem Ats.none{L:List Nd}{n:Nat}(h:Ats L n []): L.length<=n:=by
 have:=congrArg List.length h.drop
 rw[qAg,flL,qAb]at this;omega
theorem Ats.lt{L:List Nd}{n:Nat}{t:Tr}{r:List Tr}(h:Ats L n (t::r)): n<L.length:=by
 have:=h.head.len;have:=zDy t;omega
theorem zTu(t:Tr)(hw:t.wf)(pat:Bool)(hL:t.fl.length<=1000000): zAX prog 60 [zAu t.fl,bl pat] (i64 (chkT t pat)):=by
 have hsz:=Tr.fl_len t
 have hW:=zKC t.fl oM
 rw[zMZ hw]at hW
 have hD:=za5 t.fl oM
 have hK:=zTR t.fl oM t.sz 0 t pat (qAN _) (.top hw)
 refine zAc func60 rfl ntmps60 results60 rfl ?_
 intro wb St0
 by_cases h1:4000<t.sz\/100<zF2 t.fl
 ·rw[chkT,if_pos h1]
  by_cases h3:4000<t.sz
  ·skip
   exact yL
  ·have h4:100<zF2 t.fl:=by omega
   skip
   repeat' first|apply en_n|apply zAE|apply zAA|apply zAD|apply w0|exact zDk rfl rfl|exact zDL rfl rfl|(refine zAP zHd hW (CoLA rfl))|(refine zAP zMu hD (CoLA rfl))|refine aBox (hd:=rfl) (hro:=rfl) rfl rfl ?_|apply ay (hd:=rfl)|exact zAC rfl|exact zAB rfl|exact zAg rfl zA5|exact zBY rfl|exact zAi rfl rfl|exact zAG rfl zAx rfl rfl|refine w1 rfl rfl ?_|refine zAJ rfl ?_|apply zAN|apply en_r|apply zAO|refine res1 rfl ?_
   all_goals rfl
 ·have h3:¬4000<t.sz:=fun c=>h1 (.inl c)
  have h4:¬100<zF2 t.fl:=fun c=>h1 (.inr c)
  by_cases h2:t.werr pat=0
  ·rw[zR9,if_pos h2]at hK
   rw[chkT,if_neg h1,if_neg (by rw[h2];decide)]
   skip
   repeat' first|apply en_n|apply zAE|apply zAA|apply zAD|apply w0|exact ycA zHd hW|exact ycA zMu hD|exact qcA [0] [] zJ3 (hK)|refine aBoA ?_|refine ayA rfl ?_|refine ayQ rfl ?_|apply ay (hd:=rfl)|exact zFM rfl|exact zQI rfl|refine w1 rfl rfl ?_|refine zAK rfl ?_|apply zAH|apply zAM
   refine zAt (α:=Nat×List Tr) (fun p=>Ats t.fl p.1 p.2/\twL p.2=t.tw) (fun p=>[(2,.ptr 0 0),(7,.clo 128 [0]),(8,.d (i64 (p.1:Int)))]) (fun _=>lO t.fl) (fun p=>t.fl.length-p.1) (0,[t])
    ⟨⟨by rw[qAp,flL,flL,qA0],by rw[wfL];exact⟨hw,trivial⟩⟩,by rw[twL,twL,Bool.or_false]⟩ (zAV (Le_all rfl) (zAT rfl rfl zAW) rfl rfl) ?_
   rintro⟨n,ts⟩ ⟨hA,hT⟩
   dsimp only at hA hT ⊢
   match ts,hA,hT with
   |[],hA,hT =>
    have hn:=hA.none
    have hli:¬(n:Int)<(t.fl.length:Int):=by omega
    rw[twL]at hT
    rw[<-hT]
    skip
    repeat' first|apply en_n|apply zAE|apply zAA|apply zAD|apply w0|refine ayA rfl ?_|refine ayQ rfl ?_|refine zAK rfl ?_|apply zAN|apply zAz|apply en_e|apply eb_e|apply zAO|refine res1 rfl ?_
    all_goals rfl
   | .mk x ks::r,hA,hT =>
    have hn:=hA.lt
    have hli:(n:Int)<(t.fl.length:Int):=by omega
    have hx:=hA.head.here
    have hp:=zHY x.kind
    have hE:=zMS t.fl (n:Int) oM
    rw[hA.head.endF]at hE
    have hC:=zSD t.fl n _ hA.head oM
    have hov:=hA.over
    have hin:=hA.into
    rw[twL,Tr.tw]at hT
    have hszp:=zDy (.mk x ks)
    have hle:=hA.head.len
    rw[Tr.fl]at hC
    generalize Tr.sz (.mk x ks)=s at *
    cases hk:patK x.kind with
    |false =>
     rw[hk]at hp
     rw[if_neg (by rw[hk];decide)]at hT
     skip
     repeat' first|apply en_n|apply zAE|apply zAA|apply zAD|apply w0|exact ycA zEz hp|refine aJA ?_|refine ayA rfl ?_|refine ayQ rfl ?_|apply ay (hd:=rfl)|refine zBN rfl rfl ?_|refine zAJ rfl ?_|apply zAH|apply zAM|apply zAz|apply en_e|apply eb_e
     all_goals try omega
     exact⟨(n+1,ks++r),⟨hin,by rw[zLi];exact hT⟩,by simp only;omega,zAV (Le_all rfl) (zAT rfl rfl zAW) rfl rfl⟩
    |true =>
     rw[hk]at hp
     rw[if_pos hk]at hT
     cases hd:!decide (zBf (x::flL ks)).Nodup with
     |true =>
      rw[hd]at hC hT
      rw[<-hT]
      skip
      repeat' first|apply en_n|apply zAE|apply zAA|apply zAD|apply w0|exact ycA zEz hp|exact qcA [0] [0] zL4 (hC)|refine aJA ?_|refine ayA rfl ?_|refine ayQ rfl ?_|apply ay (hd:=rfl)|refine zAJ rfl ?_|refine zAK rfl ?_|apply zAH|apply zAM|apply zAN|apply en_r|apply eb_r|apply zAO|refine res1 rfl ?_
      all_goals try omega
      all_goals rfl
     |false =>
      rw[hd]at hC hT
      skip
      repeat' first|apply en_n|apply zAE|apply zAA|apply zAD|apply w0|exact ycA zEz hp|exact qcA [0] [0] zL4 (hC)|exact ycA zL7 hE|refine aJA ?_|refine ayA rfl ?_|refine ayQ rfl ?_|apply ay (hd:=rfl)|refine zBN rfl rfl ?_|refine zI1 rfl rfl ?_|refine zAJ rfl ?_|refine zAK rfl ?_|apply zAH|apply zAM|apply eb_n
      all_goals try omega
      exact⟨(n+s,r),⟨hov,by simpa using hT⟩,by simp only;omega,zAV (Le_cons rfl (Le_cons rfl (Le_d rfl (by congr 2;omega) Le_nil))) (zAT rfl rfl zAW) rfl rfl⟩
  ·rw[zR9,if_neg h2]at hK
   rw[chkT,if_neg h1,if_pos h2]
   skip
   repeat' first|apply en_n|apply zAE|apply zAA|apply zAD|apply w0|exact zDL rfl rfl|exact zCC rfl rfl|(refine zAP zHd hW (CoLA rfl))|(refine zAP zMu hD (CoLA rfl))|(refine zDa [0] [] rfl rfl zJ3 (hK) rfl (SArgs_all rfl) rfl (by decide) rfl rfl rfl rfl)|refine aBox (hd:=rfl) (hro:=rfl) rfl rfl ?_|apply ay (hd:=rfl)|exact zAC rfl|exact zAB rfl|exact zAg rfl zA5|exact zBY rfl|exact zAi rfl rfl|exact zAb rfl rfl|exact zAG rfl zAx rfl rfl|exact zQI rfl|refine w1 rfl rfl ?_|refine zAJ rfl ?_|refine zAK rfl ?_|apply zAM|apply zAN|apply en_r|apply zAO|refine res1 rfl ?_
   all_goals rfl
theorem zTv(L:List Nd)(pat:Bool)(hL:L.length<=1000000)(hw:zDA L=false): zAX prog 60 [zAu L,bl pat] (i64 60):=by
 have hW:=zKC L oM
 rw[hw]at hW
 refine zAc func60 rfl ntmps60 results60 rfl ?_
 intro wb St0
 exact ye
theorem zN3(t:Tr)(hw:t.wf)(hL:t.fl.length<=1000000): zAX prog 29 [zAu t.fl] (i64 (chkT t false)):=by
 have hc:=zTu t hw false hL
 refine zAc func29 rfl ntmps29 results29 rfl ?_
 intro wb St0
 repeat' first|apply en_n|apply zAE|apply zAA|apply zAD|apply w0|exact ycA zOU hc|refine ayA rfl ?_|apply ay (hd:=rfl)|apply zAN|apply zAO|refine res1 rfl ?_
 rfl
theorem zTx(L:List Nd)(hL:L.length<=1000000)(hw:zDA L=false): zAX prog 29 [zAu L] (i64 60):=by
 have hc:=zTv L false hL hw
 refine zAc func29 rfl ntmps29 results29 rfl ?_
 intro wb St0
 repeat' first|apply en_n|apply zAE|apply zAA|apply zAD|apply w0|exact ycA zOU hc|refine ayA rfl ?_|apply ay (hd:=rfl)|apply zAN|apply zAO|refine res1 rfl ?_
 rfl
end Go.Proofs.YtjcgiiedaccjpaaGreatDoor
namespace Go.Proofs.YtjcgiiedaccjpaaGreatDoor
open _root_.Go.Proofs.Tryz
open Go.Sx
abbrev encS: List UInt8->Value:=fun l=>.string ⟨l.toArray⟩
abbrev bagO(k:Option Nat)(S:Bag): Ob:=.mapq false k (kvs encS (mvB S))
abbrev fO(L:List Nd)(S:Bag)(F:List (List UInt8)): List Ob:=[.bx none (some 188) [.d (zAu L),.mp 1,.buf 2 (F.map str).length],bagO none S,.buf false 9 1 (F.map str)]
section
variable {P:Program}{η:List Ob}{σ:Sl}{dst:Option Nat}{ty:TypeId}{pos:String}{after:Array Edge}{gd:Option (Nat×Bool)}{t:TypeId}{x y:Operand}
theorem zJZ{id k e:Nat}{kb:Option Nat}{S:Bag}{a:List UInt8}(hx:oval σ x=.mp id)(ho:η[id]?=some (bagO kb S))(hy:oval σ y=.d (str a))(ht:zGR P t=some (k,e))(hk:P.underlying k=some .string)(hz:zKH P e=some (.val (.int .i64 0))):
  Ylds P η σ ⟨dst,.lookup t x y false,ty,pos,after,gd⟩ (.d (i64 (lkB S a:Int))):=by
 have:=zYT (dst:=dst) (ty:=ty) (pos:=pos) (after:=after) (gd:=gd) hx ho hy ht hk hz
 rw[zUW]at this;exact this
end
section
variable {C:Ctx}{ops:Array Oper}{rest:List Oper}{K:Sl->List Ob->Prop}{σ:Sl}{η:List Ob}{ty:TypeId}{pos:String}{after:Array Edge}{gd:Option (Nat×Bool)}{t:TypeId}{x y z:Operand}
theorem aUpB{id k e:Nat}{kb:Option Nat}{S:Bag}{a:List UInt8}(hx:oval σ x=.mp id)(ho:η[id]?=some (bagO kb S))(hy:oval σ y=.d (str a))(hz:oval σ z=.d (.val (.int .i64 ((lkB S a:Int)+1))))(ht:zGR C.P t=some (k,e))(hk:C.P.underlying k=some .string)(hro:Nat.ble C.ro id=true)
  (h:alex C false ops rest K σ (η.set id (bagO kb (upB S a)))):zBJ C false ops ⟨none,.mapUpdate t x y z,ty,pos,after,gd⟩ rest K σ η :=
 zPD (dv:=i64 ((lkB S a+1:Nat):Int)) hx ho hy (zAr (by rw[hz,Int.natCast_add];rfl)) ht hk hro (by rw[zUB];exact h)
theorem aDnB{id k e:Nat}{kb:Option Nat}{S:Bag}{a:List UInt8}(hx:oval σ x=.mp id)(ho:η[id]?=some (bagO kb S))(hy:oval σ y=.d (str a))(hz:oval σ z=.d (.val (.int .i64 ((lkB S a:Int)-1))))(h1:1<=lkB S a)(ht:zGR C.P t=some (k,e))(hk:C.P.underlying k=some .string)(hro:Nat.ble C.ro id=true)
  (h:alex C false ops rest K σ (η.set id (bagO kb (putB S a (lkB S a-1))))):zBJ C false ops ⟨none,.mapUpdate t x y z,ty,pos,after,gd⟩ rest K σ η :=
 zPD (dv:=i64 ((lkB S a-1:Nat):Int)) hx ho hy (zAr (by rw[hz,Int.natCast_sub h1];rfl)) ht hk hro (by rw[zUB];exact h)
theorem zdD{id k e:Nat}{kb:Option Nat}{S:Bag}{a:List UInt8}{ts:Array TypeId}(hx:oval σ x=.mp id)(ho:η[id]?=some (bagO kb S))(hy:oval σ y=.d (str a))(hts:ts[0]?=some t)(ht:zGR C.P t=some (k,e))(hk:C.P.underlying k=some .string)(hro:Nat.ble C.ro id=true)
  (h:alex C false ops rest K σ (η.set id (bagO kb (delB S a)))):zBJ C false ops ⟨none,.call ⟨.builtin .delete, #[x,y],ts⟩,ty,pos,after,gd⟩ rest K σ η :=
 zWC hx ho hy hts ht hk hro (by rw[zYw];exact h)
end
attribute [local irreducible] zAQ Program.underlying Ylds zBJ alex zBk zBZ awp zAX FCall zBo zBR zBX zBb zBD zBd zBj zBn zBu zBP VCall
theorem zKL(L:List Nd)(q r:Int)(S:Bag)(F F' ns:List (List UInt8))(hS:GoodB S)(hn:ns.length<=1000000)(hb:∀a,lkB S a<=1000000)
  (hc:zBR prog 143 [.ptr 0 0,.d (i64 q)] (fO L (upsB S ns) F) (.d (i64 r)) (fO L (upsB S ns) F')) :
  zBR prog 174 [.ptr 0 0,.d (i64 q),.d (strs ns)] (fO L S F) (.d (i64 r)) (fO L S F'):=by
 refine zCl func174 rfl ntmps174 results174 rfl rfl rfl ?_
 intro wb St0 X fx
 have hback:=zcA hS ns
 repeat' first|apply en_n|apply zAE|apply zAA|apply zAD|apply w0|refine ayA rfl ?_|apply zAH
 refine zAt (α:=Nat) (fun i=>i<=ns.length) (fun i=>[(0,.ptr 0 0),(1,.d (i64 q)),(2,.d (strs ns)),(12,.d (strs ns)),(13,.d (i64 (ns.length:Int))),(14,.d (i64 (i:Int)))])
  (fun i=>[.bx (fx 0) (some 188) [.d (zAu L),.mp 1,.buf 2 (F.map str).length],bagO (fx 1) (upsB S (ns.take i)),.buf false 9 1 (F.map str)]) (fun i=>ns.length-i) 0 (qAO _)
  (zAV (Le_cons rfl (Le_cons rfl (Le_cons rfl (Le_cons rfl (Le_d rfl rfl (Le_all rfl)))))) (zAT rfl rfl (zAT rfl rfl (zBa rfl rfl rfl zAW))) rfl rfl) ?_
 intro i hi
 rcases qAF i ns.length with hlt|hge
 ·obtain⟨v,hv⟩:∃v,ns[i]?=some v:=⟨_,qAB hlt⟩
  have hli:(i:Int)<(ns.length:Int):=by omega
  have hlk:lkB (upsB S (ns.take i)) v<=2000000:=by
   rw[zGz]
   have h1:(ns.take i).count v<=i:=qAx qBg (by rw[qAU];omega)
   have:=hb v;omega
  have hnx:=zTW (S:=S) hv
  repeat' first|apply en_n|apply zAE|apply zAA|apply zAD|apply w0|exact zJZ rfl rfl rfl zKl ustr zI8|refine aUpB rfl rfl rfl rfl zKl ustr rfl ?_|refine aJA ?_|refine ayA rfl ?_|refine ayQ rfl ?_|apply ay (hd:=rfl)|refine zBN rfl rfl ?_|(refine w0' ?_)|refine zAJ rfl ?_|apply zAH|apply zAM|apply eb_n
  all_goals try omega
  exact⟨i+1,by omega,by omega,zAV (Le_all rfl) (zAT rfl rfl (zAT rfl (by rw[hnx]) (zBa rfl rfl rfl zAW))) rfl rfl⟩
 ·have hli:¬(i:Int)<(ns.length:Int):=by omega
  have e:ns.take i=ns:=qAe hge
  rw[e]
  clear e
  repeat' first|apply en_n|apply zAE|apply zAA|apply zAD|apply w0|(refine zEt [0,1,2] zKy (hc) (SArgs_all rfl) rfl rfl dC rfl rfl rfl rfl rfl rfl ?_)|refine ayA rfl ?_|refine ayQ rfl ?_|refine zAK rfl ?_|apply zAH|apply zAz|apply en_e|apply eb_e
  refine zAt (α:=Nat) (fun i=>i<=ns.length) (fun i=>[(0,.ptr 0 0),(9,.d (i64 r)),(29,.d (strs ns)),(30,.d (i64 (ns.length:Int))),(31,.d (i64 (i:Int)))])
   (fun i=>[.bx (fx 0) (some 188) [.d (zAu L),.mp 1,.buf 2 (F'.map str).length],bagO (fx 1) (dnsB (upsB S ns) (ns.take i)),.buf false 9 1 (F'.map str)]) (fun i=>ns.length-i) 0 (qAO _)
   (zAV (Le_cons rfl (Le_cons rfl (Le_cons rfl (Le_cons rfl (Le_d rfl rfl Le_nil))))) (zAT rfl rfl (zAT rfl rfl (zBa rfl rfl rfl zAW))) rfl rfl) ?_
  intro i hi
  rcases qAF i ns.length with hlt|hge
  ·obtain⟨v,hv⟩:∃v,ns[i]?=some v:=⟨_,qAB hlt⟩
   have hli:(i:Int)<(ns.length:Int):=by omega
   obtain⟨hl1,hl2⟩:=zXH hS hv
   have hnx:=zVh (S:=upsB S ns) hv
   have hbv:=hb v
   generalize dnsB (upsB S ns) (ns.take i)=B at *
   have hp:lkB (putB B v (lkB B v-1)) v=lkB B v-1:=by rw[zPp,if_pos rfl]
   have fin:∀σ' η',Fits [(0,.ptr 0 0),(9,.d (i64 r)),(29,.d (strs ns)),(30,.d (i64 (ns.length:Int))),(31,.d (i64 ((i+1:Nat):Int)))] [.bx (fx 0) (some 188) [.d (zAu L),.mp 1,.buf 2 (F'.map str).length],bagO (fx 1) (dnsB (upsB S ns) (ns.take (i+1))),.buf false 9 1 (F'.map str)] σ' η'->
     ∃y,y<=ns.length/\ns.length-y<ns.length-i/\Fits [(0,.ptr 0 0),(9,.d (i64 r)),(29,.d (strs ns)),(30,.d (i64 (ns.length:Int))),(31,.d (i64 (y:Int)))] [.bx (fx 0) (some 188) [.d (zAu L),.mp 1,.buf 2 (F'.map str).length],bagO (fx 1) (dnsB (upsB S ns) (ns.take y)),.buf false 9 1 (F'.map str)] σ' η' :=
    fun σ' η' hf=>⟨i+1,by omega,by omega,hf⟩
   by_cases h0:lkB B v-1=0
   ·have h0':((lkB (putB B v (lkB B v-1)) v:Nat):Int)=0:=by rw[hp,h0];rfl
    rw[dnB,if_pos h0]at hnx
    exact yd
   ·have h0':¬((lkB (putB B v (lkB B v-1)) v:Nat):Int)=0:=by rw[hp];omega
    rw[dnB,if_neg h0]at hnx
    exact yd
  ·have hli:¬(i:Int)<(ns.length:Int):=by omega
   have e:ns.take i=ns:=qAe hge
   rw[e,hback]
   exact yi
end Go.Proofs.YtjcgiiedaccjpaaGreatDoor
namespace Go.Proofs.YtjcgiiedaccjpaaGreatDoor
open _root_.Go.Proofs.Tryz
open Go.Sx
mutual
theorem zG3: ∀(t:Tr) (S:Bag) (F:List (List UInt8)),(t.free S F).length<=F.length+t.sz
 | .mk x ks,S,F=>by
  rw[Tr.free,Tr.sz]
  split
  ·split
   ·rw[qAH];simp only[qAK,qAb];omega
   ·omega
  ·have:=zK3 x.kind x.text S [] ks 0 F;omega
theorem zK3(k:Int)(tx:List UInt8)(S:Bag): ∀(pv:List (List UInt8)) (ks:List Tr) (i:Nat) (F:List (List UInt8)),(zDc k tx S pv ks i F).length<=F.length+szL ks
 |_,[],_,F=>by rw[zDc];omega
 |pv,t::r,i,F=>by
  rw[zDc,szL]
  split
  ·have:=zK3 k tx S (zBf t.fl) r (i+1) F;omega
  ·have h1:=zK3 k tx S pv r (i+1) (t.free (bagK k tx pv i S) F)
   have h2:=zG3 t (bagK k tx pv i S) F
   omega
end
def zJl(L:List Nd)(m:Nat): Prop:=∀(n:Nat) (t:Tr) (S:Bag) (F:List (List UInt8)) (b:Nat),t.sz<=m->At L n t->t.werr false=0->GoodB S->(∀a,lkB S a<=b)->b+t.sz<=1000000->F.length+t.sz<=1000000->
 zBR prog 143 [.ptr 0 0,.d (i64 (n:Int))] (fO L S F) (.d (i64 ((n+t.sz:Nat):Int))) (fO L S (t.free S F))
attribute [local irreducible] zAQ Program.underlying Ylds zBJ alex zBk zBZ awp zAX FCall zBo zBR zBX zBb zBD zBd zBj zBn zBu zBP VCall
theorem zDl{x:Nd}{k1:Int}{pat:Bool}(h:zFQ x k1 pat=0): okK x.kind=true/\patK x.kind=pat/\cntK x.kind x.kids=true:=by
 unfold zFQ at h
 split at h
 ·cases h
 ·rename_i hc
  refine⟨?_,?_,?_⟩
  ·cases hq:okK x.kind with
   |true=>rfl
   |false=>exact absurd (.inl hq) hc
  ·by_cases hq:patK x.kind=pat
   ·exact hq
   ·exact absurd (.inr (.inl hq)) hc
  ·cases hq:cntK x.kind x.kids with
   |true=>rfl
   |false=>exact absurd (.inr (.inr hq)) hc
theorem zFX{x:Nd}{ks:List Tr}{pat:Bool}(h:Tr.werr (.mk x ks) pat=0): zFQ x (Tr.kind1 (.mk x ks)) pat=0/\zHp (decide (x.kind=10)) pat ks 0=0:=by
 rw[zTO]at h
 by_cases he:zFQ x (Tr.kind1 (.mk x ks)) pat=0
 ·rw[if_neg (by rw[he];decide)]at h;exact⟨he,h⟩
 ·rw[if_pos he]at h;exact absurd h he
theorem zEW{m pat:Bool}: ∀{ks:List Tr} {i j:Nat} {k:Tr},zHp m pat ks i=0->ks[j]?=some k->k.werr (pat||(m&&decide ((i+j)%2=1)))=0
 |t::r,i,0,k,h,hk=>by
  simp at hk;subst hk
  rw[zHp]at h
  by_cases he:t.werr (pat||(m&&decide (i%2=1)))=0
  ·exact he
  ·rw[if_pos he]at h;exact absurd h he
 |t::r,i,j+1,k,h,hk=>by
  rw[zHp]at h
  by_cases he:t.werr (pat||(m&&decide (i%2=1)))=0
  ·rw[if_neg (by rw[he];decide)]at h
   have:=zEW (j:=j) h (by simpa using hk)
   rw[show i+(j+1)=i+1+j by omega];exact this
  ·rw[if_pos he]at h;exact absurd h he
theorem zaO{L:List Nd}(hL:L.length<=2000000){m:Nat}(ih:zJl L m)(n:Nat)(x:Nd)(ks:List Tr)(S:Bag)(F:List (List UInt8))(b:Nat)(hk:x.kind=5)(hm:Tr.sz (.mk x ks)<=m+1)(h:At L n (.mk x ks))(hw:Tr.werr (.mk x ks) false=0)(hS:GoodB S)(hb:∀a,lkB S a<=b)(hb2:b+Tr.sz (.mk x ks)<=1000000)(hF:F.length+Tr.sz (.mk x ks)<=1000000):
  zBR prog 143 [.ptr 0 0,.d (i64 (n:Int))] (fO L S F) (.d (i64 ((n+Tr.sz (.mk x ks):Nat):Int))) (fO L S (Tr.free (.mk x ks) S F)):=by
 obtain⟨h1,h2⟩:=zFX hw
 obtain⟨h3,h4,h5⟩:=zDl h1
 have hx:=h.here
 have hkn:=h.kidn
 have hlen:=h.len
 have hsz:Tr.sz (.mk x ks)=szL ks+1:=by rw[Tr.sz]
 rw[hk]at h5
 have hl1:ks.length=1:=by
  have:x.kids=1:=by simpa[cntK]using h5
  omega
 match ks,hl1 with
 |[t],_ =>
  have hc:=ih (n+1) t (upsB S [x.text]) F (b+1) (by rw[hsz,szL,szL]at hm;omega) (by simpa[zCu]using h.kid (i:=0) rfl) (by simpa[hk]using zEW (j:=0) h2 rfl) (hS.ups _) (fun a=>by rw[zGz];have h6:([x.text]:List (List UInt8)).count a<=1:=qBg;have:=hb a;omega)
   (by rw[hsz,szL,szL]at hb2;omega) (by rw[hsz,szL,szL]at hF;omega)
  have hr:n+1+t.sz=n+Tr.sz (.mk x [t]):=by rw[hsz,szL,szL];omega
  rw[hr]at hc
  have he:Tr.free (.mk x [t]) S F=t.free (upsB S [x.text]) F:=by rw[Tr.free,if_neg (by rw[hk];decide),zDc,zDc,bagK,hk];rfl
  rw[he]
  generalize t.free (upsB S [x.text]) F=F' at *
  generalize Tr.sz (.mk x [t])=s at *
  have hwi:=zKL L ((n:Int)+1) ((n+s:Nat):Int) S F F' [x.text] hS sI (fun a=>by have:=hb a;omega) hc
  refine zCl func143 rfl ntmps143 results143 rfl rfl rfl ?_
  intro wb St0 X fx
  repeat' first|apply en_n|apply zAE|apply zAA|apply zAD|apply w0|(refine zEt [0,1,2] zKv (hwi) (SArgs_all rfl) rfl rfl dC rfl rfl rfl rfl rfl rfl ?_)|refine aJA ?_|refine aAlA ?_|refine ayA rfl ?_|refine ayQ rfl ?_|refine ayL rfl ?_|apply ay (hd:=rfl)|refine zBN rfl rfl ?_|(refine w0' ?_)|refine aStA ?_|refine zAJ rfl ?_|refine zAK rfl ?_|apply zAH|apply zAN|apply en_r|apply eb_r
  all_goals try omega
  exact zB8 (zAV (Le_all rfl) (zAT rfl rfl (zAT rfl rfl (zBa rfl rfl rfl zAW))) rfl rfl)
theorem zXh{L:List Nd}(hL:L.length<=2000000){m:Nat}(ih:zJl L m)(n:Nat)(x:Nd)(ks:List Tr)(S:Bag)(F:List (List UInt8))(b:Nat)(hk:x.kind=7\/x.kind=12)(hm:Tr.sz (.mk x ks)<=m+1)(h:At L n (.mk x ks))(hw:Tr.werr (.mk x ks) false=0)(hS:GoodB S)(hb:∀a,lkB S a<=b)(hb2:b+Tr.sz (.mk x ks)<=1000000)(hF:F.length+Tr.sz (.mk x ks)<=1000000):
  zBR prog 143 [.ptr 0 0,.d (i64 (n:Int))] (fO L S F) (.d (i64 ((n+Tr.sz (.mk x ks):Nat):Int))) (fO L S (Tr.free (.mk x ks) S F)):=by
 obtain⟨h1,h2⟩:=zFX hw
 obtain⟨h3,h4,h5⟩:=zDl h1
 have hx:=h.here
 have hkn:=h.kidn
 have hlen:=h.len
 have hsz:Tr.sz (.mk x ks)=szL ks+1:=by rw[Tr.sz]
 have hl2:ks.length=2:=by
  have:x.kids=2:=by rcases hk with hk|hk <;> (rw[hk]at h5;simpa[cntK]using h5)
  omega
 match ks,hl2 with
 |[t,u],_ =>
  rw[hsz,szL,szL,szL]at hm hb2 hF
  have hc1:=ih (n+1) t S F b oM (by simpa[zCu]using h.kid (i:=0) rfl) (by rcases hk with hk|hk <;> simpa[hk]using zEW (j:=0) h2 rfl) hS hb oM oM
  have hfl:=zG3 t S F
  have hat:At L (n+1+t.sz) u:=by
   have h6:=h.kid (i:=1) (k:=u) rfl
   rw[zDt (i:=0) (k:=t) rfl,zCu]at h6;exact h6
  have hc:=ih (n+1+t.sz) u (upsB S [x.text]) (t.free S F) (b+1) oM hat (by rcases hk with hk|hk <;> simpa[hk]using zEW (j:=1) h2 rfl) (hS.ups _) (fun a=>by rw[zGz];have h6:([x.text]:List (List UInt8)).count a<=1:=qBg;have:=hb a;omega) oM oM
  have hr:n+1+t.sz+u.sz=n+Tr.sz (.mk x [t,u]):=by rw[hsz,szL,szL,szL];omega
  rw[hr]at hc
  have he:Tr.free (.mk x [t,u]) S F=u.free (upsB S [x.text]) (t.free S F):=by
   have e0:bagK x.kind x.text [] 0 S=S:=by rw[bagK,if_neg oM,if_neg oM]
   have e1:bagK x.kind x.text [] (0+1) S=upsB S [x.text]:=by rw[bagK,if_pos oM]
   rw[Tr.free,if_neg oM,zDc,if_neg oM,zDc,if_neg oM,zDc,e0,e1]
  rw[he]
  clear he
  generalize u.free (upsB S [x.text]) (t.free S F)=F' at *
  generalize t.free S F=F1 at *
  generalize Tr.sz (.mk x [t,u])=s at *
  generalize n+1+t.sz=q at *
  have hwi:=zKL L (q:Int) ((n+s:Nat):Int) S F1 F' [x.text] hS sI (fun a=>by have:=hb a;omega) hc
  clear h1 h2 h3 h4 h5 hw h hat hfl hS ih hsz
  rcases hk with hk|hk
  all_goals
   refine zCl func143 rfl ntmps143 results143 rfl rfl rfl ?_
   intro wb St0 X fx
   repeat' first|(refine zO6 (id:=11) [.ptr 0 0,.ptr 0 0,.d (i64 ((n:Int)+1)),.top,.ptr 3 1,.d (str x.text),.d (strs [x.text])] 3 [0,1,2] kR kR rfl rfl rfl (.inr kR) ⟨.inr ⟨⟨rfl,zAU rfl⟩,rfl,rfl,.inr ⟨rfl,rfl,zAU rfl⟩⟩,⟨.inr ⟨⟨rfl,zAU rfl⟩,rfl,rfl,.inl kR⟩,⟨.inr ⟨⟨rfl,zAC rfl⟩,rfl,rfl,.inl kR⟩,⟨.inl rfl,⟨.inr ⟨⟨rfl,zAI rfl fn_1⟩,rfl,rfl,.inr ⟨rfl,rfl,zAI rfl fn_1⟩⟩,⟨.inr ⟨⟨rfl,zAG rfl zAf rfl rfl⟩,rfl,rfl,.inr ⟨rfl,rfl,zAG rfl zAf rfl rfl⟩⟩,⟨.inr ⟨⟨rfl,zCI zBL zA6 zCq rfl rfl (zAL rfl zAF) rfl⟩,rfl,rfl,.inr ⟨rfl,rfl,zCI zBL zA6 zCq rfl rfl (zAL rfl zAF) rfl⟩⟩,trivial⟩⟩⟩⟩⟩⟩⟩ zKy hc1 ⟨rfl,rfl,trivial⟩ rfl rfl dC rfl rfl rfl rfl rfl rfl ?_)|apply en_n|apply zAE|apply zAA|apply zAD|apply w0|(refine zEN kR ?_;refine zEt [0,1,2] zKv (hwi) (SArgs_all rfl) rfl rfl dC rfl rfl rfl rfl rfl rfl ?_)|refine aJA ?_|refine aAlA ?_|refine ayA rfl ?_|refine ayQ rfl ?_|apply ay (hd:=rfl)|refine zBN rfl rfl ?_|(refine w0' ?_)|refine aStA ?_|refine zAJ rfl ?_|refine zAK rfl ?_|apply zAH|apply zAM|apply zAN|apply en_r|apply eb_r
   all_goals try omega
   exact zB8 (zAV (Le_all rfl) (zAT rfl rfl (zAT rfl rfl (zBa rfl rfl rfl zAW))) rfl rfl)
theorem zXg{L:List Nd}(hL:L.length<=2000000){m:Nat}(ih:zJl L m)(n:Nat)(x:Nd)(ks:List Tr)(S:Bag)(F:List (List UInt8))(b:Nat)(hk:x.kind=8)(hm:Tr.sz (.mk x ks)<=m+1)(h:At L n (.mk x ks))(hw:Tr.werr (.mk x ks) false=0)(hS:GoodB S)(hb:∀a,lkB S a<=b)(hb2:b+Tr.sz (.mk x ks)<=1000000)(hF:F.length+Tr.sz (.mk x ks)<=1000000):
  zBR prog 143 [.ptr 0 0,.d (i64 (n:Int))] (fO L S F) (.d (i64 ((n+Tr.sz (.mk x ks):Nat):Int))) (fO L S (Tr.free (.mk x ks) S F)):=by
 obtain⟨h1,h2⟩:=zFX hw
 obtain⟨h3,h4,h5⟩:=zDl h1
 have hx:=h.here
 have hkn:=h.kidn
 have hlen:=h.len
 have hsz:Tr.sz (.mk x ks)=szL ks+1:=by rw[Tr.sz]
 have hl2:ks.length=2:=by
  have:x.kids=2:=by rw[hk]at h5;simpa[cntK]using h5
  omega
 match ks,hl2 with
 |[t,u],_ =>
  rw[hsz,szL,szL,szL]at hm hb2 hF
  have hc1:=ih (n+1) t (upsB S [x.text]) F (b+1) oM (by simpa[zCu]using h.kid (i:=0) rfl) (by simpa[hk]using zEW (j:=0) h2 rfl) (hS.ups _) (fun a=>by rw[zGz];have h6:([x.text]:List (List UInt8)).count a<=1:=qBg;have:=hb a;omega) oM oM
  have hfl:=zG3 t (upsB S [x.text]) F
  have hat:At L (n+1+t.sz) u:=by
   have h6:=h.kid (i:=1) (k:=u) rfl
   rw[zDt (i:=0) (k:=t) rfl,zCu]at h6;exact h6
  have hc:=ih (n+1+t.sz) u (upsB S [x.text]) (t.free (upsB S [x.text]) F) (b+1) oM hat (by simpa[hk]using zEW (j:=1) h2 rfl) (hS.ups _) (fun a=>by rw[zGz];have h6:([x.text]:List (List UInt8)).count a<=1:=qBg;have:=hb a;omega) oM oM
  have hr:n+1+t.sz+u.sz=n+Tr.sz (.mk x [t,u]):=by rw[hsz,szL,szL,szL];omega
  rw[hr]at hc
  have he:Tr.free (.mk x [t,u]) S F=u.free (upsB S [x.text]) (t.free (upsB S [x.text]) F):=by
   rw[Tr.free,if_neg oM,zDc,if_neg oM,zDc,if_neg oM,zDc,bagK,if_pos oM,bagK,if_pos oM]
  rw[he]
  clear he
  generalize u.free (upsB S [x.text]) (t.free (upsB S [x.text]) F)=F' at *
  generalize t.free (upsB S [x.text]) F=F1 at *
  generalize Tr.sz (.mk x [t,u])=s at *
  generalize n+1+t.sz=q at *
  rw[show ((n+1:Nat):Int)=(n:Int)+1 from rfl]at hc1
  have hw1:=zKL L ((n:Int)+1) (q:Int) S F F1 [x.text] hS sI (fun a=>by have:=hb a;omega) hc1
  have hwi:=zKL L (q:Int) ((n+s:Nat):Int) S F1 F' [x.text] hS sI (fun a=>by have:=hb a;omega) hc
  clear h1 h2 h3 h4 h5 hw h hat hfl hS ih hsz
  refine zCl func143 rfl ntmps143 results143 rfl rfl rfl ?_
  intro wb St0 X fx
  repeat' first|(refine zO6 (id:=13) [.ptr 0 0,.ptr 0 0,.d (i64 ((n:Int)+1)),.ptr 3 1,.d (str x.text),.d (strs [x.text]),.top,.ptr 3 1,.d (str x.text),.d (strs [x.text])] 6 [0,1,2] kR kR rfl rfl rfl (.inr kR) ⟨.inr ⟨⟨rfl,zAU rfl⟩,rfl,rfl,.inr ⟨rfl,rfl,zAU rfl⟩⟩,⟨.inr ⟨⟨rfl,zAU rfl⟩,rfl,rfl,.inl kR⟩,⟨.inr ⟨⟨rfl,zAC rfl⟩,rfl,rfl,.inl kR⟩,⟨.inr ⟨⟨rfl,zAI rfl fn_1⟩,rfl,rfl,.inl kR⟩,⟨.inr ⟨⟨rfl,zAG rfl zAf rfl rfl⟩,rfl,rfl,.inl kR⟩,⟨.inr ⟨⟨rfl,zCI zBL zA6 zCq rfl rfl (zAL rfl zAF) rfl⟩,rfl,rfl,.inl kR⟩,⟨.inl rfl,⟨.inr ⟨⟨rfl,zAI rfl fn_1⟩,rfl,rfl,.inr ⟨rfl,rfl,zAI rfl fn_1⟩⟩,⟨.inr ⟨⟨rfl,zAG rfl zAf rfl rfl⟩,rfl,rfl,.inr ⟨rfl,rfl,zAG rfl zAf rfl rfl⟩⟩,⟨.inr ⟨⟨rfl,zCI zBL zA6 zCq rfl rfl (zAL rfl zAF) rfl⟩,rfl,rfl,.inr ⟨rfl,rfl,zCI zBL zA6 zCq rfl rfl (zAL rfl zAF) rfl⟩⟩,trivial⟩⟩⟩⟩⟩⟩⟩⟩⟩⟩ zKv hw1 ⟨rfl,rfl,rfl,trivial⟩ rfl rfl dC rfl rfl rfl rfl rfl rfl ?_)|apply en_n|apply zAE|apply zAA|apply zAD|apply w0|(refine zEN kR ?_;refine zEt [0,1,2] zKv (hwi) (SArgs_all rfl) rfl rfl dC rfl rfl rfl rfl rfl rfl ?_)|refine aJA ?_|refine aAlA ?_|refine ayA rfl ?_|refine ayQ rfl ?_|apply ay (hd:=rfl)|refine zBN rfl rfl ?_|(refine w0' ?_)|refine aStA ?_|refine zAJ rfl ?_|refine zAK rfl ?_|apply zAH|apply zAN|apply en_r|apply eb_r
  all_goals try omega
  exact zB8 (zAV (Le_all rfl) (zAT rfl rfl (zAT rfl rfl (zBa rfl rfl rfl zAW))) rfl rfl)
theorem zVI{L:List Nd}(hL:L.length<=2000000){m:Nat}(_ih:zJl L m)(n:Nat)(x:Nd)(ks:List Tr)(S:Bag)(F:List (List UInt8))(b:Nat)(hk:x.kind=1\/x.kind=2\/x.kind=4)(hm:Tr.sz (.mk x ks)<=m+1)(h:At L n (.mk x ks))(hw:Tr.werr (.mk x ks) false=0)(_hS:GoodB S)(_hb:∀a,lkB S a<=b)(hb2:b+Tr.sz (.mk x ks)<=1000000)(hF:F.length+Tr.sz (.mk x ks)<=1000000):
  zBR prog 143 [.ptr 0 0,.d (i64 (n:Int))] (fO L S F) (.d (i64 ((n+Tr.sz (.mk x ks):Nat):Int))) (fO L S (Tr.free (.mk x ks) S F)):=by
 obtain⟨h1,h2⟩:=zFX hw
 obtain⟨h3,h4,h5⟩:=zDl h1
 have hx:=h.here
 have hkn:=h.kidn
 have hlen:=h.len
 have hsz:Tr.sz (.mk x ks)=szL ks+1:=by rw[Tr.sz]
 have hl0:ks.length=0:=by
  have:x.kids=0:=by rcases hk with hk|hk|hk <;> (rw[hk]at h5;simpa[cntK]using h5)
  omega
 match ks,hl0 with
 |[],_ =>
  rw[hsz,szL]
  have he:Tr.free (.mk x []) S F=F:=by rw[Tr.free,if_neg oM,zDc]
  rw[he]
  clear h1 h2 h3 h4 h5 hw h _hS _ih hsz hm hb2 hF he
  rcases hk with hk|hk|hk
  all_goals
   refine zCl func143 rfl ntmps143 results143 rfl rfl rfl ?_
   intro wb St0 X fx
   repeat' first|apply en_n|apply zAE|apply zAA|apply zAD|apply w0|refine aJA ?_|refine aAlA ?_|refine ayA rfl ?_|refine ayQ rfl ?_|apply ay (hd:=rfl)|refine zBN rfl rfl ?_|refine w1 rfl rfl ?_|(refine w0' ?_)|refine aStA ?_|refine zAK rfl ?_|apply zAH|apply zAM|apply zAN|apply eb_n
   all_goals try omega
   exact zB8 (zAV (Le_d rfl (by congr 2) Le_nil) (zAT rfl rfl (zAT rfl rfl (zBa rfl rfl rfl zAW))) rfl rfl)

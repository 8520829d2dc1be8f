/- Parts. -/
import Derived.Lib.SlicesCompact
import Derived.Test.YtjcgiiedaccjpaaGreatDoorMAB
import Derived.Test.YtjcgiiedaccjpaaGreatDoorMAF
import Derived.Test.YtjcgiiedaccjpaaGreatDoorMAH
import Derived.Test.YtjcgiiedaccjpaaGreatDoorMAI
set_option maxHeartbeats 16000000
namespace Go.Proofs.YtjcgiiedaccjpaaGreatDoor
open _root_.Go.Proofs.Tryz
open Go.Sx
attribute [local irreducible] zAK Program.underlying Ylds zA3 alex zBc zBL awp zAc zBd zBi zBD zBI zBS zA5 zBT zBY zBe zBs
def zMO(p:UInt8->Bool)(s:List UInt8): Bool:=allF zGZ s&&p (s.getD 0 0) && !zRI s
def zIP(t:Tk): Bool :=
 if t.pos<0 then false
 else if t.kind=1 then decide (t.num=0)&&zMO zFZ t.text
 else if t.kind=2 then decide (t.num=0)&&zMO zFa t.text
 else if t.kind=3 then decide (t.text=[])&&decide (W t.num=t.num)
 else if t.kind=4 then decide (t.num=0)&&decide (t.text.length<=200)
 else if t.kind=5 then decide (t.num=0)&&allF zF4 t.text && !zRI t.text
 else if t.kind=6 then decide (t.num=0)&&zRI t.text
 else false
theorem zPD(c:UInt8)(h:c.toNat>126): zGZ c=false:=by
 simp only[zGZ,zFZ,zFa,zHl,zUP,<-Bool.decide_or,show ((95:UInt8).toNat:Int)=95 from rfl,show ((39:UInt8).toNat:Int)=39 from rfl]
 rw[decide_eq_false_iff_not];omega
theorem zQ0(c:UInt8)(h:c.toNat>126): zF4 c=false:=by
 refine zOU fun j hj e=>?_
 subst e
 have:∀k,k<16->(signL.getD k 0).toNat<=126:=by decide
 have:=this j hj
 omega
theorem zSC{p:UInt8->Bool}{s:List UInt8}(h:allF p s=true): 0<s.length:=by
 cases s with
 |nil=>simp[allF]at h
 |cons=>simp
abbrev Tk.cells(t:Tk): List SV:=[.d (i64 t.kind),.d (str t.text),.d (i64 t.num),.d (i64 t.pos)]
theorem zK4(t:Tk)(f:FuncId)(p:UInt8->Bool)(hb:zAK prog f=true)(hp:∀c,zAc prog f [u8 c] (bl (p c))):
  zBI prog 152 [.clo f [],.ptr 0 0] [.box t.cells] (bl (zMO p t.text)):=by
 have hbf:=hb;clear hb
 refine zCt func152 rfl ntmps152 results152 rfl ?_
 intro wb St0
 repeat' first|apply en_n|apply zAE|apply zAA|apply zAD|apply w0|refine k1u (hd:=rfl) rfl rfl ?_|exact zB7 rfl|(apply zQY (hb:=hbf) (hc:=hp (t.text.getD 0 0));exact rfl)|(refine zCr [] [] rfl rfl zSZ (zSm _ zGZ zRS zRK zPD t.text) rfl (SArgs_all rfl) rfl (by decide) rfl rfl rfl rfl)|(apply zAU (hb:=zSa) (hc:=zSu t.text))|apply ay (hd:=rfl)|exact zAC rfl|exact zAB rfl|exact zBX rfl|exact zAi rfl rfl|exact zAj rfl rfl|exact zAH rfl fo_1|exact zAJ rfl zOR rfl rfl|refine w1 rfl rfl ?_|(apply g1;exact rfl;exact rfl;all_goals intro hb)|apply zAM|apply zAL|refine res1 rfl ?_|exact zAF|refine zAP rfl ?_
 ·have:=zSC hb
  exact zUG (i:=0) rfl rfl (by with_reducible exact ustr) ⟨by omega,by omega⟩
 all_goals exact zBo (by simp only[zMO, *];first|rfl|simp)
theorem zGM(t:Tk): zAc prog 109 [t.av] (bl (zIP t)):=by
 refine zAX func109 rfl ntmps109 results109 rfl ?_
 intro wb St0
 repeat' first|apply en_n|apply zAE|apply zAA|apply zAD|apply w0|refine kU (hd:=rfl) rfl rfl ?_|refine k1u (hd:=rfl) rfl rfl ?_|refine k0u (hd:=rfl) rfl rfl ?_|(apply zC1;exact rfl;with_reducible exact ustr)|exact zGJ rfl rfl|(refine zCr [0] [0] rfl rfl zKH (zK4 t _ zFZ zMY zMC) rfl (SArgs_all rfl) rfl (by decide) rfl rfl rfl rfl)|(refine zCr [0] [0] rfl rfl zKH (zK4 t _ zFa zMZ zMc) rfl (SArgs_all rfl) rfl (by decide) rfl rfl rfl rfl)|(refine zCr [] [] rfl rfl zSZ (zSm _ zF4 zTZ zTB zQ0 t.text) rfl (SArgs_all rfl) rfl (by decide) rfl rfl rfl rfl)|(apply zAU (hb:=zSa) (hc:=zSu t.text))|(refine zAU zEJ (zEE t.num) (CoLA rfl))|refine aBox (hd:=rfl) (hro:=rfl) rfl rfl ?_|apply ay (hd:=rfl)|exact zAC rfl|exact zAB rfl|exact zCs rfl rfl|exact zJg rfl rfl|exact zEA rfl rfl|exact zGm rfl rfl|exact zBX rfl|exact zAi rfl rfl|exact zAj rfl rfl|exact zB7 rfl|exact zFD rfl|(apply zAH;exact rfl;(with_reducible first|exact fo_0|exact fo_1|exact fo_2|exact fo_3))|(apply zAJ;exact rfl;(with_reducible first|exact zOR|exact zJo|exact zS8|exact zST);exact rfl;exact rfl)|exact zQa rfl|refine w1 rfl rfl ?_|(apply gD;exact rfl;exact rfl;all_goals intro hb)|(apply g1;exact rfl;exact rfl;all_goals intro hb)|(apply zAw;exact rfl;all_goals intro hb)|refine zAN rfl ?_|refine zAQ rfl ?_|apply zAI|apply zAO|apply zAM|refine zAu (by kernel_rfl) (by kernel_rfl) ?_|apply en_r|apply eb_n|apply eb_r|apply zAL|refine res1 rfl ?_|exact zAF|refine zAP rfl ?_
 all_goals exact zBo (by simp_all [zIP] <;> (rw[show decide (t.pos<0)=false from decide_eq_false (by omega),Bool.not_false,qBE,decide_eq_decide];omega))
end Go.Proofs.YtjcgiiedaccjpaaGreatDoor
namespace Go.Proofs.YtjcgiiedaccjpaaGreatDoor
open _root_.Go.Proofs.Tryz
open Go.Sx Go.RowKit
theorem zC5: zB2 prog 47=some [(0,1),(1,1),(2,1),(3,1)]:=by kernel_rfl
theorem zUg: zB2 prog 163=some [(0,1),(1,1),(2,1),(3,1)]:=by kernel_rfl
theorem zRQ: zAK prog 112=true:=by kernel_rfl
theorem zJE: zAK prog 41=true:=by kernel_rfl
theorem zPM: zAK prog 111=true:=by kernel_rfl
theorem zUs: zAK prog 74=true:=by kernel_rfl
theorem zUr: zAK prog 141=true:=by kernel_rfl
theorem zTb: zAK prog 138=true:=by kernel_rfl
def arrT: List UInt8:=[45,62]
def intT: List UInt8:=[105,110,116]
def texT: List UInt8:=[116,101,120,116]
def refT: List UInt8:=[114,101,102]
def zFv(n:Nd): Bool :=
 if n.kind=31 then decide (n.kids=0/\n.text=[]/\0<=n.num/\n.num<=1048576)
 else if n.kind≠32\/n.num≠0 then false
 else if n.text=arrT then decide (n.kids=2)
 else if n.text=intT\/n.text=texT then decide (n.kids=0)
 else if n.text=refT then decide (n.kids=1)
 else zIP ⟨2,n.text,0,0⟩&&decide (n.kids<=8)
def okT(L:List Nd): Bool:=decide (L.length<=4000)&&zDJ L&&L.all zFv
def ckT(L:List Nd): Int:=if okT L then 0 else 90
def addV(acc:List Int)(n:Nd): List Int:=if n.kind=31/\n.num∉acc then acc++[n.num]else acc
def zFR(L:List Nd): List Int:=L.foldl addV []
def zHP(L:List Nd): List Int:=if okT L then zFR L else[]
theorem ff_0: zAt prog 207 0=some 0:=by kernel_rfl
theorem ff_1: zAt prog 207 1=some 1:=by kernel_rfl
theorem ff_2: zAt prog 207 2=some 2:=by kernel_rfl
theorem ff_3: zAt prog 207 3=some 3:=by kernel_rfl
theorem ff_4: zAt prog 207 4=some 4:=by kernel_rfl
theorem fd_0: zAt prog 188 0=some 0:=by kernel_rfl
theorem fd_1: zAt prog 188 1=some 1:=by kernel_rfl
theorem fd_2: zAt prog 188 2=some 2:=by kernel_rfl
theorem zEg: zA9 prog 207=some (true,5):=by kernel_rfl
theorem zSU: zA9 prog 94=some (false,1):=by kernel_rfl
theorem zMA: zA9 prog 180=some (false,1):=by kernel_rfl
theorem zIN: zA9 prog 186=some (false,1):=by kernel_rfl
theorem zDL: zBJ prog 207=some [.bool false,.bool false,.nilFunc,.nilFunc,.bool false]:=by kernel_rfl
theorem zGW: zB2 prog 207=some [(0,1),(1,1),(2,1),(3,1),(4,1)]:=by kernel_rfl
theorem zN7: zBJ prog 188=some [.slice none 0 0,.map none,.slice none 0 0]:=by kernel_rfl
theorem zOq: zB2 prog 188=some [(0,1),(1,1),(2,1)]:=by kernel_rfl
theorem fy_s: fnTy prog 94=true:=by kernel_rfl
theorem zHd: zEM prog 186=some (9,3):=by kernel_rfl
theorem zGP: zHK prog 3=some (.val (.int .i64 0)):=by kernel_rfl
theorem zLK: zB2 prog 163=some [(0,1),(1,1),(2,1),(3,1)]:=by kernel_rfl
theorem zRP: zAK prog 39=true:=by kernel_rfl
theorem zTa: zAK prog 40=true:=by kernel_rfl
theorem zJC: zAK prog 189=true:=by kernel_rfl
theorem zRR: zAK prog 223=true:=by kernel_rfl
theorem zE4: zAK prog 168=true:=by kernel_rfl
theorem zNT: zAK prog 190=true:=by kernel_rfl
theorem zNS: zAK prog 191=true:=by kernel_rfl
theorem zDQ: zAK prog 134=true:=by kernel_rfl
theorem zRO: zAK prog 127=true:=by kernel_rfl
theorem zG9: zAK prog 125=true:=by kernel_rfl
theorem zKG: zAK prog 60=true:=by kernel_rfl
theorem zIX: zAK prog 126=true:=by kernel_rfl
theorem zIW: zAK prog 128=true:=by kernel_rfl
theorem zHo: zAK prog 130=true:=by kernel_rfl
theorem zPJ: zAK prog 133=true:=by kernel_rfl
theorem zF5: zAK prog 29=true:=by kernel_rfl
theorem zTe: zAK prog 76=true:=by kernel_rfl
theorem zHp: zAK prog 143=true:=by kernel_rfl
theorem zHn: zAK prog 174=true:=by kernel_rfl
def zNO(s:List UInt8): Bool:=zIP ⟨1,s,0,0⟩||zIP ⟨5,s,0,0⟩
def conF(s:List UInt8): Bool:=zIP ⟨2,s,0,0⟩
def patK(k:Int): Bool:=decide (21<=k/\k<=24)
def okK(k:Int): Bool:=decide ((1<=k/\k<=12)\/(21<=k/\k<=24))
def numK(k:Int): Bool:=decide (k=1\/k=23)
def namK(k:Int): Bool:=decide (k=3\/k=5\/k=7\/k=8\/k=12\/k=22)
def cntK(k n:Int): Bool :=
 if k=5\/k=11 then decide (n=1)else if k=6\/k=7\/k=8\/k=12 then decide (n=2)else if k=9 then decide (n=3)
 else if k=10 then decide (3<=n/\n%2=1)else if k=24 then true else decide (n=0)
def zE2(x:Nd)(k1:Int)(pat:Bool): Int :=
 if okK x.kind=false\/patK x.kind≠pat\/cntK x.kind x.kids=false then 61
 else if(numK x.kind=true/\W x.num≠x.num)\/(numK x.kind=false/\x.num≠0)then 61
 else if(x.kind=2/\200<x.text.length)\/(x.kind≠2/\namK x.kind=false/\x.kind≠4/\x.kind≠24/\x.text≠[])then 61
 else if x.kind=8/\k1≠5 then 61
 else if(namK x.kind=true/\zNO x.text=false)\/((x.kind=4\/x.kind=24)/\conF x.text=false)then 62
 else 0
def Tr.kind1: Tr->Int
 | .mk _ (k::_)=>k.hd.kind
 | .mk _ []=>0
mutual
def Tr.werr: Tr->Bool->Int
 | .mk x ks,pat=>if zE2 x (Tr.kind1 (.mk x ks)) pat≠0 then zE2 x (Tr.kind1 (.mk x ks)) pat else zGS (decide (x.kind=10)) pat ks 0
def zGS(m pat:Bool): List Tr->Nat->Int
 |[],_=>0
 |t::r,i=>if t.werr (pat||(m&&decide (i%2=1)))≠0 then t.werr (pat||(m&&decide (i%2=1)))else zGS m pat r (i+1)
end
def zBn(L:List Nd): List (List UInt8):=L.filterMap fun n=>if n.kind=22 then some n.text else none
mutual
def Tr.tw: Tr->Bool
 | .mk x ks=>if patK x.kind then !decide (zBn (x::flL ks)).Nodup else twL ks
def twL: List Tr->Bool
 |[]=>false
 |t::r=>t.tw||twL r
end
end Go.Proofs.YtjcgiiedaccjpaaGreatDoor
namespace Go.Proofs.YtjcgiiedaccjpaaGreatDoor
open Go.Sx
abbrev Bag:=List (List UInt8×Nat)
def lkB: Bag->List UInt8->Nat
 |[],_=>0
 |(k,v)::r,a=>if k=a then v else lkB r a
def putB: Bag->List UInt8->Nat->Bag
 |[],a,v=>[(a,v)]
 |(k,u)::r,a,v=>if k=a then(k,v)::r else(k,u)::putB r a v
def delB: Bag->List UInt8->Bag
 |[],_=>[]
 |(k,u)::r,a=>if k=a then r else(k,u)::delB r a
def zC2(S:Bag): List (List UInt8):=S.map Prod.fst
def upB(S:Bag)(a:List UInt8): Bag:=putB S a (lkB S a+1)
def dnB(S:Bag)(a:List UInt8): Bag:=if lkB S a-1=0 then delB (putB S a (lkB S a-1)) a else putB S a (lkB S a-1)
def zDs(c:List UInt8->Nat)(S:Bag): Bag:=S.map fun p=>(p.1,p.2+c p.1)
theorem zI9{a:List UInt8}: ∀{S:Bag},a∉zC2 S->lkB S a=0
 |[],_=>rfl
 |(k,v)::r,h=>by
  have h1:k≠a:=fun e=>h (by rw[e];exact qA6)
  rw[lkB,if_neg h1,zI9 fun hm=>h (qAt _ hm)]
theorem zJ3{a:List UInt8}{v:Nat}: ∀{S:Bag},a∉zC2 S->putB S a v=S++[(a,v)]
 |[],_=>rfl
 |(k,u)::r,h=>by
  have h1:k≠a:=fun e=>h (by rw[e];exact qA6)
  rw[putB,if_neg h1,zJ3 fun hm=>h (qAt _ hm)];rfl
theorem zIV(c:List UInt8->Nat)(S:Bag): zC2 (zDs c S)=zC2 S:=by
 simp[zC2,zDs,Function.comp_def]
theorem zH4{c d:List UInt8->Nat}{S:Bag}(h:∀a∈zC2 S,c a=d a): zDs c S=zDs d S :=
 qA1 fun p hp=>by rw[h p.1 (List.mem_map_of_mem hp)]
theorem zG8{c:List UInt8->Nat}{a:List UInt8}: ∀{S:Bag},a∈zC2 S->lkB (zDs c S) a=lkB S a+c a
 |(k,v)::r,h=>by
  show lkB ((k,v+c k)::zDs c r) a=_
  rw[lkB,lkB]
  by_cases e:k=a
  ·rw[if_pos e,if_pos e,e]
  ·rw[if_neg e,if_neg e,zG8]
   rcases qAs.1 h with h|h
   ·exact absurd h.symm e
   ·exact h
theorem zHa{c d:List UInt8->Nat}{a:List UInt8}{v:Nat}: ∀{S:Bag},(zC2 S).Nodup->a∈zC2 S->v=lkB S a+d a->(∀b,b≠a->c b=d b)->putB (zDs c S) a v=zDs d S
 |(k,u)::r,hn,h,hv,hc=>by
  have hn':=List.nodup_cons.1 hn
  show putB ((k,u+c k)::zDs c r) a v=(k,u+d k)::zDs d r
  rw[lkB]at hv
  rw[putB]
  by_cases e:k=a
  ·rw[if_pos e]at hv ⊢
   subst e
   rw[hv,zH4 (d:=d) fun b hb=>hc b fun e=>hn'.1 (by rw[<-e];exact hb)]
  ·rw[if_neg e]at hv ⊢
   rw[hc k e,zHa hn'.2 ?_ hv hc]
   rcases qAs.1 h with h|h
   ·exact absurd h.symm e
   ·exact h
theorem zKi{c:List UInt8->Nat}{a:List UInt8}: ∀(M:Bag) {Z:Bag},a∉zC2 M->delB (zDs c (M++Z)) a=zDs c (M++delB Z a)
 |[],Z,_=>by
  rw[qA9,qA9]
  induction Z with
  |nil=>rfl
  |cons p r ih =>
   obtain⟨k,u⟩:=p
   show delB ((k,u+c k)::zDs c r) a=_
   rw[delB,delB]
   by_cases e:k=a
   ·rw[if_pos e,if_pos e]
   ·rw[if_neg e,if_neg e,ih];rfl
 |(k,u)::M,Z,h=>by
  have h1:k≠a:=fun e=>h (by rw[e];exact qA6)
  show delB ((k,u+c k)::zDs c (M++Z)) a=(k,u+c k)::zDs c (M++delB Z a)
  rw[delB,if_neg h1,zKi M fun hm=>h (qAt _ hm)]
theorem zMw{a:List UInt8}: ∀{Z:Bag} {p:List UInt8×Nat},p∈delB Z a->p∈Z
 |(k,u)::r,p,h=>by
  rw[delB]at h
  split at h
  ·exact qAt _ h
  ·rcases qAs.1 h with h|h
   ·rw[h];exact qA6
   ·exact qAt _ (zMw h)
theorem zKg{a b:List UInt8}(hb:b≠a): ∀{Z:Bag},b∈zC2 Z->b∈zC2 (delB Z a)
 |(k,u)::r,h=>by
  rw[delB]
  split
  ·rename_i e
   rcases qAs.1 h with h|h
   ·exact absurd (h.trans e) hb
   ·exact h
  ·rcases qAs.1 h with h|h
   ·exact h▸qA6
   ·exact qAt _ (zKg hb h)
theorem zGu{a:List UInt8}: ∀{Z:Bag},(delB Z a).Sublist Z
 |[]=>List.Sublist.refl _
 |(k,u)::r=>by
  rw[delB]
  split
  ·exact List.sublist_cons_self _ _
  ·exact List.Sublist.cons_cons _ zGu
theorem zKh{a:List UInt8}: ∀{Z:Bag},(zC2 Z).Nodup->a∉zC2 (delB Z a)
 |[],_=>by simp[delB,zC2]
 |(k,u)::r,hn=>by
  have hn':=List.nodup_cons.1 hn
  rw[delB]
  split
  ·rename_i e;rw[<-e];exact hn'.1
  ·rename_i e
   intro h
   rcases qAs.1 h with h|h
   ·exact e h.symm
   ·exact zKh hn'.2 h
structure GoodB(M:Bag): Prop where
 nd:(zC2 M).Nodup
 pos:∀p∈M,0<p.2
structure Pend(M:Bag)(c:List UInt8->Nat)(S:Bag): Prop where
 ex:∃Z:Bag,S=zDs c (M++Z)/\(zC2 (M++Z)).Nodup/\(∀p∈Z,p.2=0/\0<c p.1)/\∀a,0<c a->a∈zC2 (M++Z)
theorem zLO{S:Bag}{a:List UInt8}: a∈zC2 S->(a,lkB S a)∈S:=by
 induction S with
 |nil=>intro h;cases h
 |cons p r ih =>
  obtain⟨k,v⟩:=p
  intro h
  rw[lkB]
  by_cases e:k=a
  ·rw[if_pos e,e];exact qA6
  ·rw[if_neg e]
   rcases qAs.1 h with h|h
   ·exact absurd h.symm e
   ·exact qAt _ (ih h)
theorem Pend.zero{M:Bag}(h:GoodB M): Pend M (fun _=>0) M :=
 ⟨[],by rw[qBG];simp[zDs],by rw[qBG];exact h.nd,fun p hp=>by(cases hp),fun a h=>by omega⟩
theorem Pend.done{M S:Bag}{c:List UInt8->Nat}(hc:∀a,c a=0)(h:Pend M c S): S=M:=by
 obtain⟨Z,rfl,_,h3,_⟩:=h.ex
 cases Z with
 |nil=>rw[qBG];simp[zDs,hc]
 |cons p r=>have:=(h3 p qA6).2;rw[hc]at this;omega
theorem Pend.up{M S:Bag}{c d:List UInt8->Nat}{a:List UInt8}(hd:d a=c a+1)(hdb:∀b,b≠a->c b=d b)(h:Pend M c S): Pend M d (upB S a):=by
 obtain⟨Z,rfl,h2,h3,h4⟩:=h.ex
 by_cases hm:a∈zC2 (M++Z)
 ·refine⟨Z,?_,h2,fun p hp=>⟨(h3 p hp).1,?_⟩,fun b hb=>?_⟩
  ·exact zHa h2 hm (by rw[zG8 hm];omega) hdb
  ·have:=(h3 p hp).2
   by_cases e:p.1=a
   ·rw[e,hd];omega
   ·rw[<-hdb _ e];exact this
  ·by_cases e:b=a
   ·rw[e];exact hm
   ·exact h4 b (by rw[hdb b e];exact hb)
 ·have hc0:c a=0:=Nat.eq_zero_of_not_pos fun hp=>hm (h4 a hp)
  refine⟨Z++[(a,0)],?_,?_,fun p hp=>?_,fun b hb=>?_⟩
  ·have hk:a∉zC2 (zDs c (M++Z)):=by rw[zIV];exact hm
   rw[upB,zI9 hk,zJ3 hk,zH4 (d:=d) fun b hb=>hdb b fun e=>hm (e▸hb),<-qAY]
   simp[zDs,hd,hc0]
  ·rw[<-qAY]
   unfold zC2 at h2 hm ⊢
   rw[qAh,qBZ]
   exact⟨h2,by simp,fun x hx y hy e=>hm (by simp at hy;subst hy;exact e▸hx)⟩
  ·rcases qAx.1 hp with hp|hp
   ·have:=h3 p hp
    by_cases e:p.1=a
    ·exact⟨this.1,by rw[e,hd];omega⟩
    ·exact⟨this.1,by rw[<-hdb _ e];exact this.2⟩
   ·simp at hp;subst hp
    exact⟨rfl,by show 0<d a;omega⟩
  ·unfold zC2
   rw[<-qAY,qAh]
   by_cases e:b=a
   ·exact List.mem_append_right _ (by simp[e])
   ·exact List.mem_append_left _ (h4 b (by rw[hdb b e];exact hb))
theorem Pend.dn{M S:Bag}{c d:List UInt8->Nat}{a:List UInt8}(hM:GoodB M)(hd:c a=d a+1)(hdb:∀b,b≠a->c b=d b)(h:Pend M c S): Pend M d (dnB S a):=by
 obtain⟨Z,rfl,h2,h3,h4⟩:=h.ex
 have hm:a∈zC2 (M++Z):=h4 a (by omega)
 have hl:=zG8 (c:=c) hm
 have hput:putB (zDs c (M++Z)) a (lkB (zDs c (M++Z)) a-1)=zDs d (M++Z):=zHa h2 hm (by rw[hl];omega) hdb
 have hmem:=zLO hm
 unfold dnB
 rw[hput]
 by_cases h0:lkB (zDs c (M++Z)) a-1=0
 ·rw[if_pos h0]
  have hz:lkB (M++Z) a=0:=by omega
  have hd0:d a=0:=by omega
  rw[hz]at hmem
  have haM:a∉zC2 M:=fun hk=>by
   have h5:=zLO hk
   have h6:lkB (M++Z) a=lkB M a:=by
    have:∀(A B:Bag),a∈zC2 A->lkB (A++B) a=lkB A a:=by
     intro A B
     induction A with
     |nil=>intro h;cases h
     |cons p r ih =>
      obtain⟨k,v⟩:=p
      intro h
      rw[qBB,lkB,lkB]
      by_cases e:k=a
      ·rw[if_pos e,if_pos e]
      ·rw[if_neg e,if_neg e,ih]
       rcases qAs.1 h with h|h
       ·exact absurd h.symm e
       ·exact h
    exact this M Z hk
   have:=hM.pos _ h5
   simp only at this;omega
  have hn2:=h2
  unfold zC2 at hn2
  rw[qAh,qBZ]at hn2
  refine⟨delB Z a,zKi M haM,?_,fun p hp=>?_,fun b hb=>?_⟩
  ·exact h2.sublist ((List.Sublist.append (List.Sublist.refl M) zGu).map _)
  ·have h5:=h3 p (zMw hp)
   have h6:p.1≠a:=fun e=>zKh (a:=a) hn2.2.1 (by have h7:=List.mem_map_of_mem (f:=Prod.fst) hp;rw[e]at h7;exact h7)
   exact⟨h5.1,by rw[<-hdb _ h6];exact h5.2⟩
  ·have hba:b≠a:=fun e=>by rw[e,hd0]at hb;omega
   have h5:=h4 b (by rw[hdb b hba];exact hb)
   unfold zC2 at h5 ⊢
   rw[qAh]at h5 ⊢
   rcases qAx.1 h5 with h5|h5
   ·exact List.mem_append_left _ h5
   ·exact List.mem_append_right _ (zKg hba h5)
 ·rw[if_neg h0]
  refine⟨Z,rfl,h2,fun p hp=>⟨(h3 p hp).1,?_⟩,fun b hb=>?_⟩
  ·by_cases e:p.1=a
   ·have h5:lkB (M++Z) a=0:=by
     have hn2:=h2
     unfold zC2 at hn2
     rw[qAh,qBZ]at hn2
     have haM:a∉zC2 M:=fun hk=>hn2.2.2 a hk a (e▸List.mem_map_of_mem hp) rfl
     rcases qAx.1 hmem with h6|h6
     ·exact absurd (List.mem_map_of_mem (f:=Prod.fst) h6) haM
     ·exact(h3 _ h6).1
    rw[e];omega
   ·rw[<-hdb _ e];exact(h3 p hp).2
  ·by_cases e:b=a
   ·rw[e];exact hm
   ·exact h4 b (by rw[hdb b e];exact hb)
def upsB(S:Bag)(ns:List (List UInt8)): Bag:=ns.foldl upB S
def dnsB(S:Bag)(ns:List (List UInt8)): Bag:=ns.foldl dnB S
theorem Pend.ups{M:Bag}: ∀{ns:List (List UInt8)} {S:Bag} {c:List UInt8->Nat},Pend M c S->Pend M (fun a=>c a+ns.count a) (upsB S ns)
 |[],S,c,h=>by simpa[upsB]using h
 |n::ns,S,c,h=>by
  have h1:=(h.up (a:=n) (d:=fun b=>if b=n then c b+1 else c b) (by simp) (fun b hb=>by simp[hb])).ups (ns:=ns)
  have e:(fun a=>(if a=n then c a+1 else c a)+ns.count a)=fun a=>c a+(n::ns).count a:=by
   funext a
   rw[List.count_cons]
   by_cases ha:a=n
   ·subst ha;simp;omega
   ·have:¬n=a:=fun e=>ha e.symm
    simp[ha,this]
  rw[e]at h1
  exact h1
theorem Pend.dns{M:Bag}(hM:GoodB M): ∀{ns:List (List UInt8)} {S:Bag},Pend M (fun a=>ns.count a) S->dnsB S ns=M
 |[],S,h=>h.done fun a=>by simp
 |n::ns,S,h=>by
  have h1:Pend M (fun a=>ns.count a) (dnB S n):=h.dn hM (by simp) fun b hb=>by
   have:¬n=b:=fun e=>hb e.symm
   simp[this]
  exact Pend.dns hM (ns:=ns) h1
theorem zVD{M:Bag}(hM:GoodB M)(ns:List (List UInt8)): dnsB (upsB M ns) ns=M:=by
 refine Pend.dns hM ?_
 have:=(Pend.zero hM).ups (ns:=ns)
 simpa using this
theorem GoodB.up{M:Bag}(h:GoodB M)(a:List UInt8): GoodB (upB M a):=by
 obtain⟨Z,e,h2,h3,_⟩:=((Pend.zero h).up (a:=a) (d:=fun b=>if b=a then 1 else 0) (by simp) (fun b hb=>by simp[hb])).ex
 rw[e]
 refine⟨by rw[zIV];exact h2,fun p hp=>?_⟩
 obtain⟨q,hq,rfl⟩:=qAu.1 hp
 rcases qAx.1 hq with hq|hq
 ·have:=h.pos q hq;simp only;omega
 ·have:=(h3 q hq).2;simp only;omega
theorem GoodB.ups{M:Bag}(h:GoodB M): ∀(ns:List (List UInt8)),GoodB (upsB M ns):=fun ns=>by
 induction ns generalizing M with
 |nil=>exact h
 |cons n ns ih=>exact ih (h.up n)
theorem GoodB.nil: GoodB []:=⟨List.nodup_nil,fun p hp=>by(cases hp)⟩
theorem zOM{S:Bag}{ns:List (List UInt8)}{i:Nat}{v:List UInt8}(h:ns[i]?=some v): upsB S (ns.take (i+1))=upB (upsB S (ns.take i)) v:=by
 unfold upsB
 rw[qA3,h,List.foldl_append];rfl
theorem zP4{S:Bag}{ns:List (List UInt8)}{i:Nat}{v:List UInt8}(h:ns[i]?=some v): dnsB S (ns.take (i+1))=dnB (dnsB S (ns.take i)) v:=by
 unfold dnsB
 rw[qA3,h,List.foldl_append];rfl
theorem zLN{a b:List UInt8}{v:Nat}: ∀{S:Bag},lkB (putB S a v) b=if b=a then v else lkB S b
 |[]=>by
  rw[putB,lkB,lkB]
  by_cases e:b=a
  ·rw[if_pos e,if_pos e.symm]
  ·rw[if_neg e,if_neg fun h=>e h.symm,lkB]
 |(k,u)::r=>by
  rw[putB]
  by_cases e:k=a
  ·rw[if_pos e,lkB,lkB]
   by_cases e2:k=b
   ·rw[if_pos e2,if_pos (e2▸e)]
   ·rw[if_neg e2,if_neg (fun h=>e2 (e.trans h.symm)),if_neg e2]
  ·rw[if_neg e,lkB,lkB]
   by_cases e2:k=b
   ·rw[if_pos e2,if_neg (fun h=>e (e2.trans h)),if_pos e2]
   ·rw[if_neg e2,if_neg e2,zLN]
theorem zFY{b:List UInt8}: ∀{ns:List (List UInt8)} {S:Bag},lkB (upsB S ns) b=lkB S b+ns.count b
 |[],S=>by simp[upsB]
 |n::ns,S=>by
  show lkB (upsB (upB S n) ns) b=_
  rw[zFY,upB,zLN,List.count_cons]
  by_cases e:b=n
  ·subst e;simp;omega
  ·have:¬n=b:=fun h=>e h.symm
   simp[e,this]
theorem zO8{a:List UInt8}{B:Bag}: ∀{A:Bag},a∈zC2 A->lkB (A++B) a=lkB A a
 |(k,v)::r,h=>by
  rw[qBB,lkB,lkB]
  by_cases e:k=a
  ·rw[if_pos e,if_pos e]
  ·rw[if_neg e,if_neg e,zO8]
   rcases qAs.1 h with h|h
   ·exact absurd h.symm e
   ·exact h
theorem Pend.lk{M S:Bag}{c:List UInt8->Nat}{a:List UInt8}(h:Pend M c S)(hc:0<c a): lkB S a=lkB M a+c a:=by
 obtain⟨Z,rfl,h2,h3,h4⟩:=h.ex
 have hm:=h4 a hc
 rw[zG8 hm]
 by_cases hM:a∈zC2 M
 ·rw[zO8 hM]
 ·have h5:=zLO hm
  rcases qAx.1 h5 with h6|h6
  ·exact absurd (List.mem_map_of_mem (f:=Prod.fst) h6) hM
  ·have h7:lkB (M++Z) a=0:=(h3 _ h6).1
   rw[zI9 hM,h7]
theorem Pend.dnsd{M:Bag}(hM:GoodB M): ∀{ns ms:List (List UInt8)} {S:Bag},Pend M (fun a=>(ns++ms).count a) S->Pend M (fun a=>ms.count a) (dnsB S ns)
 |[],ms,S,h=>h
 |n::ns,ms,S,h=>by
  have h1:Pend M (fun a=>(ns++ms).count a) (dnB S n):=h.dn hM (by simp) fun b hb=>by
   have:¬n=b:=fun e=>hb e.symm
   simp[this]
  exact Pend.dnsd hM (ns:=ns) h1
theorem zRG{M:Bag}(hM:GoodB M){ns:List (List UInt8)}{i:Nat}{v:List UInt8}(h:ns[i]?=some v): 1<=lkB (dnsB (upsB M ns) (ns.take i)) v/\lkB (dnsB (upsB M ns) (ns.take i)) v<=lkB M v+ns.length:=by
 have h1:Pend M (fun a=>(ns.take i++ns.drop i).count a) (upsB M ns):=by
  have:=(Pend.zero hM).ups (ns:=ns)
  simpa using this
 have h2:=Pend.dnsd hM h1
 have hp:0<(ns.drop i).count v:=by
  refine List.count_pos_iff.2 ?_
  exact qAE (i:=0) (by rw[qAz];exact h)
 have h3:=h2.lk hp
 have h4:(ns.drop i).count v<=ns.length:=qAi qBO (by rw[qAl];omega)
 omega
def mvB(S:Bag): List (List UInt8×D):=S.map fun p=>(p.1,i64 (p.2:Int))
theorem zO7(a:List UInt8): ∀S:Bag,(zC6 (mvB S) a).getD (.val (.int .i64 0))=i64 (lkB S a:Int)
 |[]=>rfl
 |(k,v)::r=>by
  show (zC6 ((k,i64 (v:Int))::mvB r) a).getD _=_
  unfold zC6 lkB
  split
  ·rfl
  ·exact zO7 a r
theorem zOm(a:List UInt8)(v:Nat): ∀S:Bag,putK (mvB S) a (i64 (v:Int))=mvB (putB S a v)
 |[]=>rfl
 |(k,u)::r=>by
  show putK ((k,i64 (u:Int))::mvB r) a _=_
  unfold putK putB
  split
  ·rfl
  ·show _::_=_::_
   congr 1;exact zOm a v r
theorem zSh(a:List UInt8): ∀S:Bag,delK (mvB S) a=mvB (delB S a)
 |[]=>rfl
 |(k,u)::r=>by
  show delK ((k,i64 (u:Int))::mvB r) a=_
  unfold delK delB
  split
  ·rfl
  ·show _::_=_::_
   congr 1;exact zSh a r
def bagK(k:Int)(tx:List UInt8)(pv:List (List UInt8))(i:Nat)(S:Bag): Bag :=
 if k=5\/k=8\/((k=7\/k=12)/\i=1)then upsB S [tx]else if k=10/\0<i then upsB S pv else S
mutual
def Tr.free: Tr->Bag->List (List UInt8)->List (List UInt8)
 | .mk x ks,S,F=>if x.kind=3 then(if lkB S x.text=0/\x.text∉F then F++[x.text]else F)else zCZ x.kind x.text S [] ks 0 F
def zCZ(k:Int)(tx:List UInt8)(S:Bag): List (List UInt8)->List Tr->Nat->List (List UInt8)->List (List UInt8)
 |_,[],_,F=>F
 |pv,t::r,i,F=>if k=10/\i%2=1 then zCZ k tx S (zBn t.fl) r (i+1) F else zCZ k tx S pv r (i+1) (t.free (bagK k tx pv i S) F)
end
open _root_.Go.Proofs.Tryz
open Go.Shelf Go.RowKit Go.Lib Go.Sort
theorem zOT(p:Option Addr)(cap:Nat)(w:World):
  Calls prog 131 #[.slice p 0 cap] w fun e w'=>e=.returned (.tuple #[])/\w'=w:=Any.slices_Sort_string_none Tryz.lays190 p cap w
theorem zKk(a:Option Addr)(cap:Nat)(w:World): Calls prog 132 #[.slice a 0 cap] w fun e w'=>e=.returned (.slice a 0 cap)/\w'=w:=Any.slices_Compact_string_empty Tryz.lays194 a cap w
def srtT(L:List (List UInt8)): List (List UInt8):=L.mergeSort fun x y=>decide (x<=y)
theorem zFt(L:List (List UInt8)): (srtT L).Perm L:=List.mergeSort_perm _ _
theorem zLE(L:List (List UInt8)): (srtT L).Pairwise fun x y=>x<=y:=by
 have:=List.pairwise_mergeSort (le:=fun x y:List UInt8=>decide (x<=y)) (fun a b c h1 h2=>by simp at *;exact List.le_trans h1 h2) (fun a b=>by simp;exact List.le_total a b) L
 exact this.imp fun h=>by simpa using h
theorem zH2(zs:List (List UInt8)): (Lib.compact zs).length=((List.range zs.length).filter (keeps zs.toArray)).length:=by
 rw[Lib.compact,compactUpTo,qAK]
theorem zIq(zs:List (List UInt8)): (Lib.compact zs).length<=zs.length:=by
 rw[zH2]
 have:=qBS (keeps zs.toArray) (List.range zs.length)
 rwa [qA2]at this
theorem zLj{zs:List (List UInt8)}(hs:zs.Pairwise fun x y=>x<=y): (Lib.compact zs).length<zs.length↔¬zs.Nodup:=by
 have hk:(Lib.compact zs).length=zs.length↔∀j,j<zs.length->keeps zs.toArray j=true:=by
  rw[zH2]
  conv=>lhs;rhs;rw[<-qA2 (n:=zs.length)]
  rw[List.length_filter_eq_length_iff]
  simp only[qBL]
 have hle:=zIq zs
 have hget:∀j (hj:j<zs.length),zs.toArray[j]! = zs[j]:=fun j hj=>by rw[getElem!_pos _ _ (by simpa using hj)];simp
 have hn:zs.Nodup↔∀j,j<zs.length->keeps zs.toArray j=true:=by
  rw[List.Nodup,List.pairwise_iff_getElem]
  rw[List.pairwise_iff_getElem]at hs
  constructor
  ·intro h j hj
   by_cases h0:j=0
   ·subst h0;exact keeps_lt_one _ 0 (by omega)
   ·refine keeps_pos ?_
    rw[hget j hj,hget (j-1) (by omega)]
    exact fun e=>h (j-1) j (by omega) hj (by omega) e.symm
  ·intro h i j hi hj hij e
   have h1:=h j hj
   simp only[keeps,decide_eq_true_eq]at h1
   rcases h1 with h1|h1
   ·omega
   ·rw[hget j hj,hget (j-1) (by omega)]at h1
    apply h1
    rcases qAI i (j-1)with h2|h2
    ·have a1:=hs i (j-1) hi (by omega) h2
     have a2:=hs (j-1) j (by omega) hj (by omega)
     rw[e]at a1
     exact List.le_antisymm a1 a2 |>.symm▸rfl
    ·have:i=j-1:=by omega
     subst this;exact e.symm
 rw[hn,<-hk];omega
theorem putW_row{w:World}{b n:Nat}{d:Array (List UInt8)}{os:Array Obj}{us:Array Value}{e:TypeId}(hb:w.heap[b]?=some (.cells us e (0,0))):
  (grow (putRow encStr (Sort.ahead w n) b 0 d) os).heap[b]?=some (.cells (putCells encStr 0 d us) e (0,0)):=by
 have hlt:b<w.heap.size:=(qAg.1 hb).1
 simp only[grow,putRow,mapBlock,Sort.ahead]
 rw[qAf (by simpa using hlt),Array.getElem?_modify,if_pos rfl,hb]
 rfl
theorem zNL{w:World}{b n k:Nat}{d:Array (List UInt8)}{os:Array Obj}(hk:k<w.heap.size)(hne:k≠b):
  (grow (putRow encStr (Sort.ahead w n) b 0 d) os).heap[k]?=w.heap[k]?:=by
 simp only[grow,putRow,mapBlock,Sort.ahead]
 rw[qAf (by simpa using hk),Array.getElem?_modify,if_neg (fun h=>hne h.symm)]
theorem zJ2{w:World}{b n:Nat}{d:Array (List UInt8)}{os:Array Obj}: w.heap.size<=(grow (putRow encStr (Sort.ahead w n) b 0 d) os).heap.size:=by
 simp only[grow,putRow,mapBlock,Sort.ahead,Array.size_append,Array.size_modify]
 omega
theorem zKR(L:List (List UInt8)): zCI (L.map str)=L.map str:=by
 induction L with
 |nil=>rfl
 |cons x L ih=>show str x::zCI (L.map str)=_;rw[ih];rfl
theorem putS{g:Gh}{w:World}{id b e n:Nat}{L L':List (List UInt8)}{os:Array Obj}(hl:L'.length=L.length)(hi:ObOk g w id (.buf true e 1 (L.map str)))(hb:g.blk id=some b):
  (∀k,k<w.heap.size->g.blk id≠some k->(grow (putRow encStr (Sort.ahead w n) b 0 L'.toArray) os).heap[k]?=w.heap[k]?)/\ObOk g (grow (putRow encStr (Sort.ahead w n) b 0 L'.toArray) os) id (.buf true e 1 (L'.map str)):=by
 obtain⟨o1,o2,o3,o4,o5⟩:=hi
 have hoth:∀k,k<w.heap.size->k≠b->(grow (putRow encStr (Sort.ahead w n) b 0 L'.toArray) os).heap[k]?=w.heap[k]?:=fun k hk hne=>zNL hk hne
 refine⟨fun k hk hne=>hoth k hk fun e=>hne (by rw[hb,e]),?_⟩
 rcases o5 with⟨o5,_⟩|⟨b',us,hb',hw,hus,h1,h2,h3⟩
 ·rw[hb]at o5;cases o5
 ·rw[hb]at hb';injection hb' with hb';subst hb'
  rw[qAK]at o4 h1 h3
  have hin:∀t,t<L'.length->(putCells encStr 0 L'.toArray us)[t]?=some (encStr (L'.toArray[t]!)):=fun t ht=>by
   simp only[putCells,Array.getElem?_mapIdx,qAL (show t<us.size by omega),qAy]
   rw[if_pos ⟨qAR _,by simpa using ht⟩];simp
  refine⟨o1,fun x hx=>by obtain⟨v,_,rfl⟩:=qAu.1 hx;rfl,o3,by rw[qAK,hl];exact o4,.inr ⟨b,_,hb,putW_row hw,by simp[putCells,hus],fun j u hj hu=>?_,fun j u dd hu hdd=>?_,fun o=>?_⟩⟩
  ·rw[qAK]at hj
   rw[hin j (by omega)]at hu;injection hu with hu;subst hu;rfl
  ·rw[zKR,qAG]at hdd
   cases hq:L'[j]? with
   |none=>rw[hq]at hdd;cases hdd
   |some s =>
    rw[hq]at hdd;injection hdd with hdd;subst hdd
    have hj:=(qAA.1 hq).1
    rw[hin j hj]at hu;injection hu with hu;subst hu
    have:L'.toArray[j]! = s:=by rw[getElem!_pos _ _ (by simpa using hj)];simpa using(qAA.1 hq).2
    rw[this];exact .val _
  ·rw[qAK,hl];exact h3 o
theorem rowS{g:Gh}{w:World}{id b e:Nat}{L:List (List UInt8)}(hi:ObOk g w id (.buf true e 1 (L.map str)))(hb:g.blk id=some b): Holds encStr w b 0 L.toArray/\b<w.heap.size/\L.length<=g.cap id:=by
 obtain⟨o1,o2,o3,o4,o5⟩:=hi
 rcases o5 with⟨o5,_⟩|⟨b',us,hb',hw,hus,h1,h2,h3⟩
 ·rw[hb]at o5;cases o5
 ·rw[hb]at hb';injection hb' with hb';subst hb'
  rw[qAK]at o4 h1
  refine⟨fun j hj=>?_,(qAg.1 hw).1,o4⟩
  have hj':j<L.length:=by simpa using hj
  have hu:us[j]?=some (us[j]'(by omega)):=qAL _
  have hL:L[j]?=some L[j]:=qAB hj'
  have r:=h2 j _ (str L[j]) hu (by rw[zKR,qAG,hL];rfl)
  have hv:=RepD.val_eq r
  constructor
  ·simp only[World.cell?,hw,Option.isSome_none,qBU,if_false,qAU]
   rw[getElem!_pos _ _ (by simpa using hj')]
   rw[hu,hv];simp
  ·simp[World.frozen?,hw]
theorem zLF(g:Gh)(w:World)(id e:Nat)(L:List (List UInt8))(hbd:L.length<=2000000)(hi:ObOk g w id (.buf true e 1 (L.map str)))(_hstb:∀b o,g.St b o->b<w.heap.size):
  Calls prog 131 #[.slice ((g.blk id).map (⟨·,0,none⟩)) L.length (g.cap id)] w fun e' w' =>
   e' = .returned (.tuple #[])/\w'.os=w.os/\w'.tape=w.tape/\w'.output=w.output/\w.heap.size<=w'.heap.size/\(∀k,k<w.heap.size->g.blk id≠some k->w'.heap[k]?=w.heap[k]?)/\ObOk g w' id (.buf true e 1 ((srtT L).map str)):=by
 cases hb:g.blk id with
 |none =>
  have hL:L=[]:=by
   obtain⟨o1,o2,o3,o4,o5⟩:=hi
   rcases o5 with⟨_,o5⟩|⟨b',us,hb',_⟩
   ·rw[qAK]at o4;exact qAm (by omega)
   ·rw[hb]at hb';cases hb'
  subst hL
  refine(zOT none (g.cap id) w).mono ?_
  rintro e' w' ⟨rfl,rfl⟩
  exact⟨rfl,rfl,rfl,rfl,qAM _,fun _ _ _=>rfl,by rw[show srtT []=[] by simp[srtT]];exact hi⟩
 |some b =>
  obtain⟨hH,hlt,_⟩:=rowS hi hb
  refine(Tryz.slices_Sort_string b 0 (g.cap id) L w hH hlt (by omega)).mono ?_
  rintro e' w' ⟨rfl,n,os,rfl⟩
  obtain⟨h1,h2⟩:=putS (L':=srtT L) (n:=n) (os:=os) ((zFt L).length_eq) hi hb
  rw[hb]at h1
  exact⟨rfl,rfl,rfl,rfl,zJ2,h1,h2⟩
theorem zII(g:Gh)(w:World)(id e b:Nat)(L:List (List UInt8))(hbd:L.length<=2000000)(hi:ObOk g w id (.buf true e 1 (L.map str)))(hb:g.blk id=some b)(_hstb:∀b o,g.St b o->b<w.heap.size):
  Calls prog 132 #[.slice ((g.blk id).map (⟨·,0,none⟩)) L.length (g.cap id)] w fun e' w' =>
   e' = .returned (.slice ((g.blk id).map (⟨·,0,none⟩)) (Lib.compact L).length (g.cap id))/\w'.os=w.os/\w'.tape=w.tape/\w'.output=w.output/\w.heap.size<=w'.heap.size/\(∀k,k<w.heap.size->g.blk id≠some k->w'.heap[k]?=w.heap[k]?)/\ObOk g w' id (.buf true e 1 ((Lib.compact L++List.replicate (L.length-(Lib.compact L).length) []).map str)):=by
 obtain⟨hH,hlt,hc⟩:=rowS hi hb
 have hle:=zIq L
 rw[hb]
 refine(Tryz.slices_Compact_string b 0 (g.cap id) L w hH (by omega) hc).mono ?_
 rintro e' w' ⟨rfl,n,rfl⟩
 have hg:∀w:World,grow w #[]=w:=fun w=>by simp[grow]
 obtain⟨h1,h2⟩:=putS (L':=Lib.compact L++List.replicate (L.length-(Lib.compact L).length) []) (n:=n) (os:=#[]) (by simp;omega) hi hb
 rw[hg]at h1 h2
 rw[hb]at h1
 have hs:=zJ2 (w:=w) (b:=b) (n:=n) (d:=(Lib.compact L++List.replicate (L.length-(Lib.compact L).length) []).toArray) (os:=#[])
 rw[hg]at hs
 exact⟨rfl,rfl,rfl,rfl,hs,h1,h2⟩

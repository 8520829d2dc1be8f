/- Parts. -/
import Derived.OpenShut
import Derived.LaidMore
import Derived.Lay
import Derived.Stop.Joined
import Derived.Stop.LaidErr
import Derived.Shelf.Vars
import Derived.Lib.LaidTab
import Derived.Test.YtjcgiiedaccjpaaGreatDoorPAJ
set_option maxHeartbeats 16000000
namespace Go.Proofs.YtjcgiiedaccjpaaGreatDoor
open _root_.Go.Proofs.Tryz
open Go.Sx
attribute [local irreducible] zAQ Program.underlying Ylds zBJ alex zBk zBZ awp zAX FCall zBo zBR zBX zBb zBD zBd zBj zBn zBu zBP
theorem zWo(n:Nd): zAX prog 112 [n.av] (bl (zCU n)):=by
 refine zAc func112 rfl ntmps112 results112 rfl ?_
 intro wb St0
 repeat' first|apply en_n|apply zAE|apply zAA|apply zAD|apply w0|refine k1u (hd:=rfl) rfl rfl ?_|refine k0u (hd:=rfl) rfl rfl ?_|exact zHt rfl rfl|exact zAo zGa zEq (PD_d rfl rfl (PD_d rfl rfl zBE)) rfl|exact ycA zIl (zI4 ⟨2,n.text,0,0⟩)|refine aBoA ?_|refine ayA rfl ?_|apply ay (hd:=rfl)|exact zI3 rfl rfl|exact zFU rfl rfl|exact zDz rfl rfl|exact zEp rfl rfl|refine w1 rfl rfl ?_|(apply gD;exact rfl;exact rfl;all_goals intro hb)|(apply g1;exact rfl;exact rfl;all_goals intro hb)|(apply zA3;exact rfl;all_goals intro hb)|refine zAJ rfl ?_|apply zAH|apply zAM|apply zAN|apply en_r|apply eb_n|apply eb_r|apply zAO|refine res1 rfl ?_
 all_goals refine zCX ?_
 all_goals first
  |(simp only[zCU,arrT,intT,texT,refT, *,if_true,if_false,ne_eq,not_true,not_false_iff,or_true,true_or,or_false,false_or,true_and,false_and,and_false,decide_false,decide_true,reduceCtorEq,not_not];done)
  |(simp_all [zCU,arrT,intT,texT,refT];done)
  |(simp_all [zCU];omega)
theorem zWS(n:Nd): zAX prog 111 [n.av] (bl (!zCU n)):=by
 refine zAc func111 rfl ntmps111 results111 rfl ?_
 intro wb St0
 repeat' first|apply en_n|apply zAE|apply zAA|apply zAD|apply w0|exact ycA zXP (zWo n)|refine aBoA ?_|refine ayA rfl ?_|apply ay (hd:=rfl)|apply zAN|apply zAO|refine res1 rfl ?_
 rfl
def idxP{α:Type}(p:α->Bool)(L:List α): Int:=match L.findIdx? p with
 |some i=>i
 |none=>-1
theorem zGE{α:Type}{p:α->Bool}{L:List α}{i:Nat}{v:α}(h:∀(j:Nat) u,j<i->L[j]?=some u->p u=false)(hi:L[i]?=some v)(hv:p v=true): idxP p L=i:=by
 have:L.findIdx? p=some i:=by
  rw[qA2]
  obtain⟨h1,h2⟩:=qAA.1 hi
  refine⟨h1,by rw[h2];exact hv,fun j hj=>?_⟩
  rw[h j _ hj (qAB oM)];simp
 rw[idxP,this]
theorem zD3{α:Type}{p:α->Bool}{L:List α}(h:∀(j:Nat) u,L[j]?=some u->p u=false): idxP p L = -1:=by
 have:L.findIdx? p=none:=by
  rw[qBB]
  intro x hx
  obtain⟨j,hj⟩:=qBA.1 hx
  exact h j x hj
 rw[idxP,this]
theorem zcY(f:FuncId)(p:Nd->Bool)(hbf:zAQ prog f=true)(hp:∀n,zAX prog f [n.av] (bl (p n)))(L:List Nd)(hL:L.length<=2000000):
  zBX prog 141 [.d (zAu L),.clo f []] [] (i64 (idxP p L)):=by
 refine zDS func141 rfl ntmps141 results141 rfl ?_
 intro wb St0
 repeat' first|apply en_n|apply zAE|apply zAA|apply zAD|apply w0|refine ayA rfl ?_|apply zAH
 refine zAt (α:=Nat) (fun i=>i<=L.length/\∀j u,j<i->L[j]?=some u->p u=false) (fun i=>[(0,.d (zAu L)),(1,.clo f []),(7,.d (i64 (L.length:Int))),(8,.d (i64 (i:Int)))]) (fun _=>[]) (fun i=>L.length-i) 0 ⟨qAO _,fun j u h=>by omega⟩
  (zAV (Le_cons rfl (Le_cons rfl (Le_d rfl rfl (Le_all rfl)))) zAW rfl rfl) ?_
 rintro i ⟨hi1,hi2⟩
 repeat' first|apply en_n|apply zAE|apply zAA|apply zAD|apply w0|(apply zWG (hb:=hbf) (hc:=hp _);exact rfl)|(apply aI (hd:=rfl);(first|exact zAr rfl|exact Co_bb rfl rfl rfl|exact Co_nn rfl);exact rfl;(with_reducible exact zAe);exact fun _=>rfl;rotate_left;intro v hv;rotate_right)|refine ayA rfl ?_|apply ay (hd:=rfl)|exact zCt rfl rfl|refine zBN rfl rfl ?_|(apply zA3;exact rfl;all_goals intro hb)|(apply zCd;exact rfl;all_goals intro hb)|apply zAH|apply zAM|apply zAN|apply zAz|apply en_r|apply en_e|apply eb_n|apply eb_r|apply eb_e|apply zAO|refine res1 rfl ?_|exact zAF|refine zAL rfl ?_
 ·omega
 ·exact zCm (zGE hi2 hv hb).symm
 ·omega
 ·refine⟨i+1,⟨by omega,fun j u hj hu=>?_⟩,by omega,zAV (Le_all rfl) zAW rfl rfl⟩
  rcases qAF j i with h1|h1
  ·exact hi2 j u h1 hu
  ·have hv':L[i]?=some v:=hv
   rw[show j=i by omega,hv']at hu;injection hu with hu;subst hu;exact hb
 ·exact zCm (zD3 fun j u hu=>hi2 j u (by have:=(qAA.1 hu).1;omega) hu).symm
theorem zcg(f:FuncId)(p:Nd->Bool)(hbf:zAQ prog f=true)(hp:∀n,zAX prog f [n.av] (bl (p n)))(L:List Nd)(hL:L.length<=2000000):
  zBX prog 74 [.d (zAu L),.clo f []] [] (bl (L.any p)):=by
 refine zDS func74 rfl ntmps74 results74 rfl ?_
 intro wb St0
 repeat' first|apply en_n|apply zAE|apply zAA|apply zAD|apply w0|exact qcA [] [] zbf (zcY f p hbf hp L hL)|refine ayA rfl ?_|apply ay (hd:=rfl)|exact zFU rfl rfl|apply zAN|apply zAO|refine res1 rfl ?_
 refine zCX ?_
 cases h:L.any p with
 |true =>
  obtain⟨x,hx,hpx⟩:=qBK.1 h
  have:idxP p L>=0:=by
   unfold idxP;split
   ·omega
   ·rename_i hn;rw[qBB]at hn;rw[hn x hx]at hpx;cases hpx
  simpa using this
 |false =>
  rw[zD3 fun j u hu=>by have:=qBT.1 h u (qAC hu);simpa using this]
  rfl
theorem zMi{L:List Nd}(h:okT L=true): L.length<=4000/\zDA L=true/\L.all zCU=true:=by
 simpa[okT,and_assoc]using h
theorem zI5(L:List Nd)(hL:L.length<=2000000): zAX prog 41 [zAu L] (i64 (ckT L)):=by
 refine zAc func41 rfl ntmps41 results41 rfl ?_
 intro wb St0
 repeat' first|apply en_n|apply zAE|apply zAA|apply zAD|apply w0|refine k0u (hd:=rfl) rfl rfl ?_|exact ycA zHd (zKC L hL)|exact qcA [] [] zbh (zcg _ (fun n=>!zCU n) zUs zWS L hL)|refine ayA rfl ?_|apply ay (hd:=rfl)|exact zF4 rfl rfl|refine w1 rfl rfl ?_|(apply gD;exact rfl;exact rfl;all_goals intro hb)|(apply g1;exact rfl;exact rfl;all_goals intro hb)|refine zAJ rfl ?_|(apply zCd;exact rfl;all_goals intro hb)|apply zAM|apply zAN|apply en_r|apply zAO|refine res1 rfl ?_
 all_goals refine zCm ?_
 all_goals unfold ckT
 ·rw[if_neg];intro h;have:=(zMi h).1;omega
 ·rw[if_neg];intro h;have:=(zMi h).2.1;rw[this]at hb;cases hb
 ·rw[if_neg];intro h;have:=(zMi h).2.2
  obtain⟨x,hx,hpx⟩:=qBK.1 hb
  rw[qAI.1 this x hx]at hpx;cases hpx
 ·rename_i h1 h2
  rw[if_pos]
  have h3:L.all zCU=true:=qAI.2 fun x hx=>by have:=qBT.1 hb x hx;simpa using this
  have h4:zDA L=true:=by simpa using h2
  simp[okT,h3,h4];omega
theorem zYL(acc:List Int)(n:Nd): (addV acc n).length<=acc.length+1:=by unfold addV;split <;> simp
theorem zFg{L:List Nd}{i:Nat}{v:Nd}(h:L[i]?=some v): zEf (L.take (i+1))=addV (zEf (L.take i)) v:=by
 unfold zEf
 rw[qAu,h,Option.toList_some,List.foldl_append];rfl
theorem zKP: ∀(L:List Nd) (acc:List Int),(L.foldl addV acc).length<=acc.length+L.length
 |[],acc=>by simp
 |n::L,acc=>by
  have:=zKP L (addV acc n)
  have:=zYL acc n
  simp only[List.foldl_cons,qAK];omega
theorem zIK{L:List Nd}(i:Nat)(h:L.length<=2000000): (zEf (L.take i)).length<=2000000:=by
 have:=zKP (L.take i) []
 have h2:(L.take i).length<=L.length:=by rw[qAU];omega
 simp only[qAb]at this
 unfold zEf;omega
theorem za0(L:List Nd)(hL:L.length<=2000000): zAX prog 138 [zAu L] (zBq (zJo L)):=by
 refine zAc func138 rfl ntmps138 results138 rfl ?_
 intro wb St0
 repeat' first|apply en_n|apply zAE|apply zAA|apply zAD|apply w0|exact ycA zG1 (zI5 L hL)|refine ayA rfl ?_|apply ay (hd:=rfl)|exact zEp rfl rfl|(apply zA3;exact rfl;all_goals intro hb)|apply zAH|apply zAM|apply zAN|apply en_r|apply zAO|refine zZh rfl ?_
 ·have:okT L=false:=by
   cases h:okT L with
   |false=>rfl
   |true=>exfalso;apply hb;simp[ckT,h]
  simp[zJo,this,zBq]
 ·have hok:okT L=true:=by
   cases h:okT L with
   |true=>rfl
   |false=>exfalso;have:=hb;simp[ckT,h]at this
  have h4:=(zMi hok).1
  refine zEd 3 false 3 1 rfl rfl ?_
  refine zAt (α:=Nat) (fun i=>i<=L.length) (fun i=>[(0,.d (zAu L)),(3,.buf 0 ((zEf (L.take i)).map ival).length),(9,.d (zAu L)),(10,.d (i64 (L.length:Int))),(11,.d (i64 (i:Int)))]) (fun i=>[.buf false 3 1 ((zEf (L.take i)).map ival)]) (fun i=>L.length-i) 0 (qAO _)
   (zAV (Le_cons rfl (zCR rfl rfl (Le_cons rfl (Le_d rfl rfl (Le_all rfl))))) (zBa rfl rfl rfl zAW) rfl rfl) ?_
  intro i hi
  repeat' first|apply en_n|apply zAE|apply zAA|apply zAD|apply w0|refine k1u (hd:=rfl) rfl rfl ?_|(refine zAP zOT (zQN (zEf (L.take i)) v.num (zIK i hL)) (zEH rfl rfl rfl (CoLA rfl)))|(apply aI (hd:=rfl);(first|exact zAr rfl|exact Co_bb rfl rfl rfl|exact Co_nn rfl);exact rfl;(with_reducible exact zAe);exact fun _=>rfl;rotate_left;intro v hv;rotate_right)|(apply aApp (hd:=rfl) (hro:=rfl);exact rfl;exact rfl;(first|exact zAr rfl|exact Co_bb rfl rfl rfl|exact Co_nn rfl);(first|exact rfl|(simp;done));exact rfl;(with_reducible exact zEP);(with_reducible exact zBK);(with_reducible exact zNW);(with_reducible exact zLJ);(first|exact zCe (fun _=>rfl)|exact zDP rfl))|refine aAlA ?_|refine ayA rfl ?_|refine ayL rfl ?_|apply ay (hd:=rfl)|exact zCt rfl rfl|exact zDz rfl rfl|refine zBN rfl rfl ?_|refine w1 rfl rfl ?_|(apply gD;exact rfl;exact rfl;all_goals intro hb)|(refine w0' ?_)|refine aStA ?_|(apply zA3;exact rfl;all_goals intro hb)|(apply zLN;exact rfl;all_goals intro hb)|refine zAK rfl ?_|apply zAH|apply zAM|apply zAN|apply zAz|apply en_e|apply eb_n|apply eb_e|apply zAO|(apply zIU;exact rfl;exact rfl;(first|exact rfl|(simp;done)))
  all_goals first|omega|skip
  ·have:=zIK (L:=L) i hL;simp only[qAE,qAK,qAb];omega
  ·have hk:v.kind=31:=‹_›
   have e:zEf (L.take (i+1))=zEf (L.take i)++[v.num]:=by rw[zFg (i:=i) hv,addV,if_pos ⟨hk,hb⟩]
   exact⟨i+1,by omega,by omega,zAV (Le_cons rfl (zCR rfl (by rw[e];simp) (Le_all rfl))) (zBa rfl rfl (by rw[e,qAZ];rfl) zAW) rfl rfl⟩
  ·have e:zEf (L.take (i+1))=zEf (L.take i):=by rw[zFg (i:=i) hv,addV,if_neg (fun h=>h.2 hb)]
   exact⟨i+1,by omega,by omega,zAV (Le_cons rfl (zCR rfl (by rw[e]) (Le_all rfl))) (zBa rfl rfl (by rw[e]) zAW) rfl rfl⟩
  ·have e:zEf (L.take (i+1))=zEf (L.take i):=by rw[zFg (i:=i) hv,addV,if_neg (fun h=>hb h.1)]
   exact⟨i+1,by omega,by omega,zAV (Le_cons rfl (zCR rfl (by rw[e]) (Le_all rfl))) (zBa rfl rfl (by rw[e]) zAW) rfl rfl⟩
  ·have e:L.take i=L:=qAe oM
   rw[e,zJo,if_pos hok];rfl
end Go.Proofs.YtjcgiiedaccjpaaGreatDoor
namespace Go.Proofs.YtjcgiiedaccjpaaGreatDoor
open Go.Sx
structure Ct where
 name:List UInt8
 args:List (List Nd)
 deriving Inhabited
abbrev Ct.cells(c:Ct): List D:=[str c.name,zC0 c.args]
def Ct.av(c:Ct): D:=.agg c.cells
def cts(l:List Ct): D:=.slice (l.map Ct.av)
structure Dt where
 name:List UInt8
 params:Int
 cons:List Ct
 deriving Inhabited
abbrev Dt.cells(d:Dt): List D:=[str d.name,i64 d.params,cts d.cons]
def Dt.av(d:Dt): D:=.agg d.cells
def dts(l:List Dt): D:=.slice (l.map Dt.av)
def argF(p:Int)(t:List Nd): Bool:=okT t && !(zJo t).any fun v=>decide (p<=v)
def zEx(p:Int)(c:Ct): Bool:=conF c.name&&decide (c.args.length<=8) && !c.args.any fun t=>!argF p t
def zCj(d:Dt): Bool:=conF d.name&&decide (0<=d.params/\d.params<=8/\1<=d.cons.length/\d.cons.length<=60)&&d.cons.all (zEx d.params)
def zHr(p:Nat->Bool): Nat->Nat->Option Nat
 |0,_=>none
 |n+1,k=>if p k=true then some k else zHr p n (k+1)
def zEG(p:Nat->Nat->Bool): Nat->List Dt->Option (Nat×Nat)
 |_,[]=>none
 |i,d::l=>match zHr (p i) d.cons.length 0 with
  |some k=>some (i,k)
  |none=>zEG p (i+1) l
theorem zOu{p:Nat->Bool}: ∀{n k j:Nat},k<=j->j<k+n->(∀q,k<=q->q<j->p q=false)->p j=true->zHr p n k=some j
 |0,k,j,h1,h2,_,_=>absurd h2 oM
 |n+1,k,j,h1,h2,h3,h4=>by
  unfold zHr
  rcases Nat.eq_or_lt_of_le h1 with h|h
  ·subst h;rw[if_pos h4]
  ·rw[if_neg (by rw[h3 k (qAN _) h];decide)]
   exact zOu oM oM (fun q hq=>h3 q oM) h4
theorem zJS{p:Nat->Bool}: ∀{n k:Nat},(∀q,k<=q->q<k+n->p q=false)->zHr p n k=none
 |0,_,_=>rfl
 |n+1,k,h=>by
  unfold zHr
  rw[if_neg (by rw[h k (qAN _) oM];decide)]
  exact zJS fun q h1 h2=>h q oM oM
theorem zIt{p:Nat->Nat->Bool}: ∀{l:List Dt} {b i:Nat} {d:Dt} {k:Nat},l[i]?=some d->k<d.cons.length->(∀i' d',i'<i->l[i']?=some d'->∀k',k'<d'.cons.length->p (b+i') k'=false)->(∀k',k'<k->p (b+i) k'=false)->p (b+i) k=true->zEG p b l=some (b+i,k)
 |[],_,i,_,_,h,_,_,_,_=>by cases h
 |d::l,b,0,d',k,h,hk,_,h2,h3=>by
  injection h with h;subst h
  rw[qBI]at h2 h3 ⊢
  unfold zEG
  rw[zOu (qAO _) oM (fun q _ hq=>h2 q hq) h3]
 |d::l,b,i+1,d',k,h,hk,h1,h2,h3=>by
  unfold zEG
  rw[zJS fun q _ hq=>by have:=h1 0 d oM rfl q oM;rwa [qBI]at this]
  have e:b+(i+1)=(b+1)+i:=by omega
  rw[e]at h2 h3 ⊢
  exact zIt (l:=l) (b:=b+1) (i:=i) h hk (fun i' d' h' hd k' hk'=>by have:=h1 (i'+1) d' oM hd k' hk';rwa [show b+(i'+1)=b+1+i' by omega]at this) h2 h3
theorem zGj{p:Nat->Nat->Bool}: ∀{l:List Dt} {b:Nat},(∀i d,l[i]?=some d->∀k,k<d.cons.length->p (b+i) k=false)->zEG p b l=none
 |[],_,_=>rfl
 |d::l,b,h=>by
  unfold zEG
  rw[zJS fun q _ hq=>by have:=h 0 d rfl q oM;rwa [qBI]at this]
  exact zGj fun i d' hd k hk=>by have:=h (i+1) d' hd k hk;rwa [show b+(i+1)=b+1+i by omega]at this
theorem zJR{p:Nat->Bool}: ∀{n k:Nat},zHr p n k=none->∀q,k<=q->q<k+n->p q=false
 |0,k,_,q,h1,h2=>absurd h2 oM
 |n+1,k,h,q,h1,h2=>by
  unfold zHr at h
  split at h
  ·cases h
  ·rename_i hk
   rcases Nat.eq_or_lt_of_le h1 with e|e
   ·subst e;simpa using hk
   ·exact zJR h q e oM
theorem zHm{p:Nat->Nat->Bool}: ∀{l:List Dt} {b:Nat},zEG p b l=none->∀i d,l[i]?=some d->∀k,k<d.cons.length->p (b+i) k=false
 |[],_,_,i,d,hd,_,_=>by simp at hd
 |d::l,b,h,i,d',hd,k,hk=>by
  unfold zEG at h
  split at h
  ·cases h
  ·rename_i hn
   match i,hd with
   |0,hd =>
    injection hd with hd;subst hd
    rw[qBI]
    exact zJR hn k (qAO _) oM
   |i+1,hd =>
    have:=zHm h i d' (by simpa using hd) k hk
    rwa [show b+(i+1)=b+1+i by omega]
def zHs(l:List Dt)(i k:Nat): Ct:=(l.getD i default).cons.getD k default
def zHM(l:List Dt)(s:List UInt8)(i k:Nat): Bool:=decide ((zHs l i k).name=s)
def zEA(l:List Dt)(s:List UInt8): Option (Nat×Nat):=zEG (zHM l s) 0 l
def zLh(l:List Dt): Bool:=(List.range l.length).any fun i=>decide (idxP (fun u=>decide (u.name=(l.getD i default).name)) l<(i:Int))
def zHB(l:List Dt)(i k:Nat): Bool:=decide (zEA l (zHs l i k).name≠some (i,k))
def zJf(l:List Dt)(n:Nd): Bool:=l.any fun d=>decide (d.name=n.text/\d.params=n.kids)
def zHK(l:List Dt)(n:Nd): Bool:=decide (n.kind=32)&&conF n.text && !zJf l n
def zHu(l:List Dt)(i k:Nat): Bool:=(zHs l i k).args.any fun t=>t.any (zHK l)
def zFJ(l:List Dt): Int :=
 if 60<l.length\/l.all zCj=false then 100 else if zLh l=true then 101 else if zEG (zHB l) 0 l≠none then 101 else if zEG (zHu l) 0 l≠none then 102 else 0
open _root_.Go.Proofs.Tryz
open Go.ChangeShapes Go.WideShapes Go.ChangeAt Go.RowKit Go.Deep
theorem zTV: prog.underlying 65=some (.slice 23):=by kernel_rfl
theorem zX7: prog.cellsOf 23=1:=by kernel_rfl
theorem zWd: prog.underlying 68=some (.slice 67):=by kernel_rfl
theorem zZc: prog.underlying 67=some (.struct #[⟨"Name",9,0,false, "", "",0⟩,⟨"Args",65,1,false, "", "",16⟩]):=by kernel_rfl
theorem zao: prog.cellsOf 67=2:=by kernel_rfl
theorem zW4: oneCellFields prog #[⟨"Name",9,0,false, "", "",0⟩,⟨"Args",65,1,false, "", "",16⟩]=true:=by kernel_rfl
theorem zQa: prog.underlying 22=some (.slice 70):=by kernel_rfl
theorem zZb: prog.underlying 70=some (.struct #[⟨"Name",9,0,false, "", "",0⟩,⟨"Params",3,1,false, "", "",16⟩,⟨"Cons",68,2,false, "", "",24⟩]):=by kernel_rfl
theorem zan: prog.cellsOf 70=3:=by kernel_rfl
theorem zW3: oneCellFields prog #[⟨"Name",9,0,false, "", "",0⟩,⟨"Params",3,1,false, "", "",16⟩,⟨"Cons",68,2,false, "", "",24⟩]=true:=by kernel_rfl
set_option maxRecDepth 100000 in
theorem zUK{H:Type}{enc:TypeId×Value->H}{W:World}{fuel:Nat}{cs:List Value}{x:DataW H×List MemPlace}(h:DataW.trod enc prog W 0 (fun _=>true) true fuel 65 cs=some x):
  ∃(v:Value) (KK:List (List Nd)),cs=[v]/\v.oneCell'=true/\RepD (big W) W v (zC0 KK):=by
 rcases open_slice zTV h with⟨h0,_⟩|⟨a,len,cap,m,n,D',Pl,hcs,hb,hl,hm,hmm,hx,hi⟩
 ·exact⟨_,[],h0,rfl,zMg⟩
 ·obtain⟨KK,hK,hq⟩:=zE2 (Q:=fun i (L:List Nd)=>∃u,W.cell? (a.add (i*1+0))=some u/\u.oneCell'=true/\RepD (big W) W u (zAu L)) len (fun i hil=>by
   obtain⟨cs',hc,ht⟩:=hi i (by rw[hmm];split <;> omega)
   rw[zX7]at hc
   obtain⟨u,L,rfl,h1,h2⟩:=zQx ht
   obtain⟨_,_,hat⟩:=World.cells?_some hc
   have h3:=hat 0 oM
   rw[Go.Deep.add_add]at h3
   exact⟨L,u,h3,h1,h2⟩)
  refine⟨_,KK,hcs,rfl,zIV (sz:=1) (by rw[qAE,hK]) hl hm (zCe fun _=>rfl) dC fun i d hd o c hc=>?_⟩
  rw[qAJ]at hd
  cases hn:KK[i]? with
  |none=>rw[hn]at hd;cases hd
  |some L =>
   rw[hn]at hd;injection hd with hd;subst hd
   match o,hc with
   |0,hc=>injection hc with hc;subst hc;exact hq i L hn
   |o+1,hc=>exact absurd hc (by simp[zAu,D.flat])
set_option maxRecDepth 100000 in
theorem zX5{H:Type}{enc:TypeId×Value->H}{W:World}{fuel:Nat}{cs:List Value}{x:DataW H×List MemPlace}(h:DataW.trod enc prog W 0 (fun _=>true) true fuel 68 cs=some x):
  ∃(v:Value) (E:List Ct),cs=[v]/\v.oneCell'=true/\RepD (big W) W v (cts E):=by
 rcases zHz zWd zZc zW4 zao h with h0|⟨a,len,cap,hcs,hl,hm,hi⟩
 ·exact⟨_,[],h0,rfl,zMg⟩
 ·obtain⟨E,hL,hq⟩:=zE2 (Q:=fun i (s:Ct)=>W.cell? (a.add (i*2+0))=some (.string ⟨s.name.toArray⟩)/\∃u,W.cell? (a.add (i*2+1))=some u/\u.oneCell'=true/\RepD (big W) W u (zC0 s.args)) len (fun i hil=>by
   obtain⟨n,hf⟩:=hi i hil
   obtain⟨u0,y0,c0,t0⟩:=hf 0 _ rfl
   obtain⟨u1,y1,c1,t1⟩:=hf 1 _ rfl
   obtain⟨s,e0,_,_⟩:=DataW.trod_string zTU t0
   injection e0 with e0
   subst e0
   obtain⟨v,L,e1,o1,r1⟩:=zUK t1
   injection e1 with e1
   subst e1
   exact⟨⟨s.data.toList,L⟩,c0,u1,c1,o1,r1⟩)
  refine⟨_,E,hcs,rfl,zIV (sz:=2) (by rw[qAE,hL]) hl hm (zCe fun _=>rfl) dC fun i d hd o c hc=>?_⟩
  rw[qAJ]at hd
  cases hn:E[i]? with
  |none=>rw[hn]at hd;cases hd
  |some s =>
   rw[hn]at hd;injection hd with hd;subst hd
   obtain⟨h1,u,h2,h3,h4⟩:=hq i s hn
   match o,hc with
   |0,hc=>injection hc with hc;subst hc;exact⟨_,h1,rfl,.val _⟩
   |1,hc=>injection hc with hc;subst hc;exact⟨u,h2,h3,h4⟩
   |o+2,hc=>exact absurd hc (by simp[Ct.av,D.flat])
set_option maxRecDepth 100000 in
theorem zX3{H:Type}{enc:TypeId×Value->H}{W:World}{fuel:Nat}{cs:List Value}{x:DataW H×List MemPlace}(h:DataW.trod enc prog W 0 (fun _=>true) true fuel 22 cs=some x):
  ∃(v:Value) (E:List Dt),cs=[v]/\v.oneCell'=true/\RepD (big W) W v (dts E):=by
 rcases zHz zQa zZb zW3 zan h with h0|⟨a,len,cap,hcs,hl,hm,hi⟩
 ·exact⟨_,[],h0,rfl,zMg⟩
 ·obtain⟨E,hL,hq⟩:=zE2 (Q:=fun i (s:Dt)=>W.cell? (a.add (i*3+0))=some (.string ⟨s.name.toArray⟩)/\W.cell? (a.add (i*3+1))=some (.int .i64 s.params)/\∃u,W.cell? (a.add (i*3+2))=some u/\u.oneCell'=true/\RepD (big W) W u (cts s.cons)) len (fun i hil=>by
   obtain⟨n,hf⟩:=hi i hil
   obtain⟨u0,y0,c0,t0⟩:=hf 0 _ rfl
   obtain⟨u1,y1,c1,t1⟩:=hf 1 _ rfl
   obtain⟨u2,y2,c2,t2⟩:=hf 2 _ rfl
   obtain⟨s,e0,_,_⟩:=DataW.trod_string zTU t0
   obtain⟨z,e1,_,_⟩:=DataW.trod_int zYb t1
   injection e0 with e0;injection e1 with e1
   subst e0;subst e1
   obtain⟨v,L,e2,o2,r2⟩:=zX5 t2
   injection e2 with e2
   subst e2
   exact⟨⟨s.data.toList,z,L⟩,c0,c1,u2,c2,o2,r2⟩)
  refine⟨_,E,hcs,rfl,zIV (sz:=3) (by rw[qAE,hL]) hl hm (zCe fun _=>rfl) dC fun i d hd o c hc=>?_⟩
  rw[qAJ]at hd
  cases hn:E[i]? with
  |none=>rw[hn]at hd;cases hd
  |some s =>
   rw[hn]at hd;injection hd with hd;subst hd
   obtain⟨h1,h5,u,h2,h3,h4⟩:=hq i s hn
   match o,hc with
   |0,hc=>injection hc with hc;subst hc;exact⟨_,h1,rfl,.val _⟩
   |1,hc=>injection hc with hc;subst hc;exact⟨_,h5,rfl,.val _⟩
   |2,hc=>injection hc with hc;subst hc;exact⟨u,h2,h3,h4⟩
   |o+3,hc=>exact absurd hc (by simp[Dt.av,D.flat])
set_option maxRecDepth 100000 in
theorem zVo{H:Type}{enc:TypeId×Value->H}{W:World}{r:Reach}{b0:Nat}{v:Value}{d:DataW H}{p:List MemPlace}(hv:Value.okWide prog W r b0 22 v)(h:DataW.Trod enc prog W 0 (fun _=>true) true 22 v d p):
  ∃E,RepD (big W) W v (dts E):=by
 obtain⟨a,len,cap,rfl⟩:=okWide_slice zQa hv
 obtain⟨fuel,hf⟩:=h
 obtain⟨v',E,hc,_,hr⟩:=zX3 hf
 simp[Value.cells]at hc
 subst hc
 exact⟨E,hr⟩
theorem Tryz.own: ownKnob prog.godebug=none:=by kernel_rfl
theorem Tryz.laidOut: laidOutB prog=true:=by kernel_rfl
section
variable {H:Type}{enc:TypeId×Value->H}
theorem zNd{a:Assume}{C:Checked}{os:Os}{f:FuncId}{fn:Func}{s:ChangeSpec}{conds:List PathCond}{apart fresh handsOn again:Bool}{X:World->Array Value->Prop}
  (hX:∀(w w':World) (args:Array Value),w.heap=w'.heap->X w args->X w' args)
  (own:ownKnob C.prog.godebug=none) (started:os.Started) (noInit:C.prog.inits.idxOf? f=none) (hfn:C.prog.funcs[f]?=some fn)
  (witness:∃(w:World) (tape:Tape) (i:Input),w.os=os/\(w.forCall tape i).Shaped C.prog/\i.vars=[]/\Input.okWide C.prog (w.forCall tape i) .any w.heap.size f i/\
   ((s.pre enc C.prog fn conds apart (w.forCall tape i).memory i.args/\X (w.forCall tape i).memory i.args)/\sizedMet enc C.prog fn (OpenSpec.ofChange s) apart (w.forCall tape i).memory i.args)/\a.holds C.prog (lone (Frame.enter C.prog f i.args .normal) [] (w.forCall tape i)))
  (contract:∀(W:World) (base:Nat) (args:Array Value) (ds gs:List (DataW H)) (before:List MemPlace),
   (∀(j:Nat) t v,fn.params[j]?=some t->args[j]?=some v->Value.okWide C.prog W .any base t v)->
   DataW.Whole enc C.prog fn.params.toList s.vars apart W args.toList ds gs before->X W args->W.ShapedOpen C.prog->
   Calls C.prog f args W fun e W'=>∃v,e=.returned v/\s.post enc C.prog fn apart fresh handsOn again W args v W') :
  ReturnsInHanded a C os f .any (fun w args=>(s.pre enc C.prog fn conds apart w args/\X w args)/\sizedMet enc C.prog fn (OpenSpec.ofChange s) apart w args) (s.post enc C.prog fn apart fresh handsOn again):=by
 refine returnsInHanded_of_calls own started noInit witness ?_
 intro w tape i _ hsh _ hok hpre _
 obtain⟨_,_,_,fn',hfn',_,_,_,_,hval⟩:=hok
 have e:fn'=fn:=qBR (hfn'.symm.trans hfn)
 subst e
 obtain⟨⟨⟨ds,gs,before,hw,_⟩,hx⟩,_⟩:=hpre
 have hw':=DataW.Whole.of_heap (w':=w.forCall tape i) (by rfl) hw
 refine(contract (w.forCall tape i) w.heap.size i.args ds gs before hval hw' (hX _ _ _ (by rfl) hx) hsh).mono fun e W' ⟨v,he,hp⟩=>?_
 subst he
 exact ChangeSpec.post_blind hp
end
theorem zNm{P:Program}{W:World}{n:String}{g:Nat}{cs:Array Value}(hg:P.globalNamed n=some g)(hv:W.var? P n=some cs): ∃e t,W.heap[g]?=some (.cells cs e t):=by
 simp only[World.var?,hg,qBQ]at hv
 split at hv
 ·rename_i h;injection hv with hv;subst hv;exact⟨_,_,h⟩
 ·cases hv
def zGr: List (String×DataW Unit):=Rows.evalFuelsRow.laid
theorem zU5{W:World}(hsh:W.ShapedOpen prog)(hL:laidMetH prog zGr W): Glob (big W) W:=by
 rw[MakeChecks.laidMetH_plain _ _ _ kR]at hL
 have h2:=laidMet.tail (laidMet.tail hL)
 have e2:(Rows.laid_internal_strconv_uint64pow10:DataW Unit)=Lib.tabData .u64 Lib.pow10Tab:=by kernel_rfl
 rw[e2]at h2
 have ht:=Lib.tabIs_of_head (g:=3) (t:=270) (e:=195) (n:=20) kR kR kR kR kR kR h2
 have h5:=laidMet.tail (laidMet.tail (laidMet.tail h2))
 have e5:(Rows.laid_strings_asciiSpace:DataW Unit)=Lib.tabData .u8 Lib.asciiSpaceTab:=by kernel_rfl
 rw[e5]at h5
 have hs:=Lib.tabIs_of_head (g:=4) (t:=265) (e:=5) (n:=256) kR kR kR kR kR kR h5
 obtain⟨cs8,hh8,_,_⟩:=hsh.1 8 #[.pointer none] 283 (of_decide_eq_true kR) kR
 have hsz:8<W.heap.size:=(qAn.1 hh8).1
 obtain⟨m,hm⟩:=cell_of_shapedOpen_int (P:=prog) (g:=0) (t:=3) (zero:=#[.int .i64 0]) hsh (of_decide_eq_true kR) kR rfl kR kR uint
 obtain⟨cs0,hh,hc0,_⟩:=hsh.1 0 #[.int .i64 0] 3 (of_decide_eq_true kR) kR
 have hc:cs0 = #[.int .i64 m]:=by
  obtain⟨l⟩:=cs0
  match l,hc0 with
  |[c],_ =>
   simp[World.cell?,hh]at hm
   rw[hm]
 subst hc
 exact⟨fun k hk o=>qAc hk hsz,⟨m,_,_,hh⟩,zNm kR ht,zNm kR hs⟩
end Go.Proofs.YtjcgiiedaccjpaaGreatDoor
namespace Go.Proofs.YtjcgiiedaccjpaaGreatDoor
open Go.Sx
attribute [local irreducible] zAQ Program.underlying Ylds zBJ alex zBk zBZ awp zAX FCall zBo zBR zBX zBb zBD zBd zBj zBn zBu zBP
abbrev Nd.cells(n:Nd): List D:=[.val (.int .i64 n.kind),.val (.string ⟨n.text.toArray⟩),.val (.int .i64 n.num),.val (.int .i64 n.kids)]
end Go.Proofs.YtjcgiiedaccjpaaGreatDoor
namespace Go.Proofs.YtjcgiiedaccjpaaGreatDoor
open Go.Sx
abbrev Seen:=List (Int×Int)
def zUX{β:Type}: List (Int×β)->Int->Option β
 |[],_=>none
 |(k,d)::r,a=>if k=a then some d else zUX r a
abbrev ki: Int->Value:=fun a=>Value.int .i64 a
def cutO(t:List Nd)(a b:Int): Option (List Nd):=if 0<=a/\a<=b/\b<=t.length then some ((t.take b.toNat).drop a.toNat)else none
section
variable {P:Program}{η:List Ob}{σ:Sl}{dst:Option Nat}{ty:TypeId}{pos:String}{after:Array Edge}{gd:Option (Nat×Bool)}{t:TypeId}{x y:Operand}
end
section
variable {C:Ctx}{ops:Array Oper}{rest:List Oper}{K:Sl->List Ob->Prop}{σ:Sl}{η:List Ob}{ty:TypeId}{pos:String}{after:Array Edge}{gd:Option (Nat×Bool)}{t:TypeId}{x y z:Operand}
end
attribute [local irreducible] zAQ Program.underlying Ylds zBJ alex zBk zBZ awp zAX FCall zBo zBR zBX zBb zBD zBd zBj zBn zBu zBP
theorem zZB{k:Option Nat}{et:Option TypeId}{cs:List SV}: WOb (.bx k none cs) (.bx k et cs):=fun _ _ _ ⟨b,e,us,h1,h2,h3,h4,h5,h6,h7⟩=>⟨b,e,us,h1,h2,h3,h4,h5,h6,h7.1,fun _ h=>(by cases h)⟩
end Go.Proofs.YtjcgiiedaccjpaaGreatDoor
namespace Go.Proofs.YtjcgiiedaccjpaaGreatDoor
open Go.Sx
def SeenB(S:Seen): Prop:=∀a v,zUX S a=some v->0<=v/\v<=4001
theorem SeenB.get{S:Seen}(h:SeenB S)(a:Int): 0<=(zUX S a).getD 0/\(zUX S a).getD 0<=4001:=by
 cases hq:zUX S a with
 |none=>simp
 |some v=>simpa[hq]using h a v hq
attribute [local irreducible] zAQ Program.underlying Ylds zBJ alex zBk zBZ awp zAX FCall zBo zBR zBX zBb zBD zBd zBj zBn zBu zBP
end Go.Proofs.YtjcgiiedaccjpaaGreatDoor
namespace Go.Proofs.YtjcgiiedaccjpaaGreatDoor
open Go.Sx
theorem zNR{P:Program}{η:List Ob}{σ:Sl}{dst:Option Nat}{ty:TypeId}{pos:String}{after:Array Edge}{gd:Option (Nat×Bool)}{t:TypeId}{p q:Operand}{A:List Int}{i:Nat}{k:Int}(hk:A[i]?=some k)(hp:oval σ p=.d (zBq A))(hq:oval σ q=.d (i64 (i:Int)))(hs:zBU P t=some 1):
  Ylds P η σ ⟨dst,.indexAddr t p q,ty,pos,after,gd⟩ (.rptr (ival k).flat) :=
 zKB (xs:=A.map ival) (zAr hp) hq hs oM (by show (A.map ival)[((i:Int)).toNat]?=_;rw[qAT,qAJ,hk];rfl) (fun d hd=>by obtain⟨v,_,rfl⟩:=qAo.1 hd;rfl)
theorem zdK{P:Program}{η:List Ob}{σ:Sl}{dst:Option Nat}{ty:TypeId}{pos:String}{after:Array Edge}{gd:Option (Nat×Bool)}{t:TypeId}{p q r:Operand}{A u:List Nd}{k l:Int}(hu:cutO A k l=some u)(hp:oval σ p=.d (zAu A))(hq:oval σ q=.d (i64 k))(hr:oval σ r=.d (i64 l))(hs:zBU P t=some 4):
  Ylds P η σ ⟨dst,.slice t p (some q) (some r) none,ty,pos,after,gd⟩ (.d (zAu u)):=by
 unfold cutO at hu
 split at hu
 ·rename_i h
  injection hu with hu;subst hu
  exact Y_sl (enc:=Nd.av) (zAr hp) hs hq hr (fun _=>rfl) h
 ·cases hu
attribute [local irreducible] zAQ Program.underlying Ylds zBJ alex zBk zBZ awp zAX FCall zBo zBR zBX zBb zBD zBd zBj zBn zBu zBP

/- Parts. -/
import Derived.Test.YtjcgiiedaccjpaaGreatDoorPAS
import Derived.Test.YtjcgiiedaccjpaaGreatDoorPBT
set_option maxHeartbeats 16000000
namespace Go.Proofs.YtjcgiiedaccjpaaGreatDoor
open Go.Sx
attribute [local irreducible] zAQ Program.underlying Ylds zBJ alex zBk zBZ awp zAX FCall zBo zBR zBX zBb zBD zBd zBj zBn zBu zBP
end Go.Proofs.YtjcgiiedaccjpaaGreatDoor
namespace Go.Proofs.YtjcgiiedaccjpaaGreatDoor
open _root_.Go.Proofs.Tryz
open Go.Sx Go.RowKit
theorem zJP: zBU prog 40=some 2:=by kernel_rfl
theorem zVQ: (zCB prog 40).isSome=true:=by kernel_rfl
theorem fg_0: zA7 prog 45 0=some 0:=by kernel_rfl
theorem fg_1: zA7 prog 45 1=some 1:=by kernel_rfl
theorem zNp: zBh prog 45=some (true,2):=by kernel_rfl
theorem zYa: zBv prog 45=some [.string ByteArray.empty,.slice none 0 0]:=by kernel_rfl
theorem zUp: zAQ prog 17=true:=by kernel_rfl
theorem zSU: zAQ prog 38=true:=by kernel_rfl
theorem zbg: zAQ prog 113=true:=by kernel_rfl
theorem zbi: zAQ prog 42=true:=by kernel_rfl
theorem zXU: zAQ prog 43=true:=by kernel_rfl
structure Sg where
 name:List UInt8
 ty:List Nd
abbrev Sg.cells(s:Sg): List D:=[str s.name,zAu s.ty]
def Sg.av(s:Sg): D:=.agg s.cells
def sigs(E:List Sg): D:=.slice (E.map Sg.av)
structure Lc where
 name:List UInt8
 t:List Nd
 any:List Int
abbrev Lc.cells(s:Lc): List D:=[str s.name,zAu s.t,zBq s.any]
def zCs: Tr->List (List Nd)×List Nd
 | .mk x [a,b]=>if x.text=arrT then(a.fl::(zCs b).1,(zCs b).2)else([],(Tr.mk x [a,b]).fl)
 |t=>([],t.fl)
theorem zIb{x:Nd}{ks:List Tr}(h:x.text≠arrT): zCs (.mk x ks)=([],(Tr.mk x ks).fl):=by
 unfold zCs;split
 ·rename_i y a b he;injection he with h1 h2;subst h1;rw[if_neg h];simp_all
 ·rfl
theorem zHZ{x:Nd}{a b:Tr}(h:x.text=arrT): zCs (.mk x [a,b])=(a.fl::(zCs b).1,(zCs b).2):=by
 rw[zCs,if_pos h]
theorem zM1{x:Nd}{ks:List Tr}(h:∀n∈(Tr.mk x ks).fl,zCU n=true): zCU x=true/\∀k∈ks,∀n∈k.fl,zCU n=true:=by
 rw[Tr.fl]at h
 refine⟨h x qAt,fun k hk n hn=>h n (qAk _ ?_)⟩
 rw[zGH];exact List.mem_flatten.2 ⟨k.fl,qAo.2 ⟨k,hk,rfl⟩,hn⟩
theorem zas{x:Nd}(h:zCU x=true)(ht:x.text=arrT): x.kids=2:=by
 unfold zCU at h
 rw[ht]at h
 split at h
 ·rename_i hk;simp[arrT]at h
 ·split at h
  ·cases h
  ·simpa using h
theorem zRl{x:Nd}{ks:List Tr}(h:∀n∈(Tr.mk x ks).fl,zCU n=true)(hw:(Tr.mk x ks).wf)(ht:x.text=arrT): ∃a b,ks=[a,b]:=by
 have h2:=zas (zM1 h).1 ht
 rw[Tr.wf]at hw
 match ks,hw with
 |[a,b],_=>exact⟨a,b,rfl⟩
 |[],hw=>simp at hw;omega
 |[_],hw=>simp at hw;omega
 |_::_::_::_,hw=>simp at hw;omega
theorem zLu: ∀(m:Nat) (t:Tr),t.sz<=m->(zCs t).1.length+(zCs t).2.length<=t.sz/\(∀a∈(zCs t).1,a.length<=t.sz)/\((zCs t).1.map List.length).sum<=t.sz
 |0,t,h=>by have:=zDy t;omega
 |m+1,t,h=>by
  match t,h with
  | .mk x [a,b],h =>
   rw[Tr.sz,szL,szL,szL]at h
   have hb:=zLu m b oM
   have hfa:=Tr.fl_len a
   by_cases hx:x.text=arrT
   ·rw[zHZ hx]
    refine⟨?_,fun c hc=>?_,?_⟩
    ·rw[Tr.sz,szL,szL,szL];simp only[qAK];have:=zDy a;omega
    ·rw[Tr.sz,szL,szL,szL]
     rcases qAq.1 hc with e|e
     ·subst e;omega
     ·have:=hb.2.1 c e;omega
    ·rw[Tr.sz,szL,szL,szL];simp only[qA1,List.sum_cons];omega
   ·rw[zIb hx]
    exact⟨by simp[Tr.fl_len],by simp,by simp⟩
  | .mk x [],h=>exact⟨by simp[zCs,Tr.fl_len],by simp[zCs],by simp[zCs]⟩
  | .mk x [_],h=>exact⟨by simp[zCs,Tr.fl_len],by simp[zCs],by simp[zCs]⟩
  | .mk x (_::_::_::_),h=>exact⟨by simp[zCs,Tr.fl_len],by simp[zCs],by simp[zCs]⟩
def zLx: Nat->List Nd->List (List Nd)×List Nd
 |0,t=>([],t)
 |m+1,t=>match t with
  |[]=>([],[])
  |x::_=>if x.text=arrT then(match zB3 t 0 with
    |a::b::_=>((t.take b.toNat).drop a.toNat::(zLx m (t.drop b.toNat)).1,(zLx m (t.drop b.toNat)).2)
    |_=>([],t))else([],t)
def zJd(t:List Nd): List (List Nd)×List Nd:=if ckT t=0 then zLx t.length t else([],[])
theorem zKi: ∀(m:Nat) (T:Tr),T.sz<=m->T.wf->(∀n∈T.fl,zCU n=true)->zLx m T.fl=zCs T
 |0,T,h,_,_=>by have:=zDy T;omega
 |m+1,.mk x ks,h,hw,hr=>by
  have hfl:(Tr.mk x ks).fl=x::flL ks:=by rw[Tr.fl]
  by_cases ht:x.text=arrT
  ·obtain⟨a,b,rfl⟩:=zRl hr hw ht
   have hk:=(At.top hw).kids
   have e0:kidAt 0 [a,b] 0=1:=zCu 0 _
   have e1:kidAt 0 [a,b] 1=1+a.sz:=by rw[zDt (k:=a) rfl,e0]
   have hk2:zB3 (Tr.mk x [a,b]).fl 0=[((1:Nat):Int),((1+a.sz:Nat):Int)]:=by
    have hk3:zB3 (Tr.mk x [a,b]).fl 0=[((kidAt 0 [a,b] 0:Nat):Int),((kidAt 0 [a,b] 1:Nat):Int)]:=hk
    rw[e0,e1]at hk3;exact hk3
   have hfa:(Tr.mk x [a,b]).fl=x::(a.fl++b.fl):=by rw[Tr.fl,flL,flL,flL,qA0]
   have hla:=Tr.fl_len a
   have hXa:((Tr.mk x [a,b]).fl.take (((1+a.sz:Nat):Int)).toNat).drop (((1:Nat):Int)).toNat=a.fl:=by
    rw[hfa,qAT,qAT,Nat.add_comm,qBi,List.drop_succ_cons,qAp,<-hla,List.take_left]
   have hXb:(Tr.mk x [a,b]).fl.drop (((1+a.sz:Nat):Int)).toNat=b.fl:=by
    rw[hfa,qAT,Nat.add_comm,List.drop_succ_cons,<-hla,List.drop_left]
   have ih:=zKi m b (by rw[Tr.sz,szL,szL,szL]at h;omega) ((zGp.1 (by rw[Tr.wf]at hw;exact hw.2)) b sI) ((zM1 hr).2 b sI)
   rw[zHZ ht,<-ih,<-hXb,<-hXa]
   generalize (Tr.mk x [a,b]).fl=t at *
   subst hfl
   rw[zLx,if_pos ht,hk2]
  ·rw[zIb ht]
   generalize (Tr.mk x ks).fl=t at *
   subst hfl
   rw[zLx,if_neg ht]
theorem zKj{T:Tr}(hw:T.wf)(h:ckT T.fl=0): zJd T.fl=zCs T:=by
 rw[zJd,if_pos h]
 have h2:okT T.fl=true:=by unfold ckT at h;split at h <;> first|assumption|cases h
 simp only[okT,qAR,qAI]at h2
 exact zKi _ T (by rw[Tr.fl_len];exact qAN _) hw h2.2
theorem zVq{t:List Nd}(h:ckT t=0): ∃T:Tr,T.fl=t/\T.wf/\(∀n∈t,zCU n=true)/\T.sz<=4000:=by
 have h2:okT t=true:=by unfold ckT at h;split at h <;> first|assumption|cases h
 simp only[okT,qAR,qAI,decide_eq_true_eq]at h2
 obtain⟨T,h3,h4⟩:=zHV.1 h2.1.2
 exact⟨T,h3,h4,h2.2,by rw[<-Tr.fl_len,h3];exact h2.1.1⟩
def envB(E:List Sg)(i:Nat)(s:Sg): Bool :=
 (!zGw s.name && !conF s.name)||decide (ckT s.ty≠0)||(E.take i).any (fun x=>decide (x.name=s.name)) ||
 (conF s.name && !conF (((zJd s.ty).2.map Nd.text).headD []))
def zSp(E:List Sg): Nat->List Sg->Bool
 |_,[]=>true
 |i,s::r=>!envB E i s&&zSp E (i+1) r
def envF(E:List Sg): Bool:=zSp E 0 E
mutual
def Tr.val: Tr->Bool
 | .mk x ks=>if 1<=x.kind/\x.kind<=5 then true else if x.kind=6 then(match ks with
  |k::r=>(decide (k.hd.kind=4)||decide (k.hd.kind=6))&&(k.val&&valL r)
  |[]=>false)else false
def valL: List Tr->Bool
 |[]=>true
 |t::_=>t.val
end
end Go.Proofs.YtjcgiiedaccjpaaGreatDoor
namespace Go.Proofs.YtjcgiiedaccjpaaGreatDoor
open _root_.Go.Proofs.Tryz
open Go.Sx
attribute [local irreducible] zAQ Program.underlying Ylds zBJ alex zBk zBZ awp zAX FCall zBo zBR zBX zBb zBD zBd zBj zBn zBu zBP VCall
theorem zcb(f:FuncId)(c c2:D)(p:Sg->Bool)(hbf:zAQ prog f=true)(hp:∀u,zBX prog f [.d (Sg.av u),.ptr 0 0] [.box [.d c,.d c2]] (bl (p u)))(E:List Sg)(hE:E.length<=2000000):
  zBX prog 113 [.d (sigs E),.clo f [0]] [.box [.d c,.d c2]] (i64 (idxP p E)):=by
 refine zDS func113 rfl ntmps113 results113 rfl ?_
 intro wb St0
 repeat' first|apply en_n|apply zAE|apply zAA|apply zAD|apply w0|refine ayA rfl ?_|apply zAH
 refine zAt (α:=Nat) (fun i=>i<=E.length/\∀(j:Nat) u,j<i->E[j]?=some u->p u=false) (fun i=>[(0,.d (sigs E)),(1,.clo f [0]),(7,.d (i64 (E.length:Int))),(8,.d (i64 (i:Int)))]) (fun _=>[.box [.d c,.d c2]]) (fun i=>E.length-i) 0 ⟨qAO _,fun j u h=>by omega⟩
  (zAV (Le_cons rfl (Le_cons rfl (Le_d rfl rfl (Le_all rfl)))) (zAT rfl rfl zAW) rfl rfl) ?_
 rintro i ⟨hi1,hi2⟩
 repeat' first|apply en_n|apply zAE|apply zAA|apply zAD|apply w0|exact qcA [0] [0] hbf (hp v)|(apply aI (hd:=rfl);(first|exact zAr rfl|exact Co_bb rfl rfl rfl|exact Co_nn rfl);exact rfl;(with_reducible exact zJP);exact fun _=>rfl;rotate_left;intro v hv;rotate_right)|refine ayA rfl ?_|apply ay (hd:=rfl)|exact zCt rfl rfl|refine zBN rfl rfl ?_|(apply zA3;exact rfl;all_goals intro hb)|(apply zCd;exact rfl;all_goals intro hb)|apply zAH|apply zAM|apply zAN|apply zAz|apply en_r|apply en_e|apply eb_n|apply eb_r|apply eb_e|apply zAO|refine res1 rfl ?_
 ·omega
 ·exact zCm (zGE hi2 hv (by simpa using hb)).symm
 ·omega
 ·refine⟨i+1,⟨by omega,fun j u hj hu=>?_⟩,by omega,zAV (Le_all rfl) (zAT rfl rfl zAW) rfl rfl⟩
  rcases qAF j i with h1|h1
  ·exact hi2 j u h1 hu
  ·have hv':E[i]?=some v:=hv
   rw[show j=i by omega,hv']at hu;injection hu with hu;subst hu;simpa using hb
 ·exact zCm (zD3 fun j u hu=>hi2 j u (by have:=(qAA.1 hu).1;omega) hu).symm
theorem zST(s u:Sg): zBX prog 38 [.d u.av,.ptr 0 0] [.box (s.cells.map .d)] (bl (decide (u.name=s.name))):=by
 refine zDS func38 rfl ntmps38 results38 rfl ?_
 intro wb St0
 repeat' first|apply en_n|apply zAE|apply zAA|apply zAD|apply w0|exact zHt rfl rfl|refine aBoA ?_|refine ayA rfl ?_|apply ay (hd:=rfl)|apply zAN|apply zAO|refine res1 rfl ?_
 rfl
theorem zRr{α:Type}{p:α->Bool}{L:List α}: (idxP p L>=0)↔L.any p=true:=by
 constructor
 ·intro h
  unfold idxP at h;split at h
  ·rename_i i hi
   obtain⟨h1,h2,_⟩:=qA2.1 hi
   exact qBK.2 ⟨_,qBc h1,h2⟩
  ·omega
 ·intro h
  obtain⟨x,hx,hpx⟩:=qBK.1 h
  unfold idxP;split
  ·omega
  ·rename_i hn;rw[qBB]at hn;rw[hn x hx]at hpx;cases hpx
theorem zch(f:FuncId)(c c2:D)(p:Sg->Bool)(hbf:zAQ prog f=true)(hp:∀u,zBX prog f [.d (Sg.av u),.ptr 0 0] [.box [.d c,.d c2]] (bl (p u)))(E:List Sg)(hE:E.length<=2000000):
  zBX prog 42 [.d (sigs E),.clo f [0]] [.box [.d c,.d c2]] (bl (E.any p)):=by
 refine zDS func42 rfl ntmps42 results42 rfl ?_
 intro wb St0
 repeat' first|apply en_n|apply zAE|apply zAA|apply zAD|apply w0|exact qcA [0] [] zbg (zcb f c c2 p hbf hp E hE)|refine ayA rfl ?_|apply ay (hd:=rfl)|exact zFU rfl rfl|apply zAN|apply zAO|refine res1 rfl ?_
 refine zCX ?_
 by_cases h:E.any p=true
 ·rw[h];simpa using zRr.2 h
 ·rw[Bool.eq_false_iff.2 h];simpa using fun c=>h (zRr.1 c)
end Go.Proofs.YtjcgiiedaccjpaaGreatDoor
namespace Go.Proofs.YtjcgiiedaccjpaaGreatDoor
open Go.Sx
attribute [local irreducible] zAQ Program.underlying Ylds zBJ alex zBk zBZ awp zAX FCall zBo zBR zBX zBb zBD zBd zBj zBn zBu zBP VCall
open _root_.Go.Proofs.Tryz
theorem zRw(L:List Nd)(hL:L.length<=2000000)(hne:L≠[]): zAX prog 114 [zAu L] (zAu L):=by
 refine zAc func114 rfl ntmps114 results114 rfl ?_
 intro wb St0
 repeat' first|apply en_n|apply zAE|apply zAA|apply zAD|apply w0|(apply zYU;exact rfl;exact rfl;exact(by simpa using hne);with_reducible exact zA5)|(apply zNO (hd:=rfl) (hro:=rfl);exact zCn;exact zAe;exact zFn;exact rfl)|(apply aApp (hd:=rfl) (hro:=rfl);exact rfl;exact rfl;(first|exact zAr rfl|exact Co_bb rfl rfl rfl|exact Co_nn rfl);(first|exact rfl|(simp;done));exact rfl;(with_reducible exact zCn);(with_reducible exact zAe);(with_reducible exact zHv);(with_reducible exact zGM);(first|exact zCe (fun _=>rfl)|exact zDP rfl))|refine ayA rfl ?_|apply ay (hd:=rfl)|refine zAK rfl ?_|apply zAM|apply zAN|apply zAO
 ·simp only[qAE];omega
 ·exact⟨_,_,_,rfl,by simp,by rw[qAe sI];rfl⟩
theorem zYW(t:List Nd)(hL:t.length<=2000000)(hc:ckT t≠0): zAX prog 43 [zAu t] (.tup [.slice [],.slice []]):=by
 refine zAc func43 rfl ntmps43 results43 rfl ?_
 intro wb St0
 repeat' first|apply en_n|apply zAE|apply zAA|apply zAD|apply w0|(apply zAP (hb:=zG1) (hc:=zI5 t hL);exact zAL rfl zAF)|refine ayA rfl ?_|refine ayQ rfl ?_|apply ay (hd:=rfl)|refine zAJ rfl ?_|apply zAN|apply en_r|apply zAO
 exact⟨Or.inl rfl,Or.inl rfl⟩
theorem zYV(T:Tr)(hw:T.wf)(hr:∀n∈T.fl,zCU n=true)(hL:T.sz<=4000): zAX prog 43 [zAu T.fl] (.tup [zC0 (zCs T).1,zAu (zCs T).2]):=by
 have hck:ckT T.fl=0:=by
  rw[ckT,if_pos]
  simp only[okT,qAR,decide_eq_true_eq,qAI]
  exact⟨⟨by rw[Tr.fl_len];exact hL,zHV.2 ⟨T,rfl,hw⟩⟩,hr⟩
 have hc:=zI5 T.fl (by rw[Tr.fl_len];omega)
 rw[hck]at hc
 refine zAc func43 rfl ntmps43 results43 rfl ?_
 intro wb St0
 repeat' first|apply en_n|apply zAE|apply zAA|apply zAD|apply w0|(apply zAP (hb:=zG1) (hc:=hc);exact zAL rfl zAF)|refine ayA rfl ?_|refine ayQ rfl ?_|apply ay (hd:=rfl)|refine zAK rfl ?_|apply zAH|apply zAM
 refine zEd 4 false 23 1 rfl rfl ?_
 refine zAt (α:=List (List Nd)×Tr) (fun p=>p.2.wf/\(∀n∈p.2.fl,zCU n=true)/\p.2.sz<=4000/\p.1++(zCs p.2).1=(zCs T).1/\(zCs p.2).2=(zCs T).2) (fun p=>[(0,.d (zAu p.2.fl)),(4,.buf 0 (p.1.map zAu).length)]) (fun p=>[.buf false 23 1 (p.1.map zAu)]) (fun p=>p.2.sz) ([],T) ⟨hw,hr,hL,rfl,rfl⟩
  (zAV (Le_cons rfl (zCR rfl rfl Le_nil)) (zBa rfl rfl rfl zAW) rfl rfl) ?_
 rintro⟨A,t⟩ ⟨h1,h2,h3,h4,h5⟩
 dsimp only at h1 h2 h3 h4 h5 ⊢
 match t,h1,h2,h3,h4,h5 with
 | .mk x ks,h1,h2,h3,h4,h5 =>
  have hx:=(At.top h1).here
  by_cases ht:x.text=arrT
  ·obtain⟨a,b,rfl⟩:=zRl h2 h1 ht
   rw[zHZ ht]at h4 h5
   dsimp only at h4 h5
   have hat:=At.top h1
   have hk0:=hat.kids_get (i:=0) sI
   have hk1:=hat.kids_get (i:=1) sI
   have e0:kidAt 0 [a,b] 0=1:=zCu 0 _
   have e1:kidAt 0 [a,b] 1=1+a.sz:=by rw[zDt (k:=a) rfl,e0]
   rw[e0]at hk0
   rw[e1]at hk1
   have hkid:=zC9 (Tr.mk x [a,b]).fl 0 (by rw[Tr.fl_len];omega)
   have hfa:(Tr.mk x [a,b]).fl=x::(a.fl++b.fl):=by rw[Tr.fl,flL,flL,flL,qA0]
   have hla:=Tr.fl_len a
   have hXa:((Tr.mk x [a,b]).fl.take (((1+a.sz:Nat):Int)).toNat).drop (((1:Nat):Int)).toNat=a.fl:=by
    rw[hfa,qAT,qAT,Nat.add_comm,qBi,List.drop_succ_cons,qAp,<-hla,List.take_left]
   have hXb:(Tr.mk x [a,b]).fl.drop (((1+a.sz:Nat):Int)).toNat=b.fl:=by
    rw[hfa,qAT,Nat.add_comm,List.drop_succ_cons,<-hla,List.drop_left]
   have hsz:(Tr.mk x [a,b]).sz=a.sz+b.sz+1:=by rw[Tr.sz,szL,szL,szL];omega
   have hpa:=zDy a
   have hpb:=zDy b
   have hcl:=zRw a.fl oM (fun h=>by rw[h]at hla;simp at hla;omega)
   rw[<-hXa]at hcl
   have hw2:b.wf:=(zGp.1 (by rw[Tr.wf]at h1;exact h1.2)) b sI
   have hr2:=(zM1 h2).2 b sI
   have hpl:=(zLu _ T (qAN _)).1
   have hAl:A.length<=4000:=by
    have:=congrArg List.length h4
    rw[qAH]at this;omega
   have h0:(0:Int)<((Tr.mk x [a,b]).fl.length:Int):=by rw[Tr.fl_len];omega
   have hl:((Tr.mk x [a,b]).fl.length:Int)=((a.sz+b.sz+1:Nat):Int):=by rw[Tr.fl_len,hsz]
   have hfin:∃y:List (List Nd)×Tr,(y.2.wf/\(∀n∈y.2.fl,zCU n=true)/\y.2.sz<=4000/\y.1++(zCs y.2).1=(zCs T).1/\(zCs y.2).2=(zCs T).2)/\y.2.sz<(Tr.mk x [a,b]).sz/\y=(A++[a.fl],b):=⟨_,⟨hw2,hr2,by show b.sz<=_;omega,by rw[<-h4];simp,h5⟩,by show b.sz<_;omega,rfl⟩
   clear h1 h2 h4 h5 hat hfa hw2 hr2 hw hr hpl hck hc e0 e1 hL hsz h3
   rw[show arrT=[45,62]from rfl]at ht
   generalize (Tr.mk x [a,b]).fl=t at *
   generalize zB3 t ((0:Nat):Int)=KK at *
   have hkid:zAX prog 46 [zAu t,i64 0] (zBq KK):=hkid
   skip
   repeat' first|apply en_n|apply zAE|apply zAA|apply zAD|apply w0|(apply zDM;exact rfl;exact rfl;assumption)|exact ycA zC7 hkid|exact ycA zRG hcl|(refine zEN kR ?_;apply aApp (id:=0) (hd:=rfl) (hro:=rfl);exact rfl;exact rfl;(first|exact zAr rfl|exact Co_bb rfl rfl rfl|exact Co_nn rfl);(first|exact rfl|exact sI);exact rfl;(with_reducible exact zE3);(with_reducible exact zB7);(with_reducible exact zWU);(with_reducible exact zVt);(first|exact zCe (fun _=>rfl)|exact zDP rfl))|refine aJA ?_|refine ayA rfl ?_|refine ayL rfl ?_|apply ay (hd:=rfl)|(apply Y_sl;(first|exact zAr rfl|exact Co_bb rfl rfl rfl|exact Co_nn rfl);(with_reducible exact zAe);exact rfl;exact rfl;exact fun _=>rfl)|(apply zY6;(first|exact zAr rfl|exact Co_bb rfl rfl rfl|exact Co_nn rfl);(with_reducible exact zAe);exact rfl;exact fun _=>rfl)|refine zAJ rfl ?_|apply zAH|apply zAM|refine awDA ?_|apply eb_n
   ·omega
   ·simp only[qAE,qAK,qAb];omega
   ·omega
   ·obtain⟨y,hy1,hy2,rfl⟩:=hfin
    exact⟨_,hy1,hy2,zAV (Le_d rfl (by rw[hXb];rfl) (zCR rfl sI Le_nil)) (zBa rfl rfl (by rw[hXa,qAZ];rfl) zAW) rfl rfl⟩
  ·rw[zIb ht]at h4 h5
   rw[qA0]at h4
   dsimp only at h4 h5
   have hfl:(Tr.mk x ks).fl≠[]:=by rw[Tr.fl];simp
   have hlen:(Tr.mk x ks).fl.length<=2000000:=by rw[Tr.fl_len];omega
   have hcl:=zRw _ hlen hfl
   have h0:(0:Int)<((Tr.mk x ks).fl.length:Int):=by rw[Tr.fl_len];have:=zDy (Tr.mk x ks);omega
   clear h1 h2 h3 hfl
   rw[<-h4,<-h5]
   rw[show arrT=[45,62]from rfl]at ht
   generalize (Tr.mk x ks).fl=t at *
   skip
   repeat' first|apply en_n|apply zAE|apply zAA|apply zAD|apply w0|(apply zDV;exact rfl;exact rfl;assumption)|(refine zAP zRG hcl (CoLA rfl))|(apply aJ (hd:=rfl);(first|exact zAr rfl|exact Co_bb rfl rfl rfl|exact Co_nn rfl);exact rfl;(with_reducible exact zAe);assumption;omega;exact fun _=>rfl)|apply ay (hd:=rfl)|exact zAC rfl|exact zAB rfl|exact zAs rfl fn_1|exact zAR rfl zAf|exact zBB rfl|exact zAp rfl|refine zAK rfl ?_|apply zAN|apply zAz|apply en_e|apply eb_e|apply zAO|(apply zbN;exact rfl;exact rfl;(first|exact rfl|(simp;done));exact rfl)
   all_goals rfl
theorem zWN(t:List Nd)(hL:t.length<=2000000): zAX prog 43 [zAu t] (.tup [zC0 (zJd t).1,zAu (zJd t).2]):=by
 by_cases hc:ckT t=0
 ·obtain⟨T,rfl,hw,hr,hs⟩:=zVq hc
  rw[zKj hw hc];exact zYV T hw hr hs
 ·rw[zJd,if_neg hc];exact zYW t hL hc
end Go.Proofs.YtjcgiiedaccjpaaGreatDoor
namespace Go.Proofs.YtjcgiiedaccjpaaGreatDoor
open _root_.Go.Proofs.Tryz
open Go.Sx
theorem zSo{E:List Sg}{i:Nat}{s:Sg}(h:E[i]?=some s): zSp E i (E.drop i)=(!envB E i s&&zSp E (i+1) (E.drop (i+1))):=by
 obtain⟨hi,rfl⟩:=qAA.1 h
 rw[qAW hi,zSp]
theorem zW1{t:List Nd}(h:ckT t=0): ∃x r,(zJd t).2=x::r:=by
 obtain⟨T,rfl,hw,hr,hs⟩:=zVq h
 rw[zKj hw h]
 have key:∀(m:Nat) (T:Tr),T.sz<=m->∃x r,(zCs T).2=x::r:=by
  intro m
  induction m with
  |zero=>intro T h;have:=zDy T;omega
  |succ m ih =>
   intro T h
   match T,h with
   | .mk x [a,b],h =>
    by_cases hx:x.text=arrT
    ·rw[zHZ hx];exact ih b (by rw[Tr.sz,szL,szL,szL]at h;omega)
    ·rw[zIb hx];exact⟨x,_,by rw[Tr.fl]⟩
   | .mk x [],h=>exact⟨x,_,by rw[zCs,Tr.fl];rintro _ _ _ h;cases h⟩
   | .mk x [_],h=>exact⟨x,_,by rw[zCs,Tr.fl];rintro _ _ _ h;cases h⟩
   | .mk x (_::_::_::_),h=>exact⟨x,_,by rw[zCs,Tr.fl];rintro _ _ _ h;cases h⟩
 exact key _ T (qAN _)
attribute [local irreducible] zAQ Program.underlying Ylds zBJ alex zBk zBZ awp zAX FCall zBo zBR zBX zBb zBD zBd zBj zBn zBu zBP VCall
theorem zUg(E:List Sg)(hE:E.length<=1000000)(hT:∀s∈E,s.ty.length<=1000000): zAX prog 17 [sigs E] (i64 (if envF E then 0 else 110)):=by
 refine zAc func17 rfl ntmps17 results17 rfl ?_
 intro wb St0
 repeat' first|apply en_n|apply zAE|apply zAA|apply zAD|apply w0|refine ayA rfl ?_|apply zAH
 refine zAt (α:=Nat) (fun i=>i<=E.length/\envF E=zSp E i (E.drop i)) (fun i=>[(0,.d (sigs E)),(8,.d (sigs E)),(9,.d (i64 (E.length:Int))),(10,.d (i64 (i:Int)))]) (fun _=>[]) (fun i=>E.length-i) 0 ⟨qAO _,rfl⟩
  (zAV (Le_cons rfl (Le_cons rfl (Le_d rfl rfl (Le_all rfl)))) zAW rfl rfl) ?_
 rintro i ⟨hi,he⟩
 rcases qAF i E.length with hlt|hge
 ·have hs:E[i]?=some E[i]:=qAB hlt
  have hm:=hT _ (qBc hlt)
  generalize E[i]=s at *
  have hli:(i:Int)<(E.length:Int):=by omega
  rw[zSo hs]at he
  have hck:=zI5 s.ty oM
  have hcf:=zch 38 (str s.name) (zAu s.ty) (fun u=>decide (u.name=s.name)) zSU (zST s) ((E.take ((i:Nat):Int).toNat)) (by rw[qAU];omega)
  have hpf:=zWN s.ty oM
  have hnm:=zQp s.name
  have hcn:=zPh s.name
  have hbB:envB E i s=((!zGw s.name && !conF s.name)||decide (ckT s.ty≠0)||(E.take ((i:Nat):Int).toNat).any (fun x=>decide (x.name=s.name))||(conF s.name && !conF (((zJd s.ty).2.map Nd.text).headD []))):=rfl
  by_cases hc:ckT s.ty=0
  ·obtain⟨y,r,hy⟩:=zW1 hc
   rw[hy]at hbB hpf
   simp only[qA1,List.headD_cons]at hbB
   have hcn2:=zPh y.text
   rw[hc]at hbB hck
   generalize hna:zGw s.name=na at *
   generalize hco:conF s.name=co at *
   generalize hcy:conF y.text=cy at *
   generalize hcA:((E.take ((i:Nat):Int).toNat).any fun x=>decide (x.name=s.name))=cA at *
   have hy0:(y::r)[0]?=some y:=rfl
   clear hy hna hco hcy hcA
   cases na <;> cases co <;> cases cy <;> cases cA
   all_goals
    rw[hbB]at he
    simp only[Bool.not_false,Bool.not_true,Bool.and_true,qA5,Bool.and_false,qBU,Bool.or_true,Bool.or_false,ne_eq,not_true,decide_false]at he
   repeat' first|apply en_n|apply zAE|apply zAA|apply zAD|apply w0|refine k1u (hd:=rfl) rfl rfl ?_|refine k0u (hd:=rfl) rfl rfl ?_|exact ycA zMq hnm|exact ycA zMr hcn|exact ycA zMr hcn2|exact ycA zG1 hck|exact ycA zXU hpf|exact qcA [0] [] zbi (hcf)|refine aJA ?_|refine aAlA ?_|refine ayA rfl ?_|refine ayQ rfl ?_|apply ay (hd:=rfl)|refine zBN rfl rfl ?_|exact zFM rfl|(apply zPH;(first|exact zAr rfl|exact Co_bb rfl rfl rfl|exact Co_nn rfl);(with_reducible exact zJP);exact rfl;exact fun _=>rfl)|exact zQI rfl|refine w1 rfl rfl ?_|(refine w0' ?_)|refine aStA ?_|refine zAJ rfl ?_|refine zAK rfl ?_|apply zAH|apply zAM|apply zAN|apply en_r|apply eb_n|apply eb_r|apply zAO|refine res1 rfl ?_
   all_goals first
    |(rw[he];rfl)
    |exact⟨i+1,⟨by omega,he⟩,by omega,zAV (Le_all rfl) zAW rfl rfl⟩
    |omega
  ·have hbt:envB E i s=true:=by rw[hbB];simp[hc]
   rw[hbt]at he
   simp only[Bool.not_true,qBU]at he
   rw[he]
   generalize zGw s.name=na at *
   generalize conF s.name=co at *
   clear hbB
   cases na <;> cases co
   all_goals skip
   repeat' first|apply en_n|apply zAE|apply zAA|apply zAD|apply w0|refine k1u (hd:=rfl) rfl rfl ?_|refine k0u (hd:=rfl) rfl rfl ?_|exact zA9 rfl rfl|exact zCC rfl rfl|(refine zAP zMq hnm (CoLA rfl))|(refine zAP zMr hcn (CoLA rfl))|(refine zAP zG1 hck (CoLA rfl))|(apply aJ (hd:=rfl);(first|exact zAr rfl|exact Co_bb rfl rfl rfl|exact Co_nn rfl);exact rfl;(with_reducible exact zJP);assumption;omega;exact fun _=>rfl)|(apply zA4 (hd:=rfl) (hro:=rfl);(with_reducible exact zYa))|apply ay (hd:=rfl)|exact zAC rfl|exact zAB rfl|exact zAl rfl zNp rfl|exact zBY rfl|exact zAj rfl rfl|exact zAi rfl rfl|exact zFM rfl|(apply zAI;exact rfl;(with_reducible first|exact fg_0|exact fg_1))|(apply zAG;exact rfl;(with_reducible first|exact zAx|exact zAf);exact rfl;exact rfl)|exact zQI rfl|refine w1 rfl rfl ?_|(refine w0' ?_)|(apply zAq;exact rfl;exact rfl;exact rfl;(with_reducible exact zNp);exact rfl;exact rfl;exact rfl;exact rfl)|refine zAJ rfl ?_|apply zAH|apply zAM|apply zAN|apply en_r|apply eb_r|apply zAO|refine res1 rfl ?_
   all_goals rfl
 ·have hli:¬(i:Int)<(E.length:Int):=by omega
  have:envF E=true:=by rw[he,qAa hge];rfl
  rw[this]
  repeat' first|apply en_n|apply zAE|apply zAA|apply zAD|apply w0|exact zBr rfl rfl|apply ay (hd:=rfl)|exact zAB rfl|refine zAK rfl ?_|apply zAN|apply zAz|apply en_e|apply eb_e|apply zAO|refine res1 rfl ?_
  all_goals rfl
end Go.Proofs.YtjcgiiedaccjpaaGreatDoor
namespace Go.Proofs.YtjcgiiedaccjpaaGreatDoor
open _root_.Go.Proofs.Tryz
open Go.Sx Go.Ev
def bisG: List Sg:=(List.range 14).map fun p=>⟨zCS p,zIE (bRow p).1 (bRow p).2⟩
theorem zb9: zSB 14=sigs bisG:=by
 unfold zSB sigs bisG
 rw[qBo];rfl
theorem zX8: envF bisG=true:=by decide +kernel
theorem zVv: zAX prog 17 [zSB 14] (i64 0):=by
 have:=zUg bisG dC dK
 rwa [zX8,if_pos rfl,<-zb9]at this
def vT(s:List UInt8): Tr:=.mk ⟨3,s,0,0⟩ []
theorem zbB(s:List UInt8): (vT s).wf:=by simp[vT,Tr.wf,wfL]
theorem vT_e: ∀p,p<14->zG5 [] (vT (zCS p))=0:=by decide +kernel
theorem vT_c: ∀p,p<14->chkT (vT (zCS p)) false=0:=by decide +kernel
theorem vT_n: ∀p,p<14->zE7 [] (vT (zCS p))=true:=by decide +kernel
theorem vT_s: ∀p,p<14->Go.Ev.seen shwW (⟨(vT (zCS p)).fl,[],1⟩:Rn).pg=⟨1,[⟨54,[],0,0⟩],0,[],1⟩
 |0,_|1,_|2,_|3,_|4,_|5,_|6,_|7,_|8,_|9,_|10,_|11,_|12,_|13,_=>by kernel_rfl
 |p+14,h=>absurd h oM
theorem vRun{p:Nat}(h:p<14): zAX prog 8 [.slice [],.slice [ndA 3 (zCS p) 0 0],i64 1] (.tup [.agg [i64 1,.slice [ndA 54 [] 0 0],i64 0,.slice [],i64 1],i64 0]):=by
 have hr:Runs [] (vT (zCS p)).fl:=⟨d0,by show 1<=4000;decide,vT (zCS p),rfl,zbB _,vT_c p h,vT_n p h⟩
 obtain⟨h1,h2⟩:=hr.ok 1 dC
 have hc:=zIu d0 (vT (zCS p)) (zbB _) (by show 1<=1000000;decide) (by have:=zMM (vT (zCS p));have:(vT (zCS p)).sz=1:=rfl;omega)
 rw[vT_e p h]at hc
 have:=zNJ h1 h2 hc
 rw[vT_s p h]at this;exact this
attribute [local irreducible] zAQ Program.underlying Ylds zBJ alex zBk zBZ awp zAX FCall zBo zBR zBX zEg zBb zBD zBd zBj zBn zBu zEL zBP VCall
theorem zOr: zAX prog 5 [] (bl true):=by
 have hA:=zOs
 have hB:=zLU
 have hI:=zVv
 have hN:=zNU
 have hp:(pnames.length:Int)=14:=rfl
 have hIn:∀p,p<14->zAX prog 18 [strs pnames,str (zCS p)] (bl true):=fun p h=>by
  have:=zNl pnames (zCS p) dC
  rwa [decide_eq_true (zQv p h)]at this
 have hW:zAX prog 20 [zAu (zIE (bRow 0).1 (bRow 0).2)] (bl true):=by
  have:=zIY (zIE (bRow 0).1 (bRow 0).2) dC
  rwa [show zDA (zIE (bRow 0).1 (bRow 0).2)=true by decide +kernel]at this
 have hb:∀i,i<14->((List.range 14).map sigD)[i]?=some (.agg [str (zCS i),zAu (zIE (bRow i).1 (bRow i).2)]):=fun i hi=>by
  rw[qAJ,List.getElem?_range hi];rfl
 unfold zSB at hB hI
 have hl:((List.range 14).map sigD).length=14:=by rw[qAE,qA6]
 generalize (List.range 14).map sigD=bs at *
 have hl':(bs.length:Int)=14:=by omega
 have hb0:=hb 0 dC
 generalize zIE (bRow 0).1 (bRow 0).2=w0t at *
 generalize pnames=pn at *
 clear hl
 refine zAc func5 rfl ntmps5 results5 rfl ?_
 intro wb St0
 repeat' first|apply en_n|apply zAE|apply zAA|apply zAD|apply w0|(refine zAP zIm hA zAF)|(refine zAP zK1 hB zAF)|exact ycA zUp hI|refine ayA rfl ?_|refine ayQ rfl ?_|apply ay (hd:=rfl)|refine w1 rfl rfl ?_|refine zAK rfl ?_|apply zAH|apply zAM
 refine zAt (α:=Nat) (fun i=>i<=14) (fun i=>[(1,.d (.slice bs)),(2,.d (i64 (i:Int)))]) (fun _=>[]) (fun i=>14-i) 0 (qAO _)
  (zAV (Le_cons rfl (Le_d rfl rfl Le_nil)) zAW rfl rfl) ?_
 intro i hi
 rcases qAF i 14 with hlt|hge
 case inr =>
  have hlt':¬(i:Int)<(bs.length:Int):=by omega
  skip
  repeat' first|apply en_n|apply zAE|apply zAA|apply zAD|apply w0|(refine zAP zJu hN zAF)|(apply zBG;exact rfl;exact rfl;(with_reducible exact zJP);omega;exact hb0;exact rfl;exact dC)|exact ycA zFv hW|refine ayA rfl ?_|refine ayQ rfl ?_|apply ay (hd:=rfl)|exact zCo rfl zNC|refine w1 rfl rfl ?_|refine zAK rfl ?_|apply zAN|apply zAz|apply en_e|apply eb_e|apply zAO|refine res1 rfl ?_
  all_goals first|omega|rfl|skip
 have hlt':(i:Int)<(bs.length:Int):=by omega
 have hbi:bs[((i:Nat):Int).toNat]?=some (.agg [str (zCS i),zAu (zIE (bRow i).1 (bRow i).2)]):=by rw[qAT];exact hb i hlt
 have hR:=vRun hlt
 have hIi:=hIn i hlt
 clear hb hb0 hIn hW hI hB
 skip
 repeat' first|(refine ay (hd:=rfl) (zBG rfl rfl zAe dC rfl rfl dC) ?_)|apply en_n|apply zAE|apply zAA|apply zAD|apply w0|(apply zBG;exact rfl;exact rfl;(with_reducible exact zJP);omega;exact hbi;exact rfl;exact dC)|(refine zAo (cs:=[i64 3,str (zCS i),i64 0,i64 0]) zDh zA2 (PD_d rfl rfl (PD_d rfl rfl zBE)) rfl)|(refine zAP zK0 hR (zEo rfl (CoLA rfl)))|refine aStA ?_|(refine zAP zJu hN zAF)|exact ycA zPS hIi|refine aAlA ?_|refine ayA rfl ?_|refine ayQ rfl ?_|refine ayL rfl ?_|apply ay (hd:=rfl)|(apply zCo;exact rfl;(with_reducible first|exact zNC|exact zA5))|exact zEp rfl rfl|refine zBN rfl rfl ?_|refine w1 rfl rfl ?_|(refine w0' ?_)|refine zAJ rfl ?_|refine zAK rfl ?_|apply zAH|apply zAM|refine awDA ?_|apply eb_n
 all_goals first|omega|skip
 exact⟨i+1,hlt,by omega,zAV (Le_all rfl) zAW rfl rfl⟩

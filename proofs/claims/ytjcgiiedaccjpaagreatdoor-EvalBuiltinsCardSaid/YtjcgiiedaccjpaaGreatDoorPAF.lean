/- Parts. -/
import Derived.Laws.StructEq
import Derived.ChangeKeysEq
import Derived.Test.YtjcgiiedaccjpaaGreatDoorRows
import Derived.ProofKit
import Derived.Deep.Fields
import Derived.ChangeSame
import Derived.Test.YtjcgiiedaccjpaaGreatDoorPAE
set_option maxHeartbeats 16000000
namespace Go.Proofs.YtjcgiiedaccjpaaGreatDoor
open _root_.Go.Proofs.Tryz
open Go.Sx
attribute [local irreducible] Ylds zBJ alex zBk zBZ awp zAX FCall zBo zBR zBX zBb zBD zBd zBj zBn
theorem zMs: zAQ prog 44=true:=by kernel_rfl
def zDA(L:List Nd): Bool:=decide (L.length>0)&&decide (endF L 0=L.length)
theorem zKC(L:List Nd)(hL:L.length<=2000000): zAX prog 110 [zAu L] (bl (zDA L)):=by
 refine zAc func110 rfl ntmps110 results110 rfl ?_
 intro wb St0
 repeat' first|apply en_n|apply zAE|apply zAA|apply zAD|apply w0|(apply zAP (hb:=zL7) (hc:=zMS L _ hL))|refine ayA rfl ?_|apply ay (hd:=rfl)|exact zF4 rfl rfl|exact zDz rfl rfl|refine w1 rfl rfl ?_|refine k1 (hd:=rfl) rfl rfl ?_|(apply gD;exact rfl;exact rfl;all_goals intro hb)|apply zAN|apply zAO|refine res1 rfl ?_|exact zAF|refine zAL rfl ?_
 ·have h:0<L.length:=by omega
  simp[zDA,h]
 ·have h:¬0<L.length:=by omega
  simp[zDA,h]
theorem zOn{n:Nat}: ∀(r:List Nd) (o a:Int),0<=a->zF5 n r o a = -1\/a<zF5 n r o a/\zF5 n r o a<=a+r.length
 |[],_,_,_=>.inl rfl
 |x::r,o,a,ha=>by
  unfold zF5
  split
  ·exact .inl rfl
  ·split
   ·rcases zOn r (o+(x.kids-1)) (a+1) oM with h|h
    ·exact .inl h
    ·refine .inr ⟨by omega,?_⟩;simp only[qAK];omega
   ·refine .inr ⟨by omega,?_⟩;simp only[qAK];omega
theorem zHO(L:List Nd)(a:Int): endF L a = -1\/(0<=a/\a<endF L a/\endF L a<=L.length):=by
 unfold endF
 split
 ·exact .inl rfl
 ·rcases zOn (n:=L.length) (L.drop a.toNat) 1 a oM with h|h
  ·exact .inl h
  ·refine .inr ⟨by omega,h.1,?_⟩
   have h2:=h.2
   rw[qAg]at h2
   rcases qAF a.toNat L.length with h3|h3
   ·omega
   ·have h4:=h.1
    rw[qAa h3]at h4
    simp only[zF5]at h4;omega
theorem zVY(L:List Nd): ∀(m k:Nat) (p q:Int),L.length-k<=m->1<=p->1<=q->zF5 L.length (L.drop k) (p+q) k=if zF5 L.length (L.drop k) p k<0 then -1 else zF5 L.length (L.drop (zF5 L.length (L.drop k) p k).toNat) q (zF5 L.length (L.drop k) p k):=by
 intro m
 induction m with
 |zero =>
  intro k p q hm _ _
  rw[zGi oM,zGi oM];rfl
 |succ m ih =>
  intro k p q hm hp hq
  rcases qAF k L.length with hk|hk
  ·have hv:L[k]?=some L[k]:=qAB hk
   rw[zE6 hv,zE6 hv]
   by_cases hbad:L[k].kids<0\/L[k].kids>L.length
   ·rw[if_pos hbad,if_pos hbad];rfl
   ·rw[if_neg hbad,if_neg hbad]
    rw[if_pos (show p+q+(L[k].kids-1)>0 by omega)]
    by_cases h1:p+(L[k].kids-1)>0
    ·rw[if_pos h1]
     have:=ih (k+1) (p+(L[k].kids-1)) q oM oM hq
     rw[show p+q+(L[k].kids-1)=p+(L[k].kids-1)+q by omega]
     exact this
    ·rw[if_neg h1,if_neg oM]
     rw[show p+q+(L[k].kids-1)=q by omega]
     rfl
  ·rw[zGi hk,zGi hk];rfl
def seqE(L:List Nd)(a:Int): Nat->Int
 |0=>a
 |i+1=>if seqE L a i<0 then -1 else endF L (seqE L a i)
theorem zTk(L:List Nd)(k:Nat): ∀(i:Nat),seqE L k (i+1)=zF5 L.length (L.drop k) (i+1) k
 |0=>by
  have h0:¬seqE L (k:Int) 0<0:=by simp only[seqE];omega
  have h1:¬(k:Int)<0:=by omega
  unfold seqE
  rw[if_neg h0]
  show endF L (k:Int)=_
  rw[endF,if_neg h1,qAT];rfl
 |i+1=>by
  have ih:=zTk L k i
  show (if seqE L k (i+1)<0 then _ else _)=_
  rw[ih,show ((i+1:Nat):Int)+1=(i:Int)+1+1 by omega,zVY L _ k ((i:Int)+1) 1 (qAN _) oM oM]
  split
  ·rfl
  ·rename_i h;rw[endF,if_neg h]
theorem zJ6{L:List Nd}{k:Nat}{x:Nd}(h:L[k]?=some x): endF L k=if x.kids<0\/x.kids>L.length then -1 else seqE L ((k:Int)+1) x.kids.toNat:=by
 rw[endF,if_neg oM,qAT,zE6 h]
 split
 ·rfl
 ·rename_i hb
  by_cases h1:1+(x.kids-1)>0
  ·rw[if_pos h1]
   obtain⟨i,hi⟩:∃i:Nat,x.kids.toNat=i+1:=⟨x.kids.toNat-1,by omega⟩
   rw[hi]
   have:=zTk L (k+1) i
   rw[show ((k+1:Nat):Int)=(k:Int)+1 by omega]at this
   rw[this]
   congr 1
   omega
  ·rw[if_neg h1]
   have:x.kids.toNat=0:=by omega
   rw[this];rfl
theorem zIQ{L:List Nd}{a:Int}{i:Nat}(h:seqE L a i<0): ∀j,i<=j->seqE L a j<0:=by
 intro j hj
 induction j with
 |zero=>rw[show i=0 by omega]at h;exact h
 |succ j ih =>
  rcases qAF j i with h1|h1
  ·rw[show j+1=i by omega];exact h
  ·show (if seqE L a j<0 then _ else _)<0
   rw[if_pos (ih h1)];omega
theorem zFs{L:List Nd}{a:Int}{i:Nat}(h:0<=seqE L a i): seqE L a (i+1)=endF L (seqE L a i):=by
 show (if seqE L a i<0 then _ else _)=_
 rw[if_neg oM]
theorem zKT{L:List Nd}{a:Int}: ∀{i:Nat},0<=seqE L a i->a+i<=seqE L a i
 |0,_=>by simp only[seqE];omega
 |i+1,h=>by
  rcases Int.lt_or_le (seqE L a i) 0 with h1|h1
  ·have:=zIQ h1 (i+1) oM;omega
  ·have:=zKT h1
   rw[zFs h1]at h ⊢
   rcases zHO L (seqE L a i)with h2|h2 <;> omega
theorem zTj{L:List Nd}{a:Int}(ha:0<=a): ∀{i:Nat},seqE L a i<0->seqE L a i = -1
 |0,h=>by change a<0 at h;omega
 |i+1,h=>by
  change (if seqE L a i<0 then _ else _)<0 at h
  show (if seqE L a i<0 then _ else _)=_
  split
  ·rfl
  ·rename_i h1;rw[if_neg h1]at h;rcases zHO L (seqE L a i)with h2|h2 <;> omega
theorem zJ7{L:List Nd}{a:Int}(h:a<0\/(L.length:Int)<=a): endF L a = -1:=by
 rcases zHO L a with h1|h1 <;> omega
theorem zZm(L:List Nd)(hL:L.length<=2000000): ∀(m:Nat) (at_:Int),(L.length:Int)-at_<=m->zAX prog 44 [zAu L,i64 at_] (i64 (endF L at_)):=by
 intro m
 induction m with
 |zero =>
  intro at_ hm
  refine zAc func44 rfl ntmps44 results44 rfl ?_
  intro wb St0
  repeat' first|apply en_n|apply zAE|apply zAA|apply zAD|apply w0|refine aJA ?_|(apply aI (hd:=rfl);(first|exact zAr rfl|exact Co_bb rfl rfl rfl|exact Co_nn rfl);exact rfl;(with_reducible exact zAe);exact fun _=>rfl;rotate_left;intro v hv;rotate_right)|refine ayA rfl ?_|apply ay (hd:=rfl)|exact zCt rfl rfl|exact zF4 rfl rfl|exact zFU rfl rfl|refine zBN rfl rfl ?_|refine w1 rfl rfl ?_|refine k0 (hd:=rfl) rfl rfl ?_|(apply gD;exact rfl;exact rfl;all_goals intro hb)|(apply zA3;exact rfl;all_goals intro hb)|refine zAJ rfl ?_|apply zAH|apply zAM|apply zAN|apply en_r|apply zAO|refine res1 rfl ?_
  all_goals try omega
  all_goals rw[zJ7 oM]
 |succ m ih =>
  intro at_ hm
  refine zAc func44 rfl ntmps44 results44 rfl ?_
  intro wb St0
  repeat' first|apply en_n|apply zAE|apply zAA|apply zAD|apply w0|refine aJA ?_|(apply aI (hd:=rfl);(first|exact zAr rfl|exact Co_bb rfl rfl rfl|exact Co_nn rfl);exact rfl;(with_reducible exact zAe);exact fun _=>rfl;rotate_left;intro v hv;rotate_right)|refine ayA rfl ?_|apply ay (hd:=rfl)|exact zCt rfl rfl|exact zF4 rfl rfl|exact zFU rfl rfl|refine zBN rfl rfl ?_|refine w1 rfl rfl ?_|refine k0 (hd:=rfl) rfl rfl ?_|(apply gD;exact rfl;exact rfl;all_goals intro hb)|(apply zA3;exact rfl;all_goals intro hb)|refine zAJ rfl ?_|apply zAH|apply zAM|apply zAN|apply en_r|apply zAO|refine res1 rfl ?_
  all_goals try omega
  ·rw[zJ7 oM]
  ·rw[zJ7 oM]
  ·obtain⟨k,rfl⟩:=Int.eq_ofNat_of_zero_le (show 0<=at_ by omega)
   rw[zJ6 (k:=k) hv,if_pos oM]
  ·obtain⟨k,rfl⟩:=Int.eq_ofNat_of_zero_le (show 0<=at_ by omega)
   rw[zJ6 (k:=k) hv,if_pos oM]
  ·obtain⟨k,rfl⟩:=Int.eq_ofNat_of_zero_le (show 0<=at_ by omega)
   have he:=zJ6 (k:=k) hv
   rw[if_neg oM]at he
   refine zAt (α:=Nat) (fun i=>i<=v.kids.toNat/\0<=seqE L ((k:Int)+1) i) (fun i=>[(0,.d (zAu L)),(1,.d (i64 (k:Int))),(5,.d (i64 (seqE L ((k:Int)+1) i))),(6,.d (i64 (i:Int)))]) (fun _=>[]) (fun i=>v.kids.toNat-i) 0 ⟨qAO _,by simp only[seqE];omega⟩
    (zAV (Le_all rfl) zAW rfl rfl) ?_
   rintro i ⟨hi1,hi2⟩
   have hg:=zKT hi2
   repeat' first|apply en_n|apply zAE|apply zAA|apply zAD|apply w0|(apply zAP (hb:=zMs) (hc:=ih _ _))|refine aJA ?_|refine ayA rfl ?_|apply ay (hd:=rfl)|exact zCt rfl rfl|refine zBN rfl rfl ?_|(apply zA3;exact rfl;all_goals intro hb)|apply zAH|apply zAM|apply zAN|apply zAz|apply en_r|apply en_e|apply eb_n|apply eb_r|apply eb_e|apply zAO|refine res1 rfl ?_|exact zAF|refine zAL rfl ?_
   ·omega
   ·have h1:=zFs hi2
    have h2:=zTj (a:=(k:Int)+1) oM (zIQ (j:=v.kids.toNat) (show seqE L ((k:Int)+1) (i+1)<0 by omega) oM)
    rw[he,h2]
   ·omega
   ·refine⟨i+1,⟨by omega,by rw[zFs hi2];omega⟩,by omega,zAV (Le_cons rfl (Le_cons rfl (Le_d rfl ?_ (Le_all rfl)))) zAW rfl rfl⟩
    rw[zFs hi2]
   ·rw[he,show i=v.kids.toNat by omega]
theorem rEnd(L:List Nd)(at_:Int)(hL:L.length<=2000000): zAX prog 44 [zAu L,i64 at_] (i64 (endF L at_)):=zZm L hL ((L.length:Int)-at_).toNat at_ oM
theorem zIY(L:List Nd)(hL:L.length<=2000000): zAX prog 20 [zAu L] (bl (zDA L)):=by
 refine zAc func20 rfl ntmps20 results20 rfl ?_
 intro wb St0
 repeat' first|apply en_n|apply zAE|apply zAA|apply zAD|apply w0|(apply zAP (hb:=zMs) (hc:=rEnd L _ hL))|refine ayA rfl ?_|apply ay (hd:=rfl)|exact zF4 rfl rfl|exact zDz rfl rfl|refine w1 rfl rfl ?_|refine k1 (hd:=rfl) rfl rfl ?_|(apply gD;exact rfl;exact rfl;all_goals intro hb)|apply zAN|apply zAO|refine res1 rfl ?_|exact zAF|refine zAL rfl ?_
 ·have h:0<L.length:=by omega
  simp[zDA,h]
 ·have h:¬0<L.length:=by omega
  simp[zDA,h]
def zSQ(L:List Nd)(a:Int): Nat:=match L[a.toNat]? with
 |some x=>x.kids.toNat
 |none=>0
def zB3(L:List Nd)(a:Int): List Int:=if endF L a<0 then[]else(List.range (zSQ L a)).map (seqE L (a+1))
theorem kid_at{L:List Nd}{a:Int}(h:¬endF L a<0): ∃(k:Nat) (x:Nd),a=k/\L[k]?=some x/\0<=x.kids/\x.kids<=L.length/\endF L a=seqE L (a+1) x.kids.toNat/\zSQ L a=x.kids.toNat/\zB3 L a=(List.range x.kids.toNat).map (seqE L (a+1)):=by
 have hb:=zHO L a
 obtain⟨k,rfl⟩:=Int.eq_ofNat_of_zero_le (show 0<=a by omega)
 have hk:k<L.length:=by omega
 have hv:L[k]?=some L[k]:=qAB hk
 have he:=zJ6 hv
 have hg:¬(L[k].kids<0\/L[k].kids>L.length):=fun h0=>by rw[if_pos h0]at he;omega
 rw[if_neg hg]at he
 have hkn:zSQ L (k:Int)=L[k].kids.toNat:=by unfold zSQ;rw[qAT,hv]
 exact⟨k,L[k],rfl,hv,by omega,by omega,he,hkn,by rw[zB3,if_neg h,hkn]⟩
theorem zOQ(f:Nat->Int)(i:Nat): ((List.range i).map f).map ival++[i64 (f i)]=((List.range (i+1)).map f).map ival:=by
 rw[List.range_succ,qAZ,qAZ];rfl
theorem zC9(L:List Nd)(at_:Int)(hL:L.length<=2000000): zAX prog 46 [zAu L,i64 at_] (zBq (zB3 L at_)):=by
 refine zAc func46 rfl ntmps46 results46 rfl ?_
 intro wb St0
 repeat' first|apply en_n|apply zAE|apply zAA|apply zAD|apply w0|(apply zAP (hb:=zL7) (hc:=zMS L _ hL))|(apply aI (hd:=rfl);(first|exact zAr rfl|exact Co_bb rfl rfl rfl|exact Co_nn rfl);exact rfl;(with_reducible exact zAe);exact fun _=>rfl;rotate_left;intro v hv;rotate_right)|refine ayA rfl ?_|apply ay (hd:=rfl)|exact zCt rfl rfl|refine zBN rfl rfl ?_|(apply zA3;exact rfl;all_goals intro hb)|apply zAH|apply zAM|apply zAN|apply en_r|apply zAO|refine zZh rfl ?_|exact zAF|refine zAL rfl ?_
 ·rw[zB3,if_pos hb];rfl
 ·have:=zHO L at_;omega
 ·have:=zHO L at_;omega
 ·obtain⟨k,x,hak,hx,h0,h1,he,hn,hf⟩:=kid_at hb
  subst hak
  obtain rfl:v=x:=by rw[qAT]at hv;rw[hx]at hv;exact(qBR hv).symm
  refine zEd 5 false 3 1 rfl rfl ?_
  refine zAt (α:=Nat) (fun i=>i<=v.kids.toNat/\0<=seqE L ((k:Int)+1) i) (fun i=>[(0,.d (zAu L)),(1,.d (i64 (seqE L ((k:Int)+1) i))),(5,.buf 0 (((List.range i).map (seqE L ((k:Int)+1))).map ival).length),(6,.d (i64 v.kids))])
   (fun i=>[.buf false 3 1 (((List.range i).map (seqE L ((k:Int)+1))).map ival)]) (fun i=>v.kids.toNat-i) 0 ⟨qAO _,by simp only[seqE];omega⟩
   (zAV (Le_cons rfl (Le_cons rfl (zCR rfl rfl (Le_all rfl)))) (zAT rfl rfl zAW) rfl rfl) ?_
  rintro i ⟨hi1,hi2⟩
  have hg:=zKT hi2
  repeat' first|apply en_n|apply zAE|apply zAA|apply zAD|apply w0|(apply zAP (hb:=zL7) (hc:=zMS L _ hL))|(apply aApp (hd:=rfl) (hro:=rfl);exact rfl;exact rfl;(first|exact zAr rfl|exact Co_bb rfl rfl rfl|exact Co_nn rfl);(first|exact rfl|(simp;done));exact rfl;(with_reducible exact zEP);(with_reducible exact zBK);(with_reducible exact zNW);(with_reducible exact zLJ);(first|exact zCe (fun _=>rfl)|exact zDP rfl))|refine ayA rfl ?_|refine ayL rfl ?_|apply ay (hd:=rfl)|exact zCt rfl rfl|(apply zA3;exact rfl;all_goals intro hb)|apply zAH|apply zAM|apply zAN|apply zAz|apply en_e|apply eb_n|apply eb_e|apply zAO|(apply zIU;exact rfl;exact rfl;(first|exact rfl|(simp;done)))|exact zAF|refine zAL rfl ?_
  ·simp only[qAE,qA6,qAr];omega
  ·simp only[qAE,qA6]at hb
   have h3:0<=seqE L ((k:Int)+1) (i+1):=by
    rcases Int.lt_or_le (seqE L ((k:Int)+1) (i+1)) 0 with h4|h4
    ·have:=zIQ (j:=v.kids.toNat) h4 oM;omega
    ·exact h4
   refine⟨i+1,⟨by omega,h3⟩,by omega,?_⟩
   refine zAV (Le_cons rfl (Le_d rfl ?_ (zCR rfl ?_ (Le_all rfl)))) (zBa rfl rfl (zOQ _ i).symm zAW) rfl rfl
   ·rw[zFs hi2]
   ·simp only[qAE,qA6,qAr]
  ·simp only[qAE,qA6]at hb
   rw[hf,show i=v.kids.toNat by omega];rfl
open Go.RowKit
theorem zJb{α:Type}{A B:List α}{i:Nat}{x:α}(h:A.take i=B.take i)(ha:A[i]?=some x)(hb:B[i]?=some x): A.take (i+1)=B.take (i+1):=by
 rw[qAu,qAu,h,ha,hb]
theorem fd37: (prog.fieldsOf 47).toList=[⟨"Kind",43,0,false, "", "",0⟩,⟨"Text",9,1,false, "", "",8⟩,⟨"Num",2,2,false, "", "",24⟩,⟨"Kids",3,3,false, "", "",32⟩]:=by kernel_rfl
def Nd.vals(n:Nd): List Value:=[.int .i64 n.kind,.string ⟨n.text.toArray⟩,.int .i64 n.num,.int .i64 n.kids]
theorem zbU(a b:Nd): a=b↔a.kind=b.kind/\a.text=b.text/\a.num=b.num/\a.kids=b.kids:=by
 cases a;cases b;simp
theorem zbT(a b:Nd)(x y:Operand)(w:World): ((do eqGuard .neq 47 x y (.agg a.vals.toArray) (.agg b.vals.toArray);binOp .neq 47 (.agg a.vals.toArray) (.agg b.vals.toArray):Sem Value)).run prog w=.ok (.bool (decide (a≠b))) w:=by
 have hS:prog.underlying 47=some (.struct (prog.fieldsOf 47)):=by kernel_rfl
 have hp:prog.stoodInHeld 47=false:=by kernel_rfl
 have hg:prog.eqGuardType prog.depth 47=false:=by kernel_rfl
 have u1:prog.underlying 43=some (.int .i64):=by kernel_rfl
 have u2:prog.underlying 9=some .string:=by kernel_rfl
 have u3:prog.underlying 2=some (.int .i64):=by kernel_rfl
 have u4:prog.underlying 3=some (.int .i64):=by kernel_rfl
 have p1:prog.plainKey 43=true:=by kernel_rfl
 have p2:prog.plainKey 9=true:=by kernel_rfl
 have p3:prog.plainKey 2=true:=by kernel_rfl
 have p4:prog.plainKey 3=true:=by kernel_rfl
 have hk:∀(n:Nd) (w:World),(part 43 n.vals.toArray 0).run prog w=.ok (.int .i64 n.kind) w:=fun n w=>run_part_plain (w:=w) p1 rfl
 have ht:∀(n:Nd) (w:World),(part 9 n.vals.toArray 1).run prog w=.ok (.string ⟨n.text.toArray⟩) w:=fun n w=>run_part_plain (w:=w) p2 rfl
 have hn:∀(n:Nd) (w:World),(part 2 n.vals.toArray 2).run prog w=.ok (.int .i64 n.num) w:=fun n w=>run_part_plain (w:=w) p3 rfl
 have hi:∀(n:Nd) (w:World),(part 3 n.vals.toArray 3).run prog w=.ok (.int .i64 n.kids) w:=fun n w=>run_part_plain (w:=w) p4 rfl
 simp only[Sem.run_bind,run_eqGuard_agg w .neq _ x y _ _ hg,Result.andThen_ok,run_neq_struct]
 rw[show (10000:Nat)=9998+1+1 from rfl,run_equalIn_agg w (9998+1) _ _ _ hS hp,fd37]
 have c1:("Kind"≠"_")=True:=by simp
 have c2:("Text"≠"_")=True:=by simp
 have c3:("Num"≠"_")=True:=by simp
 have c4:("Kids"≠"_")=True:=by simp
 simp only[Op.eqFields,c1,c2,c3,c4,if_true,hk,Sem.run_bind,Result.andThen_ok,run_equalIn_int _ _ _ _ _ _ _ u1]
 rw[show decide (a≠b)=decide (¬(a.kind=b.kind/\a.text=b.text/\a.num=b.num/\a.kids=b.kids))from decide_eq_decide.2 (not_congr (zbU a b))]
 by_cases h1:a.kind=b.kind <;> by_cases h2:a.text=b.text <;> by_cases h3:a.num=b.num <;> by_cases h4:a.kids=b.kids <;> simp[h1,h2,h3,h4,ht,hn,hi,run_equalIn_int _ _ _ _ _ _ _ u3,run_equalIn_int _ _ _ _ _ _ _ u4,run_equalIn_string _ _ _ _ _ u2]
theorem zYS{η:List Ob}{σ:Sl}{dst:Option Nat}{ty:TypeId}{pos:String}{after:Array Edge}{gd:Option (Nat×Bool)}{x y:Operand}{yt:TypeId}{a b:Nd}(hx:oval σ x=.d a.av)(hy:oval σ y=.d b.av):
  Ylds prog η σ ⟨dst,.binOp .neq 47 x y yt,ty,pos,after,gd⟩ (.d (.val (.bool (decide (a≠b))))) :=
 zcU (us:=a.vals) (vs:=b.vals) hx hy (zbT a b x y)
theorem za1(A B:List Nd)(hL:A.length<=2000000): zAX prog 32 [zAu A,zAu B] (bl (decide (A=B))):=by
 refine zAc func32 rfl ntmps32 results32 rfl ?_
 intro wb St0
 repeat' first|apply en_n|apply zAE|apply zAA|apply zAD|apply w0|refine ayA rfl ?_|apply ay (hd:=rfl)|exact zEp rfl rfl|(apply zA3;exact rfl;all_goals intro hb)|apply zAH|apply zAM|apply zAN|apply en_r|apply zAO|refine res1 rfl ?_
 ·have:A≠B:=fun e=>by subst e;omega
  rw[decide_eq_false this]
 ·have hlen:A.length=B.length:=by omega
  refine zAt (α:=Nat) (fun i=>i<=A.length/\A.take i=B.take i) (fun i=>[(0,.d (zAu A)),(1,.d (zAu B)),(5,.d (i64 (i:Int)))]) (fun _=>[]) (fun i=>A.length-i) 0 ⟨qAO _,rfl⟩
   (zAV (Le_all rfl) zAW rfl rfl) ?_
  rintro i ⟨hi1,hi2⟩
  repeat' first|apply en_n|apply zAE|apply zAA|apply zAD|apply w0|exact zYS rfl rfl|(apply aI (hd:=rfl);(first|exact zAr rfl|exact Co_bb rfl rfl rfl|exact Co_nn rfl);exact rfl;(with_reducible exact zAe);exact fun _=>rfl;rotate_left;intro v hv;rotate_right)|refine ayA rfl ?_|apply ay (hd:=rfl)|exact zCt rfl rfl|refine zBN rfl rfl ?_|(apply zA3;exact rfl;all_goals intro hb)|apply zAH|apply zAM|apply zAN|apply zAz|refine awDA ?_|apply en_r|apply en_e|apply eb_n|apply eb_r|apply eb_e|apply zAO|refine res1 rfl ?_
  ·omega
  ·omega
  ·rename_i b1 b2 u hu
   have:A≠B:=by rintro rfl;rw[hu]at hv;exact hb (qBR hv)
   rw[decide_eq_false this]
  ·omega
  ·rename_i b1 b2 u hu
   obtain rfl:u=v:=Decidable.not_not.1 hb
   exact⟨i+1,⟨by omega,zJb (i:=i) hi2 hu hv⟩,by omega,zAV (Le_all rfl) zAW rfl rfl⟩
  ·have h1:=hi2
   rw[show i=A.length by omega,qBF,hlen,qBF]at h1
   rw[decide_eq_true h1]
def idxF(A:List Int)(b:Int): Int:=match A.findIdx? (· == b)with
 |some i=>i
 |none=>-1
theorem zUe{A:List Int}{b:Int}{i:Nat}(h:∀j,j<i->A[j]?≠some b)(hi:A[i]?=some b): idxF A b=i:=by
 have:A.findIdx? (· == b)=some i:=by
  rw[qA2]
  obtain⟨h1,h2⟩:=qAA.1 hi
  refine⟨h1,by simp[h2],fun j hj=>?_⟩
  have:=h j hj
  rw[qAB oM]at this
  simpa using this
 rw[idxF,this]
theorem zJ2{A:List Int}{b:Int}(h:b∉A): idxF A b = -1:=by
 have:A.findIdx? (· == b)=none:=by
  rw[qBB]
  intro x hx
  simp;rintro rfl;exact h hx
 rw[idxF,this]
theorem zZ2{A:List Int}{b:Int}(h:b∈A): 0<=idxF A b:=by
 rw[idxF];split
 ·omega
 ·rename_i hn
  rw[qBB]at hn
  have:=hn b h;simp at this
theorem zYX(A:List Int)(b:Int)(hL:A.length<=2000000): zAX prog 203 [zBq A,i64 b] (i64 (idxF A b)):=by
 refine zAc func203 rfl ntmps203 results203 rfl ?_
 intro wb St0
 repeat' first|apply en_n|apply zAE|apply zAA|apply zAD|apply w0|refine ayA rfl ?_|apply zAH
 refine zAt (α:=Nat) (fun i=>i<=A.length/\∀j,j<i->A[j]?≠some b) (fun i=>[(0,.d (zBq A)),(1,.d (i64 b)),(7,.d (i64 (A.length:Int))),(8,.d (i64 (i:Int)))]) (fun _=>[]) (fun i=>A.length-i) 0 ⟨qAO _,by omega⟩
   (zAV (Le_cons rfl (Le_cons rfl (Le_d rfl rfl (Le_all rfl)))) zAW rfl rfl) ?_
 rintro i ⟨hi1,hi2⟩
 repeat' first|apply en_n|apply zAE|apply zAA|apply zAD|apply w0|(apply aI (hd:=rfl);(first|exact zAr rfl|exact Co_bb rfl rfl rfl|exact Co_nn rfl);exact rfl;(with_reducible exact zBK);exact fun _=>rfl;rotate_left;intro v hv;rotate_right)|refine ayA rfl ?_|apply ay (hd:=rfl)|exact zCt rfl rfl|exact zDz rfl rfl|refine zBN rfl rfl ?_|(apply zA3;exact rfl;all_goals intro hb)|apply zAH|apply zAM|apply zAN|apply zAz|apply en_r|apply en_e|apply eb_n|apply eb_r|apply eb_e|apply zAO|refine res1 rfl ?_
 ·omega
 ·subst hb;rw[zUe hi2 hv]
 ·omega
 ·refine⟨i+1,⟨by omega,fun j hj=>?_⟩,by omega,zAV (Le_all rfl) zAW rfl rfl⟩
  rcases qAF j i with h1|h1
  ·exact hi2 j h1
  ·rw[show j=i by omega];intro h2;exact hb (qBR (h2.symm.trans hv))
 ·rw[zJ2];intro h1
  obtain⟨j,hj,h2⟩:=List.getElem_of_mem h1
  exact hi2 j oM (by rw[qAB hj,h2])
theorem zQN(A:List Int)(b:Int)(hL:A.length<=2000000): zAX prog 172 [zBq A,i64 b] (bl (decide (b∈A))):=by
 refine zAc func172 rfl ntmps172 results172 rfl ?_
 intro wb St0
 repeat' first|apply en_n|apply zAE|apply zAA|apply zAD|apply w0|(apply zAP (hb:=zUi) (hc:=zYX A b hL))|refine ayA rfl ?_|apply ay (hd:=rfl)|exact zFU rfl rfl|apply zAN|apply zAO|refine res1 rfl ?_|exact zAF|refine zAL rfl ?_
 by_cases h:b∈A
 ·rw[decide_eq_true h];have:=zZ2 h;rw[decide_eq_true (show idxF A b>=0 by omega)]
 ·rw[decide_eq_false h,zJ2 h];rfl
end Go.Proofs.YtjcgiiedaccjpaaGreatDoor
namespace Go.Proofs.YtjcgiiedaccjpaaGreatDoor
open _root_.Go.Proofs.Tryz
open Go.ChangeShapes Go.WideShapes Go.ChangeAt Go.RowKit Go.Deep Go.Sx
def big(W:World): Stab:=fun b _=>b<W.heap.size
theorem zap{W:World}{a:Addr}{u:Value}(h:W.cell? a=some u): a.block<W.heap.size:=by
 unfold World.cell? at h
 rcases qAF a.block W.heap.size with h1|h1
 ·exact h1
 ·rw[Array.getElem?_eq_none h1]at h;cases h
theorem zE2{α:Type}{Q:Nat->α->Prop}: ∀n:Nat,(∀i,i<n->∃x,Q i x)->∃L:List α,L.length=n/\∀i x,L[i]?=some x->Q i x
 |0,_=>⟨[],rfl,fun i x h=>by simp at h⟩
 |n+1,h=>by
  obtain⟨L,hl,hq⟩:=zE2 n (fun i hi=>h i oM)
  obtain⟨y,hy⟩:=h n oM
  refine⟨L++[y],by simp[hl],fun i x hx=>?_⟩
  rcases qAF i n with h1|h1
  ·rw[qAG oM]at hx;exact hq i x hx
  ·rw[qAD oM,hl]at hx
   rcases qAF n i with h2|h2
   ·rw[qAj pAJ]at hx;cases hx
   ·have:i=n:=by omega
    subst this;simp at hx;subst hx;exact hy
theorem zIV{W:World}{a:Addr}{len cap sz:Nat}{xs:List D}(hl:len=xs.length)(hc:len<=cap)(hm:cap<=maxLen)(hsz:∀x∈xs,x.flat.length=sz)(hp:0<sz)
  (h:∀(i:Nat) (d:D),xs[i]?=some d->∀(o:Nat) (c:D),d.flat[o]?=some c->∃u,W.cell? (a.add (i*sz+o))=some u/\u.oneCell'=true/\RepD (big W) W u c) :
  RepD (big W) W (.slice (some a) len cap) (.slice xs):=by
 have hfl:=zCQ hsz
 obtain⟨us,hul,huq⟩:=zE2 (Q:=fun j u=>W.cell? (a.add j)=some u/\u.oneCell'=true/\∀c,(zC2 xs)[j]?=some c->RepD (big W) W u c) (xs.length*sz) (fun j hj=>by
  have hi:j / sz<xs.length:=by rw[Nat.div_lt_iff_lt_mul hp];exact hj
  have ho:j%sz<sz:=Nat.mod_lt _ hp
  have hjj:j / sz*sz+j%sz=j:=by rw[Nat.mul_comm];exact Nat.div_add_mod j sz
  have hd:xs[j / sz]?=some xs[j / sz]:=qAB hi
  have hdl:=hsz _ (qBc hi)
  have hc':(xs[j / sz]).flat[j%sz]?=some ((xs[j / sz]).flat[j%sz]' oM):=qAB oM
  obtain⟨u,h1,h2,h3⟩:=h _ _ hd _ _ hc'
  refine⟨u,by rw[<-hjj];exact h1,h2,fun c hcc=>?_⟩
  have h4:=zG4 hsz hd ho
  rw[hjj,hcc,hc']at h4
  injection h4 with h4;rw[h4];exact h3)
 refine .slice (some a) len cap sz xs us hl hc hm hsz (by rw[hul,hfl]) (fun u hu=>?_) (fun _=>⟨a,rfl,fun j u hu=>⟨?_,(huq j u hu).1⟩⟩) (fun j u d hu hd=>(huq j u hu).2.2 d hd)
 ·obtain⟨j,hj,rfl⟩:=List.getElem_of_mem hu
  exact(huq j _ (qAB hj)).2.1
 ·have h1:=zap (huq j u hu).1
  have h2:(a.add j).block=a.block:=by unfold Addr.add;split <;> rfl
  rw[h2]at h1;exact h1
theorem zMg{W:World}: RepD (big W) W (.slice none 0 0) (.slice []) :=
 .slice none 0 0 0 [] [] rfl (qAN _) (qAO _) sI (by simp[zC2]) sI (fun h=>absurd h sI) (fun j u d h=>by simp at h)
theorem zQZ: prog.underlying 23=some (.slice 47):=by kernel_rfl
theorem zZZ: prog.underlying 47=some (.struct #[⟨"Kind",43,0,false, "", "",0⟩,⟨"Text",9,1,false, "", "",8⟩,⟨"Num",2,2,false, "", "",24⟩,⟨"Kids",3,3,false, "", "",32⟩]):=by kernel_rfl
theorem zZa: prog.underlying 43=some (.int .i64):=by kernel_rfl
theorem zbD: prog.underlying 2=some (.int .i64):=by kernel_rfl
theorem zTU: prog.underlying 9=some .string:=by kernel_rfl
theorem zam: prog.cellsOf 47=4:=by kernel_rfl
theorem zW2: oneCellFields prog #[⟨"Kind",43,0,false, "", "",0⟩,⟨"Text",9,1,false, "", "",8⟩,⟨"Num",2,2,false, "", "",24⟩,⟨"Kids",3,3,false, "", "",32⟩]=true:=by kernel_rfl
section
variable {H:Type}{enc:TypeId×Value->H}{P:Program}{w:World}{base:Nat}{spare:Nat->Bool}{held:Bool}
theorem zHz{t e:TypeId}{fs:Array Field}{fuel:Nat}{cs:List Value}{x:DataW H×List MemPlace}(ht:P.underlying t=some (.slice e))(he:P.underlying e=some (.struct fs))
  (hone:oneCellFields P fs=true) (hC:P.cellsOf e=fs.size) (h:DataW.trod enc P w base spare held fuel t cs=some x) :
  cs=[.slice none 0 0]\/
  ∃(a:Addr) (len cap:Nat),cs=[.slice (some a) len cap]/\len<=cap/\cap<=maxLen/\
   ∀i,i<len->∃n:Nat,∀(j:Nat) (f:Field),fs[j]?=some f->∃(v:Value) (y:DataW H×List MemPlace),w.cell? (a.add (i*fs.size+j))=some v/\DataW.trod enc P w base spare held n f.type [v]=some y:=by
 rcases open_slice ht h with h0|⟨a,len,cap,m,n,D,Pl,hcs,hb,hl,hm,hmm,hx,hi⟩
 ·exact .inl h0.1
 ·refine .inr ⟨a,len,cap,hcs,hl,hm,fun i him=>?_⟩
  obtain⟨cs',hc,ht'⟩:=hi i (by rw[hmm];split <;> omega)
  rw[hC]at hc
  obtain⟨ys,n',hn',hy,hlen,hyl,hf⟩:=DataW.trod_struct he ht'
  obtain⟨_,hcl,hat⟩:=World.cells?_some hc
  refine⟨n',fun j f hj=>?_⟩
  obtain⟨ho,hk⟩:=hone_of hone j f hj
  have hjl:j<fs.size:=(qAn.1 hj).1
  have hcell:=hat j hjl
  have hv:cs'[j]?=some (cs'[j]' oM):=qAB oM
  have h1:=hf j f hj
  rw[ho,hk]at h1
  have hone':(cs'.drop j).take 1=[cs'[j]' oM]:=by
   rw[qAW oM]
   rfl
  rw[hone']at h1
  have hys:ys[j]?=some (ys[j]' oM):=qAB oM
  refine⟨_,_,?_,h1.trans hys⟩
  rw[<-Go.Deep.add_add,hcell,hv]
end
set_option maxRecDepth 100000 in
theorem zQx{H:Type}{enc:TypeId×Value->H}{W:World}{fuel:Nat}{cs:List Value}{x:DataW H×List MemPlace}(h:DataW.trod enc prog W 0 (fun _=>true) true fuel 23 cs=some x):
  ∃v L,cs=[v]/\v.oneCell'=true/\RepD (big W) W v (zAu L):=by
 rcases zHz zQZ zZZ zW2 zam h with h0|⟨a,len,cap,hcs,hl,hm,hi⟩
 ·exact⟨_,[],h0,rfl,zMg⟩
 ·obtain⟨L,hL,hq⟩:=zE2 (Q:=fun i (n:Nd)=>∀(o:Nat) (u:Value),n.vals[o]?=some u->W.cell? (a.add (i*4+o))=some u) len (fun i hil=>by
   obtain⟨n,hf⟩:=hi i hil
   obtain⟨u0,y0,c0,t0⟩:=hf 0 _ rfl
   obtain⟨u1,y1,c1,t1⟩:=hf 1 _ rfl
   obtain⟨u2,y2,c2,t2⟩:=hf 2 _ rfl
   obtain⟨u3,y3,c3,t3⟩:=hf 3 _ rfl
   obtain⟨k,e0,_,_⟩:=DataW.trod_int zZa t0
   obtain⟨s,e1,_,_⟩:=DataW.trod_string zTU t1
   obtain⟨m,e2,_,_⟩:=DataW.trod_int zbD t2
   obtain⟨z,e3,_,_⟩:=DataW.trod_int zYb t3
   injection e0 with e0;injection e1 with e1;injection e2 with e2;injection e3 with e3
   subst e0;subst e1;subst e2;subst e3
   refine⟨⟨k,s.data.toList,m,z⟩,fun o u hu=>?_⟩
   match o,hu with
   |0,hu=>injection hu with hu;subst hu;exact c0
   |1,hu=>injection hu with hu;subst hu;exact c1
   |2,hu=>injection hu with hu;subst hu;exact c2
   |3,hu=>injection hu with hu;subst hu;exact c3
   |o+4,hu=>simp[Nd.vals]at hu)
  refine⟨_,L,hcs,rfl,zIV (sz:=4) (by rw[qAE,hL]) hl hm (zCe fun _=>rfl) dC fun i d hd o c hc=>?_⟩
  rw[qAJ]at hd
  cases hn:L[i]? with
  |none=>rw[hn]at hd;cases hd
  |some n =>
   rw[hn]at hd;injection hd with hd;subst hd
   have h1:=hq i n hn o
   match o,hc,h1 with
   |0,hc,h1=>injection hc with hc;subst hc;exact⟨_,h1 _ rfl,rfl,.val _⟩
   |1,hc,h1=>injection hc with hc;subst hc;exact⟨_,h1 _ rfl,rfl,.val _⟩
   |2,hc,h1=>injection hc with hc;subst hc;exact⟨_,h1 _ rfl,rfl,.val _⟩
   |3,hc,h1=>injection hc with hc;subst hc;exact⟨_,h1 _ rfl,rfl,.val _⟩
   |o+4,hc,_=>exact absurd hc (by simp[Nd.av,D.flat])
set_option maxRecDepth 100000 in
theorem zUL{H:Type}{enc:TypeId×Value->H}{W:World}{r:Reach}{b0:Nat}{v:Value}{d:DataW H}{p:List MemPlace}(hv:Value.okWide prog W r b0 23 v)(h:DataW.Trod enc prog W 0 (fun _=>true) true 23 v d p):
  ∃L,RepD (big W) W v (zAu L):=by
 obtain⟨a,len,cap,rfl⟩:=okWide_slice zQZ hv
 obtain⟨fuel,hf⟩:=h
 obtain⟨v',L,hc,_,hr⟩:=zQx hf
 simp[Value.cells]at hc
 subst hc
 exact⟨L,hr⟩

/- Parts. -/
import Derived.Test.YtjcgiiedaccjpaaGreatDoorMAD
set_option maxHeartbeats 16000000
namespace Go.Proofs.YtjcgiiedaccjpaaGreatDoor
open _root_.Go.Proofs.Tryz
open Go.Sx
attribute [local irreducible] Ylds zA3 alex zBc zBL awp zAc zBd zBi zBD zBI zBS zA5 zBT zBY zBe
def zDJ(L:List Nd): Bool:=decide (L.length>0)&&decide (endF L 0=L.length)
theorem zHF(L:List Nd)(hL:L.length<=2000000): zAc prog 110 [zAm L] (bl (zDJ L)):=by
 refine zAX func110 rfl ntmps110 results110 rfl ?_
 intro wb St0
 repeat' first|apply en_n|apply zAE|apply zAA|apply zAD|apply w0|(apply zAU (hb:=zIY) (hc:=zIu L _ hL))|apply ay (hd:=rfl)|exact zAC rfl|exact zAB rfl|exact zAo rfl zA8|exact zGL rfl rfl|exact zEA rfl rfl|exact zAi rfl rfl|exact zAj rfl rfl|refine w1 rfl rfl ?_|refine k1 (hd:=rfl) rfl rfl ?_|(apply gD;exact rfl;exact rfl;all_goals intro hb)|apply zAM|apply zAL|refine res1 rfl ?_|exact zAF|refine zAP rfl ?_
 ·have h:0<L.length:=by omega
  simp[zDJ,h]
 ·have h:¬0<L.length:=by omega
  simp[zDJ,h]
theorem zKW{n:Nat}: ∀(r:List Nd) (o a:Int),0<=a->zEB n r o a = -1\/a<zEB n r o a/\zEB n r o a<=a+r.length
 |[],_,_,_=>.inl rfl
 |x::r,o,a,ha=>by
  unfold zEB
  split
  ·exact .inl rfl
  ·split
   ·rcases zKW r (o+(x.kids-1)) (a+1) (by omega)with h|h
    ·exact .inl h
    ·refine .inr ⟨by omega,?_⟩;simp only[qAJ];omega
   ·refine .inr ⟨by omega,?_⟩;simp only[qAJ];omega
theorem zHu(L:List Nd)(a:Int): endF L a = -1\/(0<=a/\a<endF L a/\endF L a<=L.length):=by
 unfold endF
 split
 ·exact .inl rfl
 ·rcases zKW (n:=L.length) (L.drop a.toNat) 1 a (by omega)with h|h
  ·exact .inl h
  ·refine .inr ⟨by omega,h.1,?_⟩
   have h2:=h.2
   rw[qAl]at h2
   rcases qAI a.toNat L.length with h3|h3
   ·omega
   ·have h4:=h.1
    rw[qAk h3]at h4
    simp only[zEB]at h4;omega
theorem zPw(L:List Nd): ∀(m k:Nat) (p q:Int),L.length-k<=m->1<=p->1<=q->zEB L.length (L.drop k) (p+q) k=if zEB L.length (L.drop k) p k<0 then -1 else zEB L.length (L.drop (zEB L.length (L.drop k) p k).toNat) q (zEB L.length (L.drop k) p k):=by
 intro m
 induction m with
 |zero =>
  intro k p q hm _ _
  rw[zEd (by omega),zEd (by omega)];rfl
 |succ m ih =>
  intro k p q hm hp hq
  rcases qAI k L.length with hk|hk
  ·have hv:L[k]?=some L[k]:=qAB hk
   rw[zDT hv,zDT hv]
   by_cases hbad:L[k].kids<0\/L[k].kids>L.length
   ·rw[if_pos hbad,if_pos hbad];rfl
   ·rw[if_neg hbad,if_neg hbad]
    rw[if_pos (show p+q+(L[k].kids-1)>0 by omega)]
    by_cases h1:p+(L[k].kids-1)>0
    ·rw[if_pos h1]
     have:=ih (k+1) (p+(L[k].kids-1)) q (by omega) (by omega) hq
     rw[show p+q+(L[k].kids-1)=p+(L[k].kids-1)+q by omega]
     exact this
    ·rw[if_neg h1,if_neg (by omega)]
     rw[show p+q+(L[k].kids-1)=q by omega]
     rfl
  ·rw[zEd hk,zEd hk];rfl
def seqE(L:List Nd)(a:Int): Nat->Int
 |0=>a
 |i+1=>if seqE L a i<0 then -1 else endF L (seqE L a i)
theorem zOY(L:List Nd)(k:Nat): ∀(i:Nat),seqE L k (i+1)=zEB L.length (L.drop k) (i+1) k
 |0=>by
  have h0:¬seqE L (k:Int) 0<0:=by simp only[seqE];omega
  have h1:¬(k:Int)<0:=by omega
  unfold seqE
  rw[if_neg h0]
  show endF L (k:Int)=_
  rw[endF,if_neg h1,qAc];rfl
 |i+1=>by
  have ih:=zOY L k i
  show (if seqE L k (i+1)<0 then _ else _)=_
  rw[ih,show ((i+1:Nat):Int)+1=(i:Int)+1+1 by omega,zPw L _ k ((i:Int)+1) 1 (qAM _) (by omega) (by omega)]
  split
  ·rfl
  ·rename_i h;rw[endF,if_neg h]
theorem zRt{L:List Nd}{k:Nat}{x:Nd}(h:L[k]?=some x): endF L k=if x.kids<0\/x.kids>L.length then -1 else seqE L ((k:Int)+1) x.kids.toNat:=by
 rw[endF,if_neg (by omega),qAc,zDT h]
 split
 ·rfl
 ·rename_i hb
  by_cases h1:1+(x.kids-1)>0
  ·rw[if_pos h1]
   obtain⟨i,hi⟩:∃i:Nat,x.kids.toNat=i+1:=⟨x.kids.toNat-1,by omega⟩
   rw[hi]
   have:=zOY L (k+1) i
   rw[show ((k+1:Nat):Int)=(k:Int)+1 by omega]at this
   rw[this]
   congr 1
   omega
  ·rw[if_neg h1]
   have:x.kids.toNat=0:=by omega
   rw[this];rfl
theorem zMD{L:List Nd}{a:Int}{i:Nat}(h:seqE L a i<0): ∀j,i<=j->seqE L a j<0:=by
 intro j hj
 induction j with
 |zero=>rw[show i=0 by omega]at h;exact h
 |succ j ih =>
  rcases qAI j i with h1|h1
  ·rw[show j+1=i by omega];exact h
  ·show (if seqE L a j<0 then _ else _)<0
   rw[if_pos (ih h1)];omega
theorem zHT{L:List Nd}{a:Int}{i:Nat}(h:0<=seqE L a i): seqE L a (i+1)=endF L (seqE L a i):=by
 show (if seqE L a i<0 then _ else _)=_
 rw[if_neg (by omega)]
theorem zOX{L:List Nd}{a:Int}: ∀{i:Nat},0<=seqE L a i->a+i<=seqE L a i
 |0,_=>by simp only[seqE];omega
 |i+1,h=>by
  rcases Int.lt_or_le (seqE L a i) 0 with h1|h1
  ·have:=zMD h1 (i+1) (by omega);omega
  ·have:=zOX h1
   rw[zHT h1]at h ⊢
   rcases zHu L (seqE L a i)with h2|h2 <;> omega
def zNP(L:List Nd)(a:Int): Nat:=match L[a.toNat]? with
 |some x=>x.kids.toNat
 |none=>0
def zBx(L:List Nd)(a:Int): List Int:=if endF L a<0 then[]else(List.range (zNP L a)).map (seqE L (a+1))
theorem kid_at{L:List Nd}{a:Int}(h:¬endF L a<0): ∃(k:Nat) (x:Nd),a=k/\L[k]?=some x/\0<=x.kids/\x.kids<=L.length/\endF L a=seqE L (a+1) x.kids.toNat/\zNP L a=x.kids.toNat/\zBx L a=(List.range x.kids.toNat).map (seqE L (a+1)):=by
 have hb:=zHu L a
 obtain⟨k,rfl⟩:=Int.eq_ofNat_of_zero_le (show 0<=a by omega)
 have hk:k<L.length:=by omega
 have hv:L[k]?=some L[k]:=qAB hk
 have he:=zRt hv
 have hg:¬(L[k].kids<0\/L[k].kids>L.length):=fun h0=>by rw[if_pos h0]at he;omega
 rw[if_neg hg]at he
 have hkn:zNP L (k:Int)=L[k].kids.toNat:=by unfold zNP;rw[qAc,hv]
 exact⟨k,L[k],rfl,hv,by omega,by omega,he,hkn,by rw[zBx,if_neg h,hkn]⟩
theorem zPA(f:Nat->Int)(i:Nat): ((List.range i).map f).map ival++[i64 (f i)]=((List.range (i+1)).map f).map ival:=by
 rw[List.range_succ,qAh,qAh];rfl
theorem zCE(L:List Nd)(at_:Int)(hL:L.length<=2000000): zAc prog 46 [zAm L,i64 at_] (zBr (zBx L at_)):=by
 refine zAX func46 rfl ntmps46 results46 rfl ?_
 intro wb St0
 repeat' first|apply en_n|apply zAE|apply zAA|apply zAD|apply w0|(apply zAU (hb:=zIY) (hc:=zIu L _ hL))|(apply aI (hd:=rfl);(first|exact zAq rfl|exact Co_bb rfl rfl rfl|exact Co_nn rfl);exact rfl;(with_reducible exact zAa);exact fun _=>rfl;rotate_left;intro v hv;rotate_right)|apply ay (hd:=rfl)|exact zAC rfl|exact zAB rfl|exact zA1 rfl fn_3|exact zAR rfl zAd|exact zCs rfl rfl|refine zBE rfl rfl ?_|exact zA4 rfl|(apply zAw;exact rfl;all_goals intro hb)|apply zAI|apply zAO|apply zAM|apply en_r|apply zAL|refine zTD rfl ?_|exact zAF|refine zAP rfl ?_
 ·rw[zBx,if_pos hb];rfl
 ·have:=zHu L at_;omega
 ·have:=zHu L at_;omega
 ·obtain⟨k,x,hak,hx,h0,h1,he,hn,hf⟩:=kid_at hb
  subst hak
  obtain rfl:v=x:=by rw[qAc]at hv;rw[hx]at hv;exact(qA8 hv).symm
  refine zDV 5 false 3 1 rfl rfl ?_
  refine zAv (α:=Nat) (fun i=>i<=v.kids.toNat/\0<=seqE L ((k:Int)+1) i) (fun i=>[(0,.d (zAm L)),(1,.d (i64 (seqE L ((k:Int)+1) i))),(5,.buf 0 (((List.range i).map (seqE L ((k:Int)+1))).map ival).length),(6,.d (i64 v.kids))])
   (fun i=>[.buf false 3 1 (((List.range i).map (seqE L ((k:Int)+1))).map ival)]) (fun i=>v.kids.toNat-i) 0 ⟨qAR _,by simp only[seqE];omega⟩
   (zAV (Le_cons rfl (Le_cons rfl (zCu rfl rfl (Le_all rfl)))) (zAT rfl rfl zAW) rfl rfl) ?_
  rintro i ⟨hi1,hi2⟩
  have hg:=zOX hi2
  repeat' first|apply en_n|apply zAE|apply zAA|apply zAD|apply w0|(apply zAU (hb:=zIY) (hc:=zIu L _ hL))|(apply aApp (hd:=rfl) (hro:=rfl);exact rfl;exact rfl;(first|exact zAq rfl|exact Co_bb rfl rfl rfl|exact Co_nn rfl);(first|exact rfl|(simp;done));exact rfl;(with_reducible exact zFL);(with_reducible exact zBl);(with_reducible exact zN8);(with_reducible exact zLl);(first|exact zC8 (fun _=>rfl)|exact zDK rfl))|apply ay (hd:=rfl)|exact zAC rfl|exact zAB rfl|exact zCs rfl rfl|exact zBA rfl|exact zAs rfl|exact zCj rfl zDk|(apply zCi;(with_reducible exact zFL);(with_reducible exact zBl);(with_reducible exact zN6);exact rfl;exact rfl;(first|exact zAP rfl zAF|exact zEC rfl rfl rfl zAF|exact zFE rfl zAF);exact rfl)|(apply zAw;exact rfl;all_goals intro hb)|apply zAI|apply zAO|apply zAM|apply zA0|apply en_e|apply eb_n|apply eb_e|apply zAL|(apply zLJ;exact rfl;exact rfl;(first|exact rfl|(simp;done)))|exact zAF|refine zAP rfl ?_
  ·simp only[qAK,qA2,qBK];omega
  ·simp only[qAK,qA2]at hb
   have h3:0<=seqE L ((k:Int)+1) (i+1):=by
    rcases Int.lt_or_le (seqE L ((k:Int)+1) (i+1)) 0 with h4|h4
    ·have:=zMD (j:=v.kids.toNat) h4 (by omega);omega
    ·exact h4
   refine⟨i+1,⟨by omega,h3⟩,by omega,?_⟩
   refine zAV (Le_cons rfl (Le_d rfl ?_ (zCu rfl ?_ (Le_all rfl)))) (zBM rfl rfl (zPA _ i).symm zAW) rfl rfl
   ·rw[zHT hi2]
   ·simp only[qAK,qA2,qBK]
  ·simp only[qAK,qA2]at hb
   rw[hf,show i=v.kids.toNat by omega];rfl
open Go.RowKit
def subF(L:List Nd)(a:Int): List Nd:=if endF L a<0 then[]else(L.take (endF L a).toNat).drop a.toNat
def subE(L:List Nd)(a:Int): Int:=if endF L a<0 then 20 else 0
theorem zR1{α:Type}{ys:List α}{n:Nat}{z:α}(h:ys.length=n): ys.take (List.replicate n z).length++(List.replicate n z).drop ys.length=ys:=by
 subst h;simp
theorem zVY(L:List Nd)(at_:Int)(hL:L.length<=2000000): zAc prog 129 [zAm L,i64 at_] (.tup [zAm (subF L at_),i64 (subE L at_)]):=by
 refine zAX func129 rfl ntmps129 results129 rfl ?_
 intro wb St0
 have hbd:=zHu L at_
 repeat' first|apply en_n|apply zAE|apply zAA|apply zAD|apply w0|(refine zLn 22 0 rfl rfl rfl ?_)|(apply zAU (hb:=zIY) (hc:=zIu L _ hL))|(apply zV5 (hd:=rfl) (hro:=rfl);exact rfl;exact rfl;(with_reducible exact zCf);(with_reducible exact zAa);(with_reducible exact zSy);exact rfl;exact rfl;(with_reducible exact zGF))|(refine zV8 (sz:=4) (hro:=rfl) (hd:=(rfl:Nat.blt _ _=true)) rfl rfl (List.length_replicate ..).symm (zAq rfl) ?_ (zC8 (fun _=>rfl)) ?_;(with_reducible exact zAa))|apply ay (hd:=rfl)|exact zAC rfl|exact zAB rfl|exact zCs rfl rfl|refine zIJ rfl rfl ?_|exact zA4 rfl|exact zBA rfl|exact zAs rfl|(apply Y_sl;(first|exact zAq rfl|exact Co_bb rfl rfl rfl|exact Co_nn rfl);(with_reducible exact zAa);exact rfl;exact rfl;exact fun _=>rfl)|(apply zAw;exact rfl;all_goals intro hb)|apply zAO|apply zAM|apply en_r|apply zAL|(apply zVm;exact rfl;exact rfl)|exact zAF|refine zAP rfl ?_
 ·rw[subF,if_pos hb];rfl
 ·rw[subE,if_pos hb]
 ·omega
 ·omega
 ·omega
 ·have hy:((L.take (endF L at_).toNat).drop at_.toNat).length=(endF L at_-at_).toNat:=by rw[qAl,qAT];omega
  have hc:=zR1 (ys:=((L.take (endF L at_).toNat).drop at_.toNat).map Nd.av) (z:=Nd.av ⟨0,[],0,0⟩) (n:=(endF L at_-at_).toNat) (by rw[qAK,hy])
  refine zVn rfl rfl ?_ rfl ?_ ?_
  ·exact((congrArg List.length hc).trans (by rw[qAK,hy])).symm
  ·rw[subF,if_neg hb];exact congrArg D.slice hc
  ·rw[subE,if_neg hb]
def zUl(n:Nd)(KK:List (List Nd)): List Nd:={ n with kids:=KK.length }::KK.flatten
def mkC(n:Nd)(KK:List (List Nd))(i:Nat): List Nd:={ n with kids:=KK.length }::(KK.take i).flatten
theorem zI7{n:Nd}{KK:List (List Nd)}{i:Nat}{v:List Nd}(hv:KK[i]?=some v): (mkC n KK (i+1)).map Nd.av=(mkC n KK i).map Nd.av++v.map Nd.av:=by
 simp[mkC,List.take_add_one,hv]
theorem zTH(n:Nd)(KK:List (List Nd))(i:Nat): (mkC n KK i).length<=KK.flatten.length+1:=by
 have:KK.flatten=(KK.take i).flatten++(KK.drop i).flatten:=by rw[<-List.flatten_append,qAj]
 rw[this];simp only[mkC,qAJ,qAO];omega
theorem zQi(n:Nd)(KK:List (List Nd))(h1:KK.length<=2000000)(h2:KK.flatten.length<=2000000): zAc prog 21 [n.av,zCG KK] (zAm (zUl n KK)):=by
 refine zAX func21 rfl ntmps21 results21 rfl ?_
 intro wb St0
 repeat' first|apply en_n|apply zAE|apply zAA|apply zAD|apply w0|(apply zV6 (hd:=rfl) (hro:=rfl);exact zCf;exact zAa;exact zFU;exact rfl;exact rfl;exact zAP rfl zAF;exact rfl)|refine aBox (hd:=rfl) (hro:=rfl) rfl rfl ?_|apply ay (hd:=rfl)|exact zAC rfl|exact zAo rfl zCB|exact zA4 rfl|exact zAs rfl|exact zAH rfl fn_3|exact zDH rfl zAZ rfl rfl rfl|(refine w0' ?_)|(apply zAl;exact rfl;exact rfl;exact rfl;(with_reducible exact zAd);exact rfl;exact rfl;exact rfl;exact rfl)|apply zAI
 ·refine zAv (α:=Nat) (fun i=>i<=KK.length) (fun i=>[(13,.d (zCG KK)),(14,.d (i64 (KK.length:Int))),(15,.d (i64 (i:Int))),(5,.buf 1 ((mkC n KK i).map Nd.av).length)])
   (fun i=>[.box [.d (.val (.int .i64 n.kind)),.d (.val (.string ⟨n.text.toArray⟩)),.d (.val (.int .i64 n.num)),.d (.val (.int .i64 KK.length))],.buf false 47 4 ((mkC n KK i).map Nd.av)]) (fun i=>KK.length-i) 0 (qAR _)
   (zAV (Le_cons rfl (Le_d rfl rfl (Le_cons rfl (zCu rfl rfl Le_nil)))) (zAT rfl rfl (zAT rfl rfl zAW)) rfl rfl) ?_
  intro i hi
  repeat' first|apply en_n|apply zAE|apply zAA|apply zAD|apply w0|(apply aI (hd:=rfl);(first|exact zAq rfl|exact Co_bb rfl rfl rfl|exact Co_nn rfl);exact rfl;(with_reducible exact zBa);exact fun _=>rfl;rotate_left;intro v hv;rotate_right)|(apply aApp (hd:=rfl) (hro:=rfl);exact rfl;exact rfl;(first|exact zAq rfl|exact Co_bb rfl rfl rfl|exact Co_nn rfl);(first|exact rfl|(simp;done));exact rfl;(with_reducible exact zCf);(with_reducible exact zAa);(with_reducible exact zIw);(with_reducible exact zGF);(first|exact zC8 (fun _=>rfl)|exact zDK rfl))|apply ay (hd:=rfl)|exact zAC rfl|exact zAB rfl|exact zAR rfl zAY|exact zCs rfl rfl|refine zBE rfl rfl ?_|exact zBA rfl|exact zAs rfl|(apply zAw;exact rfl;all_goals intro hb)|apply zAI|apply zAO|apply zAM|apply zA0|apply en_e|apply eb_n|apply eb_e|apply zAL|(apply zLJ;exact rfl;exact rfl;(first|exact rfl|(simp;done)))
  ·omega
  ·have h3:=zTH n KK (i+1)
   rw[<-qAK (f:=Nd.av),zI7 (i:=i) hv,qAO]at h3
   omega
  ·omega
  ·have hl:i<KK.length:=by omega
   refine⟨i+1,by omega,by omega,zAV (Le_cons rfl (Le_cons rfl (Le_cons rfl (zCu rfl ?_ Le_nil)))) (zAT rfl rfl (zBM rfl rfl (zI7 (i:=i) hv) zAW)) rfl rfl⟩
   rw[zI7 (i:=i) hv,qAO]
  ·rw[zUl,show i=KK.length by omega,mkC,qBQ];rfl
end Go.Proofs.YtjcgiiedaccjpaaGreatDoor
namespace Go.Proofs.YtjcgiiedaccjpaaGreatDoor
def cns: List Nd->Nat->Option Nat
 |_,0=>some 0
 |[],_+1=>none
 |x::r,o+1=>if x.kids<0 then none else(cns r (o+x.kids.toNat)).map (· + 1)
theorem zEq(l:List Nd): cns l 0=some 0:=by cases l <;> rfl
theorem zDF(x:Nd)(r:List Nd)(o:Nat): cns (x::r) (o+1)=if x.kids<0 then none else(cns r (o+x.kids.toNat)).map (· + 1):=rfl
theorem zKl: ∀{l:List Nd} {o k:Nat},cns l o=some k->k<=l.length
 |l,0,k,h=>by rw[zEq]at h;injection h with h;omega
 |[],o+1,k,h=>by cases h
 |x::r,o+1,k,h=>by
  rw[zDF]at h
  split at h
  ·cases h
  ·cases hc:cns r (o+x.kids.toNat)with
   |none=>rw[hc]at h;cases h
   |some j=>rw[hc]at h;have:=zKl hc;simp at h;simp;omega
theorem zHE: ∀{l:List Nd} {o k:Nat},cns l o=some k->o<=k
 |l,0,k,h=>by omega
 |[],o+1,k,h=>by cases h
 |x::r,o+1,k,h=>by
  rw[zDF]at h
  split at h
  ·cases h
  ·cases hc:cns r (o+x.kids.toNat)with
   |none=>rw[hc]at h;cases h
   |some j=>rw[hc]at h;have:=zHE hc;simp at h;omega
theorem zDU: ∀{l:List Nd} {o k:Nat} (m:List Nd),cns l o=some k->cns (l++m) o=some k
 |l,0,k,m,h=>by rw[zEq]at h ⊢;exact h
 |[],o+1,k,m,h=>by cases h
 |x::r,o+1,k,m,h=>by
  rw[qBB,zDF]at *
  split at h
  ·cases h
  ·rename_i h0
   rw[if_neg h0]
   cases hc:cns r (o+x.kids.toNat)with
   |none=>rw[hc]at h;cases h
   |some j=>rw[hc]at h;rw[zDU m hc];exact h
theorem zMy: ∀{l:List Nd} {o k:Nat},cns l o=some k->cns (l.take k) o=some k
 |l,0,k,h=>by rw[zEq]at h ⊢;exact h
 |[],o+1,k,h=>by cases h
 |x::r,o+1,k,h=>by
  rw[zDF]at h
  split at h
  ·cases h
  ·rename_i h0
   cases hc:cns r (o+x.kids.toNat)with
   |none=>rw[hc]at h;cases h
   |some j =>
    rw[hc]at h;simp at h;subst h
    rw[List.take_succ_cons,zDF,if_neg h0,zMy hc];rfl
theorem zJc: ∀(l:List Nd) (a b:Nat),cns l (a+b)=(cns l a).bind fun k=>(cns (l.drop k) b).map (· + k)
 |l,0,b=>by rw[zEq];simp
 |[],a+1,b=>by rw[show a+1+b=a+b+1 by omega];rfl
 |x::r,a+1,b=>by
  rw[show a+1+b=a+b+1 by omega,zDF,zDF]
  split
  ·rfl
  ·rw[show a+b+x.kids.toNat=a+x.kids.toNat+b by omega,zJc r (a+x.kids.toNat) b]
   cases cns r (a+x.kids.toNat)with
   |none=>rfl
   |some j =>
    simp only[qBA,qAy,List.drop_succ_cons,Option.map_map]
    congr 1
theorem zKX(n:Nat): ∀(l:List Nd) (o:Nat) (a:Int),l.length<=n->zEB n l ((o:Int)+1) a=match cns l (o+1)with
  |some k=>a+k
  |none=>-1
 |[],o,a,_=>rfl
 |x::r,o,a,hn=>by
  simp only[qAJ]at hn
  rw[zDF]
  unfold zEB
  by_cases h0:x.kids<0
  ·rw[if_pos (.inl h0),if_pos h0]
  ·rw[if_neg h0]
   by_cases h1:x.kids>n
   ·rw[if_pos (.inr h1)]
    cases hc:cns r (o+x.kids.toNat)with
    |none=>rfl
    |some j=>have:=zHE hc;have:=zKl hc;omega
   ·rw[if_neg (by omega)]
    by_cases h2:(o:Int)+1+(x.kids-1)>0
    ·rw[if_pos h2]
     obtain⟨q,hq⟩:∃q:Nat,o+x.kids.toNat=q+1:=⟨o+x.kids.toNat-1,by omega⟩
     rw[hq,show (o:Int)+1+(x.kids-1)=(q:Int)+1 by omega,zKX n r q (a+1) (by omega)]
     cases cns r (q+1)with
     |none=>rfl
     |some k=>show a+1+(k:Int)=a+((k+1:Nat):Int);omega
    ·rw[if_neg h2,show o+x.kids.toNat=0 by omega,zEq];simp
theorem zMv(L:List Nd)(a:Nat): endF L (a:Int)=match cns (L.drop a) 1 with
  |some k=>(a:Int)+k
  |none=>-1:=by
 rw[endF,if_neg (by omega),qAc]
 have:=zKX L.length (L.drop a) 0 a (by rw[qAl];omega)
 simpa using this
theorem zOD(L:List Nd): zDJ L=true↔cns L 1=some L.length:=by
 have h:=zMv L 0
 simp only[qBM]at h
 rw[zDJ,show (0:Int)=((0:Nat):Int)from rfl,h]
 cases hc:cns L 1 with
 |none=>simp
 |some k =>
  have:=zHE hc
  have:=zKl hc
  simp;omega
theorem zJW{L:List Nd}{n k:Nat}(h:cns (L.drop n) 1=some k): endF L (n:Int)=n+k:=by rw[zMv,h]
def zMB: Int->List (List Nd)->List Int
 |_,[]=>[]
 |b,K::KK=>b::zMB (b+K.length) KK
theorem zJp: ∀(j:Nat) {l:List Nd} {k:Nat},cns l j=some k->∃KK:List (List Nd),KK.length=j/\KK.flatten=l.take k/\∀K∈KK,cns K 1=some K.length
 |0,l,k,h=>by rw[zEq]at h;injection h with h;subst h;exact⟨[],rfl,by simp,by simp⟩
 |j+1,l,k,h=>by
  rw[show j+1=1+j by omega,zJc]at h
  cases h1:cns l 1 with
  |none=>rw[h1]at h;cases h
  |some k1 =>
   rw[h1]at h;simp only[qBA]at h
   cases h2:cns (l.drop k1) j with
   |none=>rw[h2]at h;cases h
   |some k2 =>
    rw[h2]at h;simp only[qAy,Option.some.injEq]at h;subst h
    obtain⟨KK,e1,e2,e3⟩:=zJp j h2
    have hl:=zKl h1
    refine⟨l.take k1::KK,by simp[e1],?_,?_⟩
    ·rw[qBa,e2,Nat.add_comm k2 k1,List.take_add]
    ·intro K hK
     rcases qAs.1 hK with rfl|hK
     ·rw[zMy h1,qAT];congr 1;omega
     ·exact e3 K hK
theorem zIZ: ∀(KK:List (List Nd)),(∀K∈KK,cns K 1=some K.length)->cns KK.flatten KK.length=some KK.flatten.length
 |[],_=>by rw[qAa,zEq];rfl
 |K::KK,h=>by
  have h1:=h K (by simp)
  have h2:=zIZ KK (fun K' hK=>h K' (by simp[hK]))
  rw[qAJ,Nat.add_comm,zJc,qBa,zDU _ h1]
  simp only[qBA,List.drop_left,h2,qAy,qAO,Option.some.injEq];omega
theorem zOZ{L:List Nd}{n:Nat}{KK:List (List Nd)}{R:List Nd}(hd:L.drop n=KK.flatten++R)(hw:∀K∈KK,cns K 1=some K.length): ∀i,i<=KK.length->seqE L (n:Int) i=(n:Int)+((KK.take i).flatten.length:Nat)
 |0,_=>by simp[seqE]
 |i+1,hi=>by
  have ih:=zOZ hd hw i (by omega)
  rw[zHT (by omega),ih]
  have hK:KK[i]?=some KK[i]:=qAB (by omega)
  have h1:=hw KK[i] (List.getElem_mem _)
  have hdr:L.drop (n+(KK.take i).flatten.length)=KK[i]++((KK.drop (i+1)).flatten++R):=by
   rw[<-List.drop_drop,hd]
   conv=>lhs;rw[<-qAj i KK,List.flatten_append,qAY]
   rw[List.drop_append_of_le_length (by simp),qAk (by simp),qA9,qAZ (by omega),qBa,qAY]
  have h2:=zJW (L:=L) (n:=n+(KK.take i).flatten.length) (by rw[hdr];exact zDU _ h1)
  rw[show (n:Int)+((KK.take i).flatten.length:Nat)=((n+(KK.take i).flatten.length:Nat):Int) by omega,h2]
  have h9:(KK.take (i+1)).flatten.length=(KK.take i).flatten.length+KK[i].length:=by
   rw[qA3,hK,List.flatten_append,qAO];simp
  omega
theorem zHS: ∀(KK:List (List Nd)) (b:Int),zMB b KK=(List.range KK.length).map (fun i=>b+((KK.take i).flatten.length:Nat))
 |[],b=>rfl
 |K::KK,b=>by
  rw[qAJ,List.range_succ_eq_map,qBN,List.map_map,zMB,zHS KK]
  simp[Function.comp_def]
  intro i _;omega
theorem zTL{L:List Nd}{n:Nat}{KK:List (List Nd)}{R:List Nd}(hd:L.drop n=KK.flatten++R)(hw:∀K∈KK,cns K 1=some K.length){i:Nat}{K:List Nd}(hK:KK[i]?=some K): endF L ((n:Int)+((KK.take i).flatten.length:Nat))=(n:Int)+((KK.take i).flatten.length:Nat)+(K.length:Nat)/\L.drop (n+(KK.take i).flatten.length)=K++((KK.drop (i+1)).flatten++R):=by
 obtain⟨hi,rfl⟩:=qAA.1 hK
 have h1:=hw KK[i] (List.getElem_mem _)
 have hdr:L.drop (n+(KK.take i).flatten.length)=KK[i]++((KK.drop (i+1)).flatten++R):=by
  rw[<-List.drop_drop,hd]
  conv=>lhs;rw[<-qAj i KK,List.flatten_append,qAY]
  rw[List.drop_append_of_le_length (by simp),qAk (by simp),qA9,qAZ (by omega),qBa,qAY]
 have h2:cns (L.drop (n+(KK.take i).flatten.length)) 1=some KK[i].length:=by rw[hdr];exact zDU _ h1
 have h4:=zJW h2
 rw[show (n:Int)+((KK.take i).flatten.length:Nat)=((n+(KK.take i).flatten.length:Nat):Int) by omega]
 exact⟨h4,hdr⟩
structure Node(L:List Nd)(n:Nat)(x:Nd)(KK:List (List Nd))(R:List Nd): Prop where
 drop:L.drop n=x::(KK.flatten++R)
 kids:x.kids=KK.length
 whole:∀K∈KK,cns K 1=some K.length
theorem Node.cnsEq{L:List Nd}{n:Nat}{x:Nd}{KK:List (List Nd)}{R:List Nd}(h:Node L n x KK R): cns (L.drop n) 1=some (KK.flatten.length+1):=by
 rw[h.drop,zDF,if_neg (by have:=h.kids;omega),show 0+x.kids.toNat=KK.length by have:=h.kids;omega,zDU _ (zIZ KK h.whole)];rfl
theorem Node.at{L:List Nd}{n:Nat}{x:Nd}{KK:List (List Nd)}{R:List Nd}(h:Node L n x KK R): L[n]?=some x:=by
 have:=congrArg (·[0]?) h.drop
 simpa using this
theorem Node.next{L:List Nd}{n:Nat}{x:Nd}{KK:List (List Nd)}{R:List Nd}(h:Node L n x KK R): L.drop (n+1)=KK.flatten++R:=by
 rw[<-List.drop_drop,h.drop];rfl
theorem Node.kidsEq{L:List Nd}{n:Nat}{x:Nd}{KK:List (List Nd)}{R:List Nd}(h:Node L n x KK R): zBx L (n:Int)=zMB ((n:Int)+1) KK:=by
 have h1:=zJW h.cnsEq
 rw[zBx,if_neg (by omega),zHS,show zNP L (n:Int)=KK.length by rw[zNP,qAc,h.at];have:=h.kids;simp only;omega]
 refine qA1 fun i hi=>?_
 rw[qBL]at hi
 have:=zOZ h.next h.whole i (by omega)
 rw[show ((n+1:Nat):Int)=(n:Int)+1 by omega]at this
 exact this
theorem zTG{L:List Nd}{n k:Nat}(h:cns (L.drop n) 1=some k): ∃x KK R,Node L n x KK R/\k=KK.flatten.length+1:=by
 cases hl:L.drop n with
 |nil=>rw[hl]at h;cases h
 |cons x r =>
  rw[hl,zDF]at h
  split at h
  ·cases h
  ·rename_i h0
   cases hc:cns r (0+x.kids.toNat)with
   |none=>rw[hc]at h;cases h
   |some j =>
    rw[hc]at h;simp at h;subst h
    obtain⟨KK,e1,e2,e3⟩:=zJp _ hc
    have:=zKl hc
    refine⟨x,KK,r.drop j,⟨by rw[e2,qAj,hl],by rw[e1];omega,e3⟩,?_⟩
    rw[e2,qAT];omega
inductive Tr where
 |mk (n:Nd) (ks:List Tr)
def Tr.hd: Tr->Nd
 | .mk n _=>n
mutual
def Tr.fl: Tr->List Nd
 | .mk n ks=>n::flL ks
def flL: List Tr->List Nd
 |[]=>[]
 |t::r=>t.fl++flL r
end
mutual
def Tr.wf: Tr->Prop
 | .mk n ks=>n.kids=ks.length/\wfL ks
def wfL: List Tr->Prop
 |[]=>True
 |t::r=>t.wf/\wfL r
end
mutual
def Tr.sz: Tr->Nat
 | .mk _ ks=>szL ks+1
def szL: List Tr->Nat
 |[]=>0
 |t::r=>t.sz+szL r
end
mutual
theorem Tr.fl_len: ∀t:Tr,t.fl.length=t.sz
 | .mk _ ks=>by rw[Tr.fl,Tr.sz,qAJ,zLY ks]
theorem zLY: ∀ks:List Tr,(flL ks).length=szL ks
 |[]=>rfl
 |t::r=>by rw[flL,szL,qAO,Tr.fl_len t,zLY r]
end
theorem zGR: ∀{ks:List Tr},wfL ks↔∀k∈ks,k.wf
 |[]=>by simp[wfL]
 |t::r=>by simp[wfL,zGR (ks:=r)]
theorem zJL: ∀(ks:List Tr),flL ks=(ks.map Tr.fl).flatten
 |[]=>rfl
 |t::r=>by rw[flL,qBN,qBa,zJL r]
theorem zFs(t:Tr): 0<t.sz:=by cases t;rw[Tr.sz];omega
theorem zFV: ∀{ks:List Tr} {k:Tr},k∈ks->k.sz<=szL ks
 |t::r,k,h=>by
  rw[szL]
  rcases qAs.1 h with e|e
  ·rw[e];omega
  ·have:=zFV e;omega
mutual
theorem Tr.wf_cns: ∀{t:Tr},t.wf->cns t.fl 1=some t.fl.length
 | .mk n ks,h=>by
  rw[Tr.wf]at h
  rw[Tr.fl,zDF,if_neg (by omega),show 0+n.kids.toNat=ks.length by omega,zOF h.2];rfl
theorem zOF: ∀{ks:List Tr},wfL ks->cns (flL ks) ks.length=some (flL ks).length
 |[],_=>rfl
 |t::r,h=>by
  rw[wfL]at h
  rw[flL,qAJ,show r.length+1=1+r.length by omega,zJc,zDU _ (Tr.wf_cns h.1),qBA,List.drop_left,zOF h.2,qAy,qAO]
  congr 1;omega
end
theorem zOP: ∀(m:Nat) {L:List Nd},L.length<=m->cns L 1=some L.length->∃t:Tr,t.fl=L/\t.wf
 |0,L,hm,h=>by have:=zHE h;omega
 |m+1,L,hm,h=>by
  obtain⟨x,KK,R,hN,hl⟩:=zTG (L:=L) (n:=0) (by simpa using h)
  have hd:=hN.drop
  rw[qBM]at hd
  have hR:R=[]:=by
   have:=congrArg List.length hd
   simp only[qAJ,qAO]at this
   exact qAm (by omega)
  subst hR
  rw[qBG]at hd
  have hlen:KK.flatten.length<=m:=by rw[hd,qAJ]at hm;omega
  have key:∀(KK:List (List Nd)),KK.flatten.length<=m->(∀K∈KK,cns K 1=some K.length)->∃ks:List Tr,flL ks=KK.flatten/\wfL ks/\ks.length=KK.length:=by
   intro KK
   induction KK with
   |nil=>exact fun _ _=>⟨[],rfl,trivial,rfl⟩
   |cons K KK ih =>
    intro hl hw
    rw[qBa,qAO]at hl
    obtain⟨t,e1,w1⟩:=zOP m (L:=K) (by omega) (hw K qA6)
    obtain⟨ks,e2,w2,l2⟩:=ih (by omega) fun K' h'=>hw K' (qAt _ h')
    exact⟨t::ks,by rw[flL,e1,e2,qBa],⟨w1,w2⟩,by rw[qAJ,qAJ,l2]⟩
  obtain⟨ks,e,w,l⟩:=key KK hlen hN.whole
  exact⟨.mk x ks,by rw[Tr.fl,e,hd],by rw[Tr.wf];exact⟨by rw[hN.kids,l],w⟩⟩
theorem zIK{L:List Nd}: zDJ L=true↔∃t:Tr,t.fl=L/\t.wf:=by
 rw[zOD]
 constructor
 ·exact zOP L.length (qAM _)
 ·rintro⟨t,rfl,h⟩;exact Tr.wf_cns h
structure At(L:List Nd)(n:Nat)(t:Tr): Prop where
 pre:∃R,L.drop n=t.fl++R
 wf:t.wf
theorem At.top{t:Tr}(h:t.wf): At t.fl 0 t:=⟨⟨[],by simp⟩,h⟩
theorem At.node{L:List Nd}{n:Nat}{x:Nd}{ks:List Tr}(h:At L n (.mk x ks)): ∃R,Node L n x (ks.map Tr.fl) R:=by
 obtain⟨R,hd⟩:=h.pre
 have hw:=h.wf
 rw[Tr.wf]at hw
 refine⟨R,by rw[hd,Tr.fl,zJL];rfl,by rw[qAK];exact hw.1,fun K hK=>?_⟩
 obtain⟨k,hk,rfl⟩:=qAu.1 hK
 exact Tr.wf_cns (zGR.1 hw.2 k hk)
theorem At.here{L:List Nd}{n:Nat}{x:Nd}{ks:List Tr}(h:At L n (.mk x ks)): L[n]?=some x:=by
 obtain⟨R,hN⟩:=h.node;exact hN.at
theorem At.hd{L:List Nd}{n:Nat}{t:Tr}(h:At L n t): L[n]?=some t.hd:=by cases t;exact h.here
theorem At.len{L:List Nd}{n:Nat}{t:Tr}(h:At L n t): n+t.sz<=L.length:=by
 obtain⟨R,hd⟩:=h.pre
 have:=congrArg List.length hd
 rw[qAl,qAO,Tr.fl_len]at this
 have:=zFs t;omega
def kidAt(n:Nat)(ks:List Tr)(i:Nat): Nat:=n+1+szL (ks.take i)
theorem zGV: ∀(a b:List Tr),szL (a++b)=szL a+szL b
 |[],b=>by rw[qA9,szL];omega
 |t::a,b=>by rw[qBB,szL,szL,zGV a b];omega
theorem zDP{n:Nat}{ks:List Tr}{i:Nat}{k:Tr}(h:ks[i]?=some k): kidAt n ks (i+1)=kidAt n ks i+k.sz:=by
 unfold kidAt
 rw[qA3,h,zGV,Option.toList_some,szL,szL];omega
theorem zCV(n:Nat)(ks:List Tr): kidAt n ks 0=n+1:=by simp[kidAt,szL]
theorem zHj(n:Nat)(ks:List Tr): kidAt n ks ks.length=n+1+szL ks:=by rw[kidAt,qBQ]
theorem zPf: ∀(ks:List Tr),(ks.map Tr.fl).flatten.length=szL ks
 |ks=>by rw[<-zJL,zLY]
theorem At.kid{L:List Nd}{n:Nat}{x:Nd}{ks:List Tr}(h:At L n (.mk x ks)){i:Nat}{k:Tr}(hk:ks[i]?=some k): At L (kidAt n ks i) k:=by
 obtain⟨R,hN⟩:=h.node
 have hw:=h.wf
 rw[Tr.wf]at hw
 have h1:=(zTL hN.next hN.whole (i:=i) (K:=k.fl) (by rw[qAG,hk];rfl)).2
 rw[<-List.map_take,zPf]at h1
 exact⟨⟨_,h1⟩,zGR.1 hw.2 k (qAE hk)⟩
theorem At.endF{L:List Nd}{n:Nat}{t:Tr}(h:At L n t): endF L (n:Int)=((n+t.sz:Nat):Int):=by
 obtain⟨R,hd⟩:=h.pre
 rw[zJW (k:=t.fl.length) (by rw[hd];exact zDU _ (Tr.wf_cns h.wf)),Tr.fl_len];omega
theorem At.kids{L:List Nd}{n:Nat}{x:Nd}{ks:List Tr}(h:At L n (.mk x ks)): zBx L (n:Int)=(List.range ks.length).map fun i=>((kidAt n ks i:Nat):Int):=by
 obtain⟨R,hN⟩:=h.node
 rw[hN.kidsEq,zHS,qAK]
 refine qA1 fun i _=>?_
 rw[<-List.map_take,zPf,kidAt];omega
theorem At.kids_get{L:List Nd}{n:Nat}{x:Nd}{ks:List Tr}(h:At L n (.mk x ks)){i:Nat}(hi:i<ks.length): (zBx L (n:Int))[i]?=some ((kidAt n ks i:Nat):Int):=by
 rw[h.kids,qAG,List.getElem?_range hi];rfl
theorem At.kids_len{L:List Nd}{n:Nat}{x:Nd}{ks:List Tr}(h:At L n (.mk x ks)): (zBx L (n:Int)).length=ks.length:=by
 rw[h.kids,qAK,qA2]
theorem At.kidn{L:List Nd}{n:Nat}{x:Nd}{ks:List Tr}(h:At L n (.mk x ks)): x.kids=ks.length:=by
 have:=h.wf;rw[Tr.wf]at this;exact this.1
theorem At.sub{L:List Nd}{n:Nat}{t:Tr}(h:At L n t): subF L (n:Int)=t.fl:=by
 obtain⟨R,hd⟩:=h.pre
 rw[subF,h.endF,if_neg (by omega),qAc,qAc,List.drop_take,hd,show n+t.sz-n=t.fl.length by rw[Tr.fl_len];omega,List.take_left]
open _root_.Go.Proofs.Tryz
open Go.Sx Go.RowKit
attribute [local irreducible] Ylds zA3 alex zBc zBL awp zAc zBd zBi zBD zBI zBS zA5 zBT zBY zBe
theorem zUh(L:List Nd)(hL:L.length<=2000000): zAc prog 10 [zAm L] (zAm L):=by
 refine zAX func10 rfl ntmps10 results10 rfl ?_
 intro wb St0
 repeat' first|apply en_n|apply zAE|apply zAA|apply zAD|apply w0|(apply zVN (hd:=rfl) (hro:=rfl);exact zCf;exact zAa;exact zFU;exact rfl)|(apply aApp (hd:=rfl) (hro:=rfl);exact rfl;exact rfl;(first|exact zAq rfl|exact Co_bb rfl rfl rfl|exact Co_nn rfl);(first|exact rfl|(simp;done));exact rfl;(with_reducible exact zCf);(with_reducible exact zAa);(with_reducible exact zIw);(with_reducible exact zGF);(first|exact zC8 (fun _=>rfl)|exact zDK rfl))|apply ay (hd:=rfl)|exact zAC rfl|exact zA4 rfl|exact zAs rfl|apply zAM|apply zAL
 ·simp only[qAK];omega
 ·refine zLJ rfl rfl ?_ ?_
  ·simp
  ·rfl

/- Parts. -/
import Derived.Lib.SlicesCompact
import Derived.Test.YtjcgiiedaccjpaaGreatDoorPAF
import Derived.Test.YtjcgiiedaccjpaaGreatDoorPAI
set_option maxHeartbeats 16000000
namespace Go.Proofs.YtjcgiiedaccjpaaGreatDoor
open _root_.Go.Proofs.Tryz
open Go.Sx Go.RowKit
attribute [local irreducible] Ylds zBJ alex zBk zBZ awp zAX FCall zBo zBR zBX zBb zBD zBd zBj zBn
theorem zGB(L:List Nd)(at_:Int)(hL:L.length<=2000000): zAX prog 80 [zAu L,i64 at_] (zBq (zB3 L at_)):=by
 refine zAc func80 rfl ntmps80 results80 rfl ?_
 intro wb St0
 repeat' first|apply en_n|apply zAE|apply zAA|apply zAD|apply w0|(apply zNO (hd:=rfl) (hro:=rfl);exact zEP;exact zBK;exact zKG;exact rfl)|(apply zAP (hb:=zMs) (hc:=rEnd L _ hL))|refine ayA rfl ?_|apply ay (hd:=rfl)|exact zCt rfl rfl|refine zBN rfl rfl ?_|(apply zA3;exact rfl;all_goals intro hb)|apply zAH|apply zAM|apply zAN|apply en_r|apply zAO|(apply zIU;exact rfl;exact rfl;(first|exact rfl|(simp;done)))|exact zAF|refine zAL rfl ?_
 ·rw[zB3,if_pos hb];rfl
 ·have:=zHO L at_;omega
 ·obtain⟨k,x,hak,hx,h0,h1,he,hn,hf⟩:=kid_at hb
  subst hak
  refine zAt (α:=Nat) (fun i=>i<=x.kids.toNat/\0<=seqE L ((k:Int)+1) i) (fun i=>[(0,.d (zAu L)),(1,.d (i64 (k:Int))),(5,.buf 0 (((List.range i).map (seqE L ((k:Int)+1))).map ival).length),(6,.d (i64 (seqE L ((k:Int)+1) i))),(7,.d (i64 (i:Int)))])
   (fun i=>[.buf false 3 1 (((List.range i).map (seqE L ((k:Int)+1))).map ival)]) (fun i=>x.kids.toNat-i) 0 ⟨qAO _,by simp only[seqE];omega⟩
   (zAV (Le_all rfl) (zAT rfl rfl zAW) rfl rfl) ?_
  rintro i ⟨hi1,hi2⟩
  have hg:=zKT hi2
  have hk:=(qAA.1 hx).1
  repeat' first|apply en_n|apply zAE|apply zAA|apply zAD|apply w0|(apply zAP (hb:=zMs) (hc:=rEnd L _ hL))|refine aJA ?_|(apply aApp (hd:=rfl) (hro:=rfl);exact rfl;exact rfl;(first|exact zAr rfl|exact Co_bb rfl rfl rfl|exact Co_nn rfl);(first|exact rfl|(simp;done));exact rfl;(with_reducible exact zEP);(with_reducible exact zBK);(with_reducible exact zNW);(with_reducible exact zLJ);(first|exact zCe (fun _=>rfl)|exact zDP rfl))|refine ayA rfl ?_|refine ayL rfl ?_|apply ay (hd:=rfl)|exact zCt rfl rfl|refine zBN rfl rfl ?_|(apply zA3;exact rfl;all_goals intro hb)|apply zAH|apply zAM|apply zAN|apply zAz|apply en_e|apply eb_n|apply eb_e|apply zAO|(apply zIU;exact rfl;exact rfl;(first|exact rfl|(simp;done)))|exact zAF|refine zAL rfl ?_
  ·simp only[qAE,qA6,qAr];omega
  ·omega
  ·have h3:0<=seqE L ((k:Int)+1) (i+1):=by
    rcases Int.lt_or_le (seqE L ((k:Int)+1) (i+1)) 0 with h4|h4
    ·have:=zIQ (j:=x.kids.toNat) h4 oM;omega
    ·exact h4
   refine⟨i+1,⟨by omega,h3⟩,by omega,?_⟩
   refine zAV (Le_cons rfl (Le_cons rfl (zCR rfl ?_ (Le_d rfl ?_ (Le_all rfl))))) (zBa rfl rfl (zOQ _ i).symm zAW) rfl rfl
   ·simp only[qAE,qA6,qAr]
   ·rw[zFs hi2]
  ·rw[hf,show i=x.kids.toNat by omega];rfl
def subF(L:List Nd)(a:Int): List Nd:=if endF L a<0 then[]else(L.take (endF L a).toNat).drop a.toNat
def subE(L:List Nd)(a:Int): Int:=if endF L a<0 then 20 else 0
theorem zX6{α:Type}{ys:List α}{n:Nat}{z:α}(h:ys.length=n): ys.take (List.replicate n z).length++(List.replicate n z).drop ys.length=ys:=by
 subst h;simp
theorem zcW(L:List Nd)(at_:Int)(hL:L.length<=2000000): zAX prog 129 [zAu L,i64 at_] (.tup [zAu (subF L at_),i64 (subE L at_)]):=by
 refine zAc func129 rfl ntmps129 results129 rfl ?_
 intro wb St0
 have hbd:=zHO L at_
 repeat' first|apply en_n|apply zAE|apply zAA|apply zAD|apply w0|(refine zQC 22 0 rfl rfl rfl ?_)|(apply zAP (hb:=zL7) (hc:=zMS L _ hL))|(apply zdB (hd:=rfl) (hro:=rfl);exact rfl;exact rfl;(with_reducible exact zCn);(with_reducible exact zAe);(with_reducible exact zZH);exact rfl;exact rfl;(with_reducible exact zGM))|(refine zdE (sz:=4) (hro:=rfl) (hd:=(rfl:Nat.blt _ _=true)) rfl rfl (List.length_replicate ..).symm (zAr rfl) ?_ (zCe (fun _=>rfl)) ?_;(with_reducible exact zAe))|refine ayA rfl ?_|apply ay (hd:=rfl)|exact zCt rfl rfl|refine zI1 rfl rfl ?_|(apply Y_sl;(first|exact zAr rfl|exact Co_bb rfl rfl rfl|exact Co_nn rfl);(with_reducible exact zAe);exact rfl;exact rfl;exact fun _=>rfl)|(apply zA3;exact rfl;all_goals intro hb)|apply zAM|apply zAN|apply en_r|apply zAO|(apply zcm;exact rfl;exact rfl)|exact zAF|refine zAL rfl ?_
 ·rw[subF,if_pos hb];rfl
 ·rw[subE,if_pos hb]
 ·omega
 ·omega
 ·omega
 ·have hy:((L.take (endF L at_).toNat).drop at_.toNat).length=(endF L at_-at_).toNat:=by rw[qAg,qAU];omega
  have hc:=zX6 (ys:=((L.take (endF L at_).toNat).drop at_.toNat).map Nd.av) (z:=Nd.av ⟨0,[],0,0⟩) (n:=(endF L at_-at_).toNat) (by rw[qAE,hy])
  refine zbN rfl rfl ?_ rfl ?_ ?_
  ·exact((congrArg List.length hc).trans (by rw[qAE,hy])).symm
  ·rw[subF,if_neg hb];exact congrArg D.slice hc
  ·rw[subE,if_neg hb]
def zbW(n:Nd)(KK:List (List Nd)): List Nd:={ n with kids:=KK.length }::KK.flatten
def mkC(n:Nd)(KK:List (List Nd))(i:Nat): List Nd:={ n with kids:=KK.length }::(KK.take i).flatten
theorem zMk{n:Nd}{KK:List (List Nd)}{i:Nat}{v:List Nd}(hv:KK[i]?=some v): (mkC n KK (i+1)).map Nd.av=(mkC n KK i).map Nd.av++v.map Nd.av:=by
 simp[mkC,List.take_add_one,hv]
theorem zZt(n:Nd)(KK:List (List Nd))(i:Nat): (mkC n KK i).length<=KK.flatten.length+1:=by
 have:KK.flatten=(KK.take i).flatten++(KK.drop i).flatten:=by rw[<-qBd,qAi]
 rw[this];simp only[mkC,qAK,qAH];omega
theorem zWO(n:Nd)(KK:List (List Nd))(h1:KK.length<=2000000)(h2:KK.flatten.length<=2000000): zAX prog 21 [n.av,zC0 KK] (zAu (zbW n KK)):=by
 refine zAc func21 rfl ntmps21 results21 rfl ?_
 intro wb St0
 repeat' first|apply en_n|apply zAE|apply zAA|apply zAD|apply w0|(apply zdC (hd:=rfl) (hro:=rfl);exact zCn;exact zAe;exact zFn;exact rfl;exact rfl;exact zAL rfl zAF;exact rfl)|refine aBoA ?_|refine ayA rfl ?_|(refine w0' ?_)|refine aStA ?_|apply zAH
 ·refine zAt (α:=Nat) (fun i=>i<=KK.length) (fun i=>[(13,.d (zC0 KK)),(14,.d (i64 (KK.length:Int))),(15,.d (i64 (i:Int))),(5,.buf 1 ((mkC n KK i).map Nd.av).length)])
   (fun i=>[.box [.d (.val (.int .i64 n.kind)),.d (.val (.string ⟨n.text.toArray⟩)),.d (.val (.int .i64 n.num)),.d (.val (.int .i64 KK.length))],.buf false 47 4 ((mkC n KK i).map Nd.av)]) (fun i=>KK.length-i) 0 (qAO _)
   (zAV (Le_cons rfl (Le_d rfl rfl (Le_cons rfl (zCR rfl rfl Le_nil)))) (zAT rfl rfl (zAT rfl rfl zAW)) rfl rfl) ?_
  intro i hi
  repeat' first|apply en_n|apply zAE|apply zAA|apply zAD|apply w0|(apply aI (hd:=rfl);(first|exact zAr rfl|exact Co_bb rfl rfl rfl|exact Co_nn rfl);exact rfl;(with_reducible exact zB7);exact fun _=>rfl;rotate_left;intro v hv;rotate_right)|(apply aApp (hd:=rfl) (hro:=rfl);exact rfl;exact rfl;(first|exact zAr rfl|exact Co_bb rfl rfl rfl|exact Co_nn rfl);(first|exact rfl|(simp;done));exact rfl;(with_reducible exact zCn);(with_reducible exact zAe);(with_reducible exact zHv);(with_reducible exact zGM);(first|exact zCe (fun _=>rfl)|exact zDP rfl))|refine ayA rfl ?_|apply ay (hd:=rfl)|exact zCt rfl rfl|refine zBN rfl rfl ?_|(apply zA3;exact rfl;all_goals intro hb)|apply zAH|apply zAM|apply zAN|apply zAz|apply en_e|apply eb_n|apply eb_e|apply zAO|(apply zIU;exact rfl;exact rfl;(first|exact rfl|(simp;done)))
  ·omega
  ·have h3:=zZt n KK (i+1)
   rw[<-qAE (f:=Nd.av),zMk (i:=i) hv,qAH]at h3
   omega
  ·omega
  ·have hl:i<KK.length:=by omega
   refine⟨i+1,by omega,by omega,zAV (Le_cons rfl (Le_cons rfl (Le_cons rfl (zCR rfl ?_ Le_nil)))) (zAT rfl rfl (zBa rfl rfl (zMk (i:=i) hv) zAW)) rfl rfl⟩
   rw[zMk (i:=i) hv,qAH]
  ·rw[zbW,show i=KK.length by omega,mkC,qBF];rfl
end Go.Proofs.YtjcgiiedaccjpaaGreatDoor
namespace Go.Proofs.YtjcgiiedaccjpaaGreatDoor
open _root_.Go.Proofs.Tryz
open Go.Sx Go.RowKit
theorem zDh: zCk prog 47=some [(0,1),(1,1),(2,1),(3,1)]:=by kernel_rfl
theorem zGa: zCk prog 163=some [(0,1),(1,1),(2,1),(3,1)]:=by kernel_rfl
theorem zXP: zAQ prog 112=true:=by kernel_rfl
theorem zG1: zAQ prog 41=true:=by kernel_rfl
theorem zUs: zAQ prog 111=true:=by kernel_rfl
theorem zbh: zAQ prog 74=true:=by kernel_rfl
theorem zbf: zAQ prog 141=true:=by kernel_rfl
theorem zaG: zAQ prog 138=true:=by kernel_rfl
theorem zRG: zAQ prog 114=true:=by kernel_rfl
def arrT: List UInt8:=[45,62]
def intT: List UInt8:=[105,110,116]
def texT: List UInt8:=[116,101,120,116]
def refT: List UInt8:=[114,101,102]
def zCU(n:Nd): Bool :=
 if n.kind=31 then decide (n.kids=0/\n.text=[]/\0<=n.num/\n.num<=1048576)
 else if n.kind≠32\/n.num≠0 then false
 else if n.text=arrT then decide (n.kids=2)
 else if n.text=intT\/n.text=texT then decide (n.kids=0)
 else if n.text=refT then decide (n.kids=1)
 else zEs ⟨2,n.text,0,0⟩&&decide (n.kids<=8)
def okT(L:List Nd): Bool:=decide (L.length<=4000)&&zDA L&&L.all zCU
def ckT(L:List Nd): Int:=if okT L then 0 else 90
def addV(acc:List Int)(n:Nd): List Int:=if n.kind=31/\n.num∉acc then acc++[n.num]else acc
def zEf(L:List Nd): List Int:=L.foldl addV []
def zJo(L:List Nd): List Int:=if okT L then zEf L else[]
end Go.Proofs.YtjcgiiedaccjpaaGreatDoor
namespace Go.Proofs.YtjcgiiedaccjpaaGreatDoor
def cns: List Nd->Nat->Option Nat
 |_,0=>some 0
 |[],_+1=>none
 |x::r,o+1=>if x.kids<0 then none else(cns r (o+x.kids.toNat)).map (· + 1)
theorem zGK(l:List Nd): cns l 0=some 0:=by cases l <;> rfl
theorem zEQ(x:Nd)(r:List Nd)(o:Nat): cns (x::r) (o+1)=if x.kids<0 then none else(cns r (o+x.kids.toNat)).map (· + 1):=rfl
theorem zO2: ∀{l:List Nd} {o k:Nat},cns l o=some k->k<=l.length
 |l,0,k,h=>by rw[zGK]at h;injection h with h;omega
 |[],o+1,k,h=>by cases h
 |x::r,o+1,k,h=>by
  rw[zEQ]at h
  split at h
  ·cases h
  ·cases hc:cns r (o+x.kids.toNat)with
   |none=>rw[hc]at h;cases h
   |some j=>rw[hc]at h;have:=zO2 hc;simp at h;simp;omega
theorem zJ9: ∀{l:List Nd} {o k:Nat},cns l o=some k->o<=k
 |l,0,k,h=>by omega
 |[],o+1,k,h=>by cases h
 |x::r,o+1,k,h=>by
  rw[zEQ]at h
  split at h
  ·cases h
  ·cases hc:cns r (o+x.kids.toNat)with
   |none=>rw[hc]at h;cases h
   |some j=>rw[hc]at h;have:=zJ9 hc;simp at h;omega
theorem zEb: ∀{l:List Nd} {o k:Nat} (m:List Nd),cns l o=some k->cns (l++m) o=some k
 |l,0,k,m,h=>by rw[zGK]at h ⊢;exact h
 |[],o+1,k,m,h=>by cases h
 |x::r,o+1,k,m,h=>by
  rw[qBL,zEQ]at *
  split at h
  ·cases h
  ·rename_i h0
   rw[if_neg h0]
   cases hc:cns r (o+x.kids.toNat)with
   |none=>rw[hc]at h;cases h
   |some j=>rw[hc]at h;rw[zEb m hc];exact h
theorem zRh: ∀{l:List Nd} {o k:Nat},cns l o=some k->cns (l.take k) o=some k
 |l,0,k,h=>by rw[zGK]at h ⊢;exact h
 |[],o+1,k,h=>by cases h
 |x::r,o+1,k,h=>by
  rw[zEQ]at h
  split at h
  ·cases h
  ·rename_i h0
   cases hc:cns r (o+x.kids.toNat)with
   |none=>rw[hc]at h;cases h
   |some j =>
    rw[hc]at h;simp at h;subst h
    rw[qBi,zEQ,if_neg h0,zRh hc];rfl
theorem zLG: ∀(l:List Nd) (a b:Nat),cns l (a+b)=(cns l a).bind fun k=>(cns (l.drop k) b).map (· + k)
 |l,0,b=>by rw[zGK];simp
 |[],a+1,b=>by rw[show a+1+b=a+b+1 by omega];rfl
 |x::r,a+1,b=>by
  rw[show a+1+b=a+b+1 by omega,zEQ,zEQ]
  split
  ·rfl
  ·rw[show a+b+x.kids.toNat=a+x.kids.toNat+b by omega,zLG r (a+x.kids.toNat) b]
   cases cns r (a+x.kids.toNat)with
   |none=>rfl
   |some j =>
    simp only[qBQ,qBG,List.drop_succ_cons,Option.map_map]
    congr 1
theorem zOo(n:Nat): ∀(l:List Nd) (o:Nat) (a:Int),l.length<=n->zF5 n l ((o:Int)+1) a=match cns l (o+1)with
  |some k=>a+k
  |none=>-1
 |[],o,a,_=>rfl
 |x::r,o,a,hn=>by
  simp only[qAK]at hn
  rw[zEQ]
  unfold zF5
  by_cases h0:x.kids<0
  ·rw[if_pos (.inl h0),if_pos h0]
  ·rw[if_neg h0]
   by_cases h1:x.kids>n
   ·rw[if_pos (.inr h1)]
    cases hc:cns r (o+x.kids.toNat)with
    |none=>rfl
    |some j=>have:=zJ9 hc;have:=zO2 hc;omega
   ·rw[if_neg oM]
    by_cases h2:(o:Int)+1+(x.kids-1)>0
    ·rw[if_pos h2]
     obtain⟨q,hq⟩:∃q:Nat,o+x.kids.toNat=q+1:=⟨o+x.kids.toNat-1,by omega⟩
     rw[hq,show (o:Int)+1+(x.kids-1)=(q:Int)+1 by omega,zOo n r q (a+1) oM]
     cases cns r (q+1)with
     |none=>rfl
     |some k=>show a+1+(k:Int)=a+((k+1:Nat):Int);omega
    ·rw[if_neg h2,show o+x.kids.toNat=0 by omega,zGK];simp
theorem zRb(L:List Nd)(a:Nat): endF L (a:Int)=match cns (L.drop a) 1 with
  |some k=>(a:Int)+k
  |none=>-1:=by
 rw[endF,if_neg oM,qAT]
 have:=zOo L.length (L.drop a) 0 a (by rw[qAg];omega)
 simpa using this
theorem zGX(L:List Nd): zDA L=true↔cns L 1=some L.length:=by
 have h:=zRb L 0
 simp only[qAp]at h
 rw[zDA,show (0:Int)=((0:Nat):Int)from rfl,h]
 cases hc:cns L 1 with
 |none=>simp
 |some k =>
  have:=zJ9 hc
  have:=zO2 hc
  simp;omega
theorem zNF{L:List Nd}{n k:Nat}(h:cns (L.drop n) 1=some k): endF L (n:Int)=n+k:=by rw[zRb,h]
def zLm: Int->List (List Nd)->List Int
 |_,[]=>[]
 |b,K::KK=>b::zLm (b+K.length) KK
theorem zNr: ∀(j:Nat) {l:List Nd} {k:Nat},cns l j=some k->∃KK:List (List Nd),KK.length=j/\KK.flatten=l.take k/\∀K∈KK,cns K 1=some K.length
 |0,l,k,h=>by rw[zGK]at h;injection h with h;subst h;exact⟨[],rfl,by simp,by simp⟩
 |j+1,l,k,h=>by
  rw[show j+1=1+j by omega,zLG]at h
  cases h1:cns l 1 with
  |none=>rw[h1]at h;cases h
  |some k1 =>
   rw[h1]at h;simp only[qBQ]at h
   cases h2:cns (l.drop k1) j with
   |none=>rw[h2]at h;cases h
   |some k2 =>
    rw[h2]at h;simp only[qBG,qBt]at h;subst h
    obtain⟨KK,e1,e2,e3⟩:=zNr j h2
    have hl:=zO2 h1
    refine⟨l.take k1::KK,by simp[e1],?_,?_⟩
    ·rw[qA7,e2,Nat.add_comm k2 k1,List.take_add]
    ·intro K hK
     rcases qAq.1 hK with rfl|hK
     ·rw[zRh h1,qAU];congr 1;omega
     ·exact e3 K hK
theorem zL8: ∀(KK:List (List Nd)),(∀K∈KK,cns K 1=some K.length)->cns KK.flatten KK.length=some KK.flatten.length
 |[],_=>by rw[qAb,zGK];rfl
 |K::KK,h=>by
  have h1:=h K sI
  have h2:=zL8 KK (fun K' hK=>h K' (by simp[hK]))
  rw[qAK,Nat.add_comm,zLG,qA7,zEb _ h1]
  simp only[qBQ,List.drop_left,h2,qBG,qAH,qBt];omega
theorem zTl{L:List Nd}{n:Nat}{KK:List (List Nd)}{R:List Nd}(hd:L.drop n=KK.flatten++R)(hw:∀K∈KK,cns K 1=some K.length): ∀i,i<=KK.length->seqE L (n:Int) i=(n:Int)+((KK.take i).flatten.length:Nat)
 |0,_=>by simp[seqE]
 |i+1,hi=>by
  have ih:=zTl hd hw i oM
  rw[zFs oM,ih]
  have hK:KK[i]?=some KK[i]:=qAB oM
  have h1:=hw KK[i] (qBc _)
  have hdr:L.drop (n+(KK.take i).flatten.length)=KK[i]++((KK.drop (i+1)).flatten++R):=by
   rw[<-qBs,hd]
   conv=>lhs;rw[<-qAi i KK,qBd,qAY]
   rw[List.drop_append_of_le_length sI,qAa sI,qA9,qAW oM,qA7,qAY]
  have h2:=zNF (L:=L) (n:=n+(KK.take i).flatten.length) (by rw[hdr];exact zEb _ h1)
  rw[show (n:Int)+((KK.take i).flatten.length:Nat)=((n+(KK.take i).flatten.length:Nat):Int) by omega,h2]
  have h9:(KK.take (i+1)).flatten.length=(KK.take i).flatten.length+KK[i].length:=by
   rw[qAu,hK,qBd,qAH];simp
  omega
theorem zKS: ∀(KK:List (List Nd)) (b:Int),zLm b KK=(List.range KK.length).map (fun i=>b+((KK.take i).flatten.length:Nat))
 |[],b=>rfl
 |K::KK,b=>by
  rw[qAK,List.range_succ_eq_map,qA1,qBo,zLm,zKS KK]
  simp[Function.comp_def]
  intro i _;omega
theorem zZy{L:List Nd}{n:Nat}{KK:List (List Nd)}{R:List Nd}(hd:L.drop n=KK.flatten++R)(hw:∀K∈KK,cns K 1=some K.length){i:Nat}{K:List Nd}(hK:KK[i]?=some K): endF L ((n:Int)+((KK.take i).flatten.length:Nat))=(n:Int)+((KK.take i).flatten.length:Nat)+(K.length:Nat)/\L.drop (n+(KK.take i).flatten.length)=K++((KK.drop (i+1)).flatten++R):=by
 obtain⟨hi,rfl⟩:=qAA.1 hK
 have h1:=hw KK[i] (qBc _)
 have hdr:L.drop (n+(KK.take i).flatten.length)=KK[i]++((KK.drop (i+1)).flatten++R):=by
  rw[<-qBs,hd]
  conv=>lhs;rw[<-qAi i KK,qBd,qAY]
  rw[List.drop_append_of_le_length sI,qAa sI,qA9,qAW oM,qA7,qAY]
 have h2:cns (L.drop (n+(KK.take i).flatten.length)) 1=some KK[i].length:=by rw[hdr];exact zEb _ h1
 have h4:=zNF h2
 rw[show (n:Int)+((KK.take i).flatten.length:Nat)=((n+(KK.take i).flatten.length:Nat):Int) by omega]
 exact⟨h4,hdr⟩
structure Node(L:List Nd)(n:Nat)(x:Nd)(KK:List (List Nd))(R:List Nd): Prop where
 drop:L.drop n=x::(KK.flatten++R)
 kids:x.kids=KK.length
 whole:∀K∈KK,cns K 1=some K.length
theorem Node.cnsEq{L:List Nd}{n:Nat}{x:Nd}{KK:List (List Nd)}{R:List Nd}(h:Node L n x KK R): cns (L.drop n) 1=some (KK.flatten.length+1):=by
 rw[h.drop,zEQ,if_neg (by have:=h.kids;omega),show 0+x.kids.toNat=KK.length by have:=h.kids;omega,zEb _ (zL8 KK h.whole)];rfl
theorem Node.at{L:List Nd}{n:Nat}{x:Nd}{KK:List (List Nd)}{R:List Nd}(h:Node L n x KK R): L[n]?=some x:=by
 have:=congrArg (·[0]?) h.drop
 simpa using this
theorem Node.next{L:List Nd}{n:Nat}{x:Nd}{KK:List (List Nd)}{R:List Nd}(h:Node L n x KK R): L.drop (n+1)=KK.flatten++R:=by
 rw[<-qBs,h.drop];rfl
theorem Node.kidsEq{L:List Nd}{n:Nat}{x:Nd}{KK:List (List Nd)}{R:List Nd}(h:Node L n x KK R): zB3 L (n:Int)=zLm ((n:Int)+1) KK:=by
 have h1:=zNF h.cnsEq
 rw[zB3,if_neg oM,zKS,show zSQ L (n:Int)=KK.length by rw[zSQ,qAT,h.at];have:=h.kids;simp only;omega]
 refine qBP fun i hi=>?_
 rw[qBY]at hi
 have:=zTl h.next h.whole i oM
 rw[show ((n+1:Nat):Int)=(n:Int)+1 by omega]at this
 exact this
theorem zUM{L:List Nd}{n k:Nat}(h:cns (L.drop n) 1=some k): ∃x KK R,Node L n x KK R/\k=KK.flatten.length+1:=by
 cases hl:L.drop n with
 |nil=>rw[hl]at h;cases h
 |cons x r =>
  rw[hl,zEQ]at h
  split at h
  ·cases h
  ·rename_i h0
   cases hc:cns r (0+x.kids.toNat)with
   |none=>rw[hc]at h;cases h
   |some j =>
    rw[hc]at h;simp at h;subst h
    obtain⟨KK,e1,e2,e3⟩:=zNr _ hc
    have:=zO2 hc
    refine⟨x,KK,r.drop j,⟨by rw[e2,qAi,hl],by rw[e1];omega,e3⟩,?_⟩
    rw[e2,qAU];omega
inductive Tr where
 |mk (n:Nd) (ks:List Tr)
def Tr.hd: Tr->Nd
 | .mk n _=>n
mutual
def Tr.fl: Tr->List Nd
 | .mk n ks=>n::flL ks
def flL: List Tr->List Nd
 |[]=>[]
 |t::r=>t.fl++flL r
end
mutual
def Tr.wf: Tr->Prop
 | .mk n ks=>n.kids=ks.length/\wfL ks
def wfL: List Tr->Prop
 |[]=>True
 |t::r=>t.wf/\wfL r
end
mutual
def Tr.sz: Tr->Nat
 | .mk _ ks=>szL ks+1
def szL: List Tr->Nat
 |[]=>0
 |t::r=>t.sz+szL r
end
mutual
theorem Tr.fl_len: ∀t:Tr,t.fl.length=t.sz
 | .mk _ ks=>by rw[Tr.fl,Tr.sz,qAK,zM2 ks]
theorem zM2: ∀ks:List Tr,(flL ks).length=szL ks
 |[]=>rfl
 |t::r=>by rw[flL,szL,qAH,Tr.fl_len t,zM2 r]
end
theorem zGp: ∀{ks:List Tr},wfL ks↔∀k∈ks,k.wf
 |[]=>by simp[wfL]
 |t::r=>by simp[wfL,zGp (ks:=r)]
theorem zGH: ∀(ks:List Tr),flL ks=(ks.map Tr.fl).flatten
 |[]=>rfl
 |t::r=>by rw[flL,qA1,qA7,zGH r]
theorem zDy(t:Tr): 0<t.sz:=by cases t;rw[Tr.sz];omega
theorem zEE: ∀{ks:List Tr} {k:Tr},k∈ks->k.sz<=szL ks
 |t::r,k,h=>by
  rw[szL]
  rcases qAq.1 h with e|e
  ·rw[e];omega
  ·have:=zEE e;omega
mutual
theorem Tr.wf_cns: ∀{t:Tr},t.wf->cns t.fl 1=some t.fl.length
 | .mk n ks,h=>by
  rw[Tr.wf]at h
  rw[Tr.fl,zEQ,if_neg oM,show 0+n.kids.toNat=ks.length by omega,zTL h.2];rfl
theorem zTL: ∀{ks:List Tr},wfL ks->cns (flL ks) ks.length=some (flL ks).length
 |[],_=>rfl
 |t::r,h=>by
  rw[wfL]at h
  rw[flL,qAK,show r.length+1=1+r.length by omega,zLG,zEb _ (Tr.wf_cns h.1),qBQ,List.drop_left,zTL h.2,qBG,qAH]
  congr 1;omega
end
theorem zTZ: ∀(m:Nat) {L:List Nd},L.length<=m->cns L 1=some L.length->∃t:Tr,t.fl=L/\t.wf
 |0,L,hm,h=>by have:=zJ9 h;omega
 |m+1,L,hm,h=>by
  obtain⟨x,KK,R,hN,hl⟩:=zUM (L:=L) (n:=0) (by simpa using h)
  have hd:=hN.drop
  rw[qAp]at hd
  have hR:R=[]:=by
   have:=congrArg List.length hd
   simp only[qAK,qAH]at this
   exact qAf oM
  subst hR
  rw[qA0]at hd
  have hlen:KK.flatten.length<=m:=by rw[hd,qAK]at hm;omega
  have key:∀(KK:List (List Nd)),KK.flatten.length<=m->(∀K∈KK,cns K 1=some K.length)->∃ks:List Tr,flL ks=KK.flatten/\wfL ks/\ks.length=KK.length:=by
   intro KK
   induction KK with
   |nil=>exact fun _ _=>⟨[],rfl,trivial,rfl⟩
   |cons K KK ih =>
    intro hl hw
    rw[qA7,qAH]at hl
    obtain⟨t,e1,w1⟩:=zTZ m (L:=K) oM (hw K qAt)
    obtain⟨ks,e2,w2,l2⟩:=ih oM fun K' h'=>hw K' (qAk _ h')
    exact⟨t::ks,by rw[flL,e1,e2,qA7],⟨w1,w2⟩,by rw[qAK,qAK,l2]⟩
  obtain⟨ks,e,w,l⟩:=key KK hlen hN.whole
  exact⟨.mk x ks,by rw[Tr.fl,e,hd],by rw[Tr.wf];exact⟨by rw[hN.kids,l],w⟩⟩
theorem zHV{L:List Nd}: zDA L=true↔∃t:Tr,t.fl=L/\t.wf:=by
 rw[zGX]
 constructor
 ·exact zTZ L.length (qAN _)
 ·rintro⟨t,rfl,h⟩;exact Tr.wf_cns h
structure At(L:List Nd)(n:Nat)(t:Tr): Prop where
 pre:∃R,L.drop n=t.fl++R
 wf:t.wf
theorem At.top{t:Tr}(h:t.wf): At t.fl 0 t:=⟨⟨[],by simp⟩,h⟩
theorem At.node{L:List Nd}{n:Nat}{x:Nd}{ks:List Tr}(h:At L n (.mk x ks)): ∃R,Node L n x (ks.map Tr.fl) R:=by
 obtain⟨R,hd⟩:=h.pre
 have hw:=h.wf
 rw[Tr.wf]at hw
 refine⟨R,by rw[hd,Tr.fl,zGH];rfl,by rw[qAE];exact hw.1,fun K hK=>?_⟩
 obtain⟨k,hk,rfl⟩:=qAo.1 hK
 exact Tr.wf_cns (zGp.1 hw.2 k hk)
theorem At.here{L:List Nd}{n:Nat}{x:Nd}{ks:List Tr}(h:At L n (.mk x ks)): L[n]?=some x:=by
 obtain⟨R,hN⟩:=h.node;exact hN.at
theorem At.hd{L:List Nd}{n:Nat}{t:Tr}(h:At L n t): L[n]?=some t.hd:=by cases t;exact h.here
theorem At.len{L:List Nd}{n:Nat}{t:Tr}(h:At L n t): n+t.sz<=L.length:=by
 obtain⟨R,hd⟩:=h.pre
 have:=congrArg List.length hd
 rw[qAg,qAH,Tr.fl_len]at this
 have:=zDy t;omega
def kidAt(n:Nat)(ks:List Tr)(i:Nat): Nat:=n+1+szL (ks.take i)
theorem zJB: ∀(a b:List Tr),szL (a++b)=szL a+szL b
 |[],b=>by rw[qA9,szL];omega
 |t::a,b=>by rw[qBL,szL,szL,zJB a b];omega
theorem zDt{n:Nat}{ks:List Tr}{i:Nat}{k:Tr}(h:ks[i]?=some k): kidAt n ks (i+1)=kidAt n ks i+k.sz:=by
 unfold kidAt
 rw[qAu,h,zJB,Option.toList_some,szL,szL];omega
theorem zCu(n:Nat)(ks:List Tr): kidAt n ks 0=n+1:=by simp[kidAt,szL]
theorem zKr(n:Nat)(ks:List Tr): kidAt n ks ks.length=n+1+szL ks:=by rw[kidAt,qBF]
theorem zVF: ∀(ks:List Tr),(ks.map Tr.fl).flatten.length=szL ks
 |ks=>by rw[<-zGH,zM2]
theorem At.kid{L:List Nd}{n:Nat}{x:Nd}{ks:List Tr}(h:At L n (.mk x ks)){i:Nat}{k:Tr}(hk:ks[i]?=some k): At L (kidAt n ks i) k:=by
 obtain⟨R,hN⟩:=h.node
 have hw:=h.wf
 rw[Tr.wf]at hw
 have h1:=(zZy hN.next hN.whole (i:=i) (K:=k.fl) (by rw[qAJ,hk];rfl)).2
 rw[<-List.map_take,zVF]at h1
 exact⟨⟨_,h1⟩,zGp.1 hw.2 k (qAC hk)⟩
theorem At.endF{L:List Nd}{n:Nat}{t:Tr}(h:At L n t): endF L (n:Int)=((n+t.sz:Nat):Int):=by
 obtain⟨R,hd⟩:=h.pre
 rw[zNF (k:=t.fl.length) (by rw[hd];exact zEb _ (Tr.wf_cns h.wf)),Tr.fl_len];omega
theorem At.kids{L:List Nd}{n:Nat}{x:Nd}{ks:List Tr}(h:At L n (.mk x ks)): zB3 L (n:Int)=(List.range ks.length).map fun i=>((kidAt n ks i:Nat):Int):=by
 obtain⟨R,hN⟩:=h.node
 rw[hN.kidsEq,zKS,qAE]
 refine qBP fun i _=>?_
 rw[<-List.map_take,zVF,kidAt];omega
theorem At.kids_get{L:List Nd}{n:Nat}{x:Nd}{ks:List Tr}(h:At L n (.mk x ks)){i:Nat}(hi:i<ks.length): (zB3 L (n:Int))[i]?=some ((kidAt n ks i:Nat):Int):=by
 rw[h.kids,qAJ,List.getElem?_range hi];rfl
theorem At.kids_len{L:List Nd}{n:Nat}{x:Nd}{ks:List Tr}(h:At L n (.mk x ks)): (zB3 L (n:Int)).length=ks.length:=by
 rw[h.kids,qAE,qA6]
theorem At.kidn{L:List Nd}{n:Nat}{x:Nd}{ks:List Tr}(h:At L n (.mk x ks)): x.kids=ks.length:=by
 have:=h.wf;rw[Tr.wf]at this;exact this.1
theorem At.sub{L:List Nd}{n:Nat}{t:Tr}(h:At L n t): subF L (n:Int)=t.fl:=by
 obtain⟨R,hd⟩:=h.pre
 rw[subF,h.endF,if_neg oM,qAT,qAT,List.drop_take,hd,show n+t.sz-n=t.fl.length by rw[Tr.fl_len];omega,List.take_left]
open _root_.Go.Proofs.Tryz
open Go.Sx Go.RowKit
theorem ff_0: zA7 prog 207 0=some 0:=by kernel_rfl
theorem ff_1: zA7 prog 207 1=some 1:=by kernel_rfl
theorem ff_2: zA7 prog 207 2=some 2:=by kernel_rfl
theorem ff_3: zA7 prog 207 3=some 3:=by kernel_rfl
theorem ff_4: zA7 prog 207 4=some 4:=by kernel_rfl
theorem fd_0: zA7 prog 188 0=some 0:=by kernel_rfl
theorem fd_1: zA7 prog 188 1=some 1:=by kernel_rfl
theorem fd_2: zA7 prog 188 2=some 2:=by kernel_rfl
theorem zGs: zBh prog 207=some (true,5):=by kernel_rfl
theorem zYc: zBh prog 94=some (false,1):=by kernel_rfl
theorem zQi: zBh prog 180=some (false,1):=by kernel_rfl
theorem zLk: zBh prog 186=some (false,1):=by kernel_rfl
theorem zEu: zBv prog 207=some [.bool false,.bool false,.nilFunc,.nilFunc,.bool false]:=by kernel_rfl
theorem zJG: zCk prog 207=some [(0,1),(1,1),(2,1),(3,1),(4,1)]:=by kernel_rfl
theorem zTB: zBv prog 188=some [.slice none 0 0,.map none,.slice none 0 0]:=by kernel_rfl
theorem zUE: zCk prog 188=some [(0,1),(1,1),(2,1)]:=by kernel_rfl
theorem fy_s: fnTy prog 94=true:=by kernel_rfl
theorem zKl: zGR prog 186=some (9,3):=by kernel_rfl
theorem zI8: zKH prog 3=some (.val (.int .i64 0)):=by kernel_rfl
theorem zKh: zCk prog 163=some [(0,1),(1,1),(2,1),(3,1)]:=by kernel_rfl
theorem zMq: zAQ prog 39=true:=by kernel_rfl
theorem zMr: zAQ prog 40=true:=by kernel_rfl
theorem zMt: zAQ prog 189=true:=by kernel_rfl
theorem zXR: zAQ prog 223=true:=by kernel_rfl
theorem zHN: zAQ prog 168=true:=by kernel_rfl
theorem zSW: zAQ prog 190=true:=by kernel_rfl
theorem zSV: zAQ prog 191=true:=by kernel_rfl
theorem zEz: zAQ prog 134=true:=by kernel_rfl
theorem zXO: zAQ prog 127=true:=by kernel_rfl
theorem zJ3: zAQ prog 125=true:=by kernel_rfl
theorem zOU: zAQ prog 60=true:=by kernel_rfl
theorem zL5: zAQ prog 126=true:=by kernel_rfl
theorem zL4: zAQ prog 128=true:=by kernel_rfl
theorem zKw: zAQ prog 130=true:=by kernel_rfl
theorem zUl: zAQ prog 133=true:=by kernel_rfl
theorem zIi: zAQ prog 29=true:=by kernel_rfl
theorem zaJ: zAQ prog 76=true:=by kernel_rfl
theorem zKy: zAQ prog 143=true:=by kernel_rfl
theorem zKv: zAQ prog 174=true:=by kernel_rfl
def zGw(s:List UInt8): Bool:=zEs ⟨1,s,0,0⟩||zEs ⟨5,s,0,0⟩
def conF(s:List UInt8): Bool:=zEs ⟨2,s,0,0⟩
def patK(k:Int): Bool:=decide (21<=k/\k<=24)
def okK(k:Int): Bool:=decide ((1<=k/\k<=12)\/(21<=k/\k<=24))
def numK(k:Int): Bool:=decide (k=1\/k=23)
def namK(k:Int): Bool:=decide (k=3\/k=5\/k=7\/k=8\/k=12\/k=22)
def cntK(k n:Int): Bool :=
 if k=5\/k=11 then decide (n=1)else if k=6\/k=7\/k=8\/k=12 then decide (n=2)else if k=9 then decide (n=3)
 else if k=10 then decide (3<=n/\n%2=1)else if k=24 then true else decide (n=0)
def zFQ(x:Nd)(k1:Int)(pat:Bool): Int :=
 if okK x.kind=false\/patK x.kind≠pat\/cntK x.kind x.kids=false then 61
 else if(numK x.kind=true/\W x.num≠x.num)\/(numK x.kind=false/\x.num≠0)then 61
 else if(x.kind=2/\200<x.text.length)\/(x.kind≠2/\namK x.kind=false/\x.kind≠4/\x.kind≠24/\x.text≠[])then 61
 else if x.kind=8/\k1≠5 then 61
 else if(namK x.kind=true/\zGw x.text=false)\/((x.kind=4\/x.kind=24)/\conF x.text=false)then 62
 else 0
def Tr.kind1: Tr->Int
 | .mk _ (k::_)=>k.hd.kind
 | .mk _ []=>0
mutual
def Tr.werr: Tr->Bool->Int
 | .mk x ks,pat=>if zFQ x (Tr.kind1 (.mk x ks)) pat≠0 then zFQ x (Tr.kind1 (.mk x ks)) pat else zHp (decide (x.kind=10)) pat ks 0
def zHp(m pat:Bool): List Tr->Nat->Int
 |[],_=>0
 |t::r,i=>if t.werr (pat||(m&&decide (i%2=1)))≠0 then t.werr (pat||(m&&decide (i%2=1)))else zHp m pat r (i+1)
end
def zBf(L:List Nd): List (List UInt8):=L.filterMap fun n=>if n.kind=22 then some n.text else none
mutual
def Tr.tw: Tr->Bool
 | .mk x ks=>if patK x.kind then !decide (zBf (x::flL ks)).Nodup else twL ks
def twL: List Tr->Bool
 |[]=>false
 |t::r=>t.tw||twL r
end
end Go.Proofs.YtjcgiiedaccjpaaGreatDoor
namespace Go.Proofs.YtjcgiiedaccjpaaGreatDoor
open Go.Sx
abbrev Bag:=List (List UInt8×Nat)
def lkB: Bag->List UInt8->Nat
 |[],_=>0
 |(k,v)::r,a=>if k=a then v else lkB r a
def putB: Bag->List UInt8->Nat->Bag
 |[],a,v=>[(a,v)]
 |(k,u)::r,a,v=>if k=a then(k,v)::r else(k,u)::putB r a v
def delB: Bag->List UInt8->Bag
 |[],_=>[]
 |(k,u)::r,a=>if k=a then r else(k,u)::delB r a
def zEJ(S:Bag): List (List UInt8):=S.map Prod.fst
def upB(S:Bag)(a:List UInt8): Bag:=putB S a (lkB S a+1)
def dnB(S:Bag)(a:List UInt8): Bag:=if lkB S a-1=0 then delB (putB S a (lkB S a-1)) a else putB S a (lkB S a-1)
def zFd(c:List UInt8->Nat)(S:Bag): Bag:=S.map fun p=>(p.1,p.2+c p.1)
theorem zMm{a:List UInt8}: ∀{S:Bag},a∉zEJ S->lkB S a=0
 |[],_=>rfl
 |(k,v)::r,h=>by
  have h1:k≠a:=fun e=>h (by rw[e];exact qAt)
  rw[lkB,if_neg h1,zMm fun hm=>h (qAk _ hm)]
theorem zOC{a:List UInt8}{v:Nat}: ∀{S:Bag},a∉zEJ S->putB S a v=S++[(a,v)]
 |[],_=>rfl
 |(k,u)::r,h=>by
  have h1:k≠a:=fun e=>h (by rw[e];exact qAt)
  rw[putB,if_neg h1,zOC fun hm=>h (qAk _ hm)];rfl
theorem zL2(c:List UInt8->Nat)(S:Bag): zEJ (zFd c S)=zEJ S:=by
 simp[zEJ,zFd,Function.comp_def]
theorem zLK{c d:List UInt8->Nat}{S:Bag}(h:∀a∈zEJ S,c a=d a): zFd c S=zFd d S :=
 qBP fun p hp=>by rw[h p.1 (List.mem_map_of_mem hp)]
theorem zJ1{c:List UInt8->Nat}{a:List UInt8}: ∀{S:Bag},a∈zEJ S->lkB (zFd c S) a=lkB S a+c a
 |(k,v)::r,h=>by
  show lkB ((k,v+c k)::zFd c r) a=_
  rw[lkB,lkB]
  by_cases e:k=a
  ·rw[if_pos e,if_pos e,e]
  ·rw[if_neg e,if_neg e,zJ1]
   rcases qAq.1 h with h|h
   ·exact absurd h.symm e
   ·exact h
theorem zKe{c d:List UInt8->Nat}{a:List UInt8}{v:Nat}: ∀{S:Bag},(zEJ S).Nodup->a∈zEJ S->v=lkB S a+d a->(∀b,b≠a->c b=d b)->putB (zFd c S) a v=zFd d S
 |(k,u)::r,hn,h,hv,hc=>by
  have hn':=List.nodup_cons.1 hn
  show putB ((k,u+c k)::zFd c r) a v=(k,u+d k)::zFd d r
  rw[lkB]at hv
  rw[putB]
  by_cases e:k=a
  ·rw[if_pos e]at hv ⊢
   subst e
   rw[hv,zLK (d:=d) fun b hb=>hc b fun e=>hn'.1 (by rw[<-e];exact hb)]
  ·rw[if_neg e]at hv ⊢
   rw[hc k e,zKe hn'.2 ?_ hv hc]
   rcases qAq.1 h with h|h
   ·exact absurd h.symm e
   ·exact h
theorem zO0{c:List UInt8->Nat}{a:List UInt8}: ∀(M:Bag) {Z:Bag},a∉zEJ M->delB (zFd c (M++Z)) a=zFd c (M++delB Z a)
 |[],Z,_=>by
  rw[qA9,qA9]
  induction Z with
  |nil=>rfl
  |cons p r ih =>
   obtain⟨k,u⟩:=p
   show delB ((k,u+c k)::zFd c r) a=_
   rw[delB,delB]
   by_cases e:k=a
   ·rw[if_pos e,if_pos e]
   ·rw[if_neg e,if_neg e,ih];rfl
 |(k,u)::M,Z,h=>by
  have h1:k≠a:=fun e=>h (by rw[e];exact qAt)
  show delB ((k,u+c k)::zFd c (M++Z)) a=(k,u+c k)::zFd c (M++delB Z a)
  rw[delB,if_neg h1,zO0 M fun hm=>h (qAk _ hm)]
theorem zRd{a:List UInt8}: ∀{Z:Bag} {p:List UInt8×Nat},p∈delB Z a->p∈Z
 |(k,u)::r,p,h=>by
  rw[delB]at h
  split at h
  ·exact qAk _ h
  ·rcases qAq.1 h with h|h
   ·rw[h];exact qAt
   ·exact qAk _ (zRd h)
theorem zOy{a b:List UInt8}(hb:b≠a): ∀{Z:Bag},b∈zEJ Z->b∈zEJ (delB Z a)
 |(k,u)::r,h=>by
  rw[delB]
  split
  ·rename_i e
   rcases qAq.1 h with h|h
   ·exact absurd (h.trans e) hb
   ·exact h
  ·rcases qAq.1 h with h|h
   ·exact h▸qAt
   ·exact qAk _ (zOy hb h)
theorem zJg{a:List UInt8}: ∀{Z:Bag},(delB Z a).Sublist Z
 |[]=>List.Sublist.refl _
 |(k,u)::r=>by
  rw[delB]
  split
  ·exact List.sublist_cons_self _ _
  ·exact List.Sublist.cons_cons _ zJg
theorem zOz{a:List UInt8}: ∀{Z:Bag},(zEJ Z).Nodup->a∉zEJ (delB Z a)
 |[],_=>by simp[delB,zEJ]
 |(k,u)::r,hn=>by
  have hn':=List.nodup_cons.1 hn
  rw[delB]
  split
  ·rename_i e;rw[<-e];exact hn'.1
  ·rename_i e
   intro h
   rcases qAq.1 h with h|h
   ·exact e h.symm
   ·exact zOz hn'.2 h
structure GoodB(M:Bag): Prop where
 nd:(zEJ M).Nodup
 pos:∀p∈M,0<p.2
structure Pend(M:Bag)(c:List UInt8->Nat)(S:Bag): Prop where
 ex:∃Z:Bag,S=zFd c (M++Z)/\(zEJ (M++Z)).Nodup/\(∀p∈Z,p.2=0/\0<c p.1)/\∀a,0<c a->a∈zEJ (M++Z)
theorem zPq{S:Bag}{a:List UInt8}: a∈zEJ S->(a,lkB S a)∈S:=by
 induction S with
 |nil=>intro h;cases h
 |cons p r ih =>
  obtain⟨k,v⟩:=p
  intro h
  rw[lkB]
  by_cases e:k=a
  ·rw[if_pos e,e];exact qAt
  ·rw[if_neg e]
   rcases qAq.1 h with h|h
   ·exact absurd h.symm e
   ·exact qAk _ (ih h)
theorem Pend.zero{M:Bag}(h:GoodB M): Pend M (fun _=>0) M :=
 ⟨[],by rw[qA0];simp[zFd],by rw[qA0];exact h.nd,fun p hp=>by(cases hp),fun a h=>by omega⟩
theorem Pend.done{M S:Bag}{c:List UInt8->Nat}(hc:∀a,c a=0)(h:Pend M c S): S=M:=by
 obtain⟨Z,rfl,_,h3,_⟩:=h.ex
 cases Z with
 |nil=>rw[qA0];simp[zFd,hc]
 |cons p r=>have:=(h3 p qAt).2;rw[hc]at this;omega
theorem Pend.up{M S:Bag}{c d:List UInt8->Nat}{a:List UInt8}(hd:d a=c a+1)(hdb:∀b,b≠a->c b=d b)(h:Pend M c S): Pend M d (upB S a):=by
 obtain⟨Z,rfl,h2,h3,h4⟩:=h.ex
 by_cases hm:a∈zEJ (M++Z)
 ·refine⟨Z,?_,h2,fun p hp=>⟨(h3 p hp).1,?_⟩,fun b hb=>?_⟩
  ·exact zKe h2 hm (by rw[zJ1 hm];omega) hdb
  ·have:=(h3 p hp).2
   by_cases e:p.1=a
   ·rw[e,hd];omega
   ·rw[<-hdb _ e];exact this
  ·by_cases e:b=a
   ·rw[e];exact hm
   ·exact h4 b (by rw[hdb b e];exact hb)
 ·have hc0:c a=0:=Nat.eq_zero_of_not_pos fun hp=>hm (h4 a hp)
  refine⟨Z++[(a,0)],?_,?_,fun p hp=>?_,fun b hb=>?_⟩
  ·have hk:a∉zEJ (zFd c (M++Z)):=by rw[zL2];exact hm
   rw[upB,zMm hk,zOC hk,zLK (d:=d) fun b hb=>hdb b fun e=>hm (e▸hb),<-qAY]
   simp[zFd,hd,hc0]
  ·rw[<-qAY]
   unfold zEJ at h2 hm ⊢
   rw[qAZ,qBl]
   exact⟨h2,by simp,fun x hx y hy e=>hm (by simp at hy;subst hy;exact e▸hx)⟩
  ·rcases qAm.1 hp with hp|hp
   ·have:=h3 p hp
    by_cases e:p.1=a
    ·exact⟨this.1,by rw[e,hd];omega⟩
    ·exact⟨this.1,by rw[<-hdb _ e];exact this.2⟩
   ·simp at hp;subst hp
    exact⟨rfl,by show 0<d a;omega⟩
  ·unfold zEJ
   rw[<-qAY,qAZ]
   by_cases e:b=a
   ·exact List.mem_append_right _ (by simp[e])
   ·exact List.mem_append_left _ (h4 b (by rw[hdb b e];exact hb))
theorem Pend.dn{M S:Bag}{c d:List UInt8->Nat}{a:List UInt8}(hM:GoodB M)(hd:c a=d a+1)(hdb:∀b,b≠a->c b=d b)(h:Pend M c S): Pend M d (dnB S a):=by
 obtain⟨Z,rfl,h2,h3,h4⟩:=h.ex
 have hm:a∈zEJ (M++Z):=h4 a oM
 have hl:=zJ1 (c:=c) hm
 have hput:putB (zFd c (M++Z)) a (lkB (zFd c (M++Z)) a-1)=zFd d (M++Z):=zKe h2 hm (by rw[hl];omega) hdb
 have hmem:=zPq hm
 unfold dnB
 rw[hput]
 by_cases h0:lkB (zFd c (M++Z)) a-1=0
 ·rw[if_pos h0]
  have hz:lkB (M++Z) a=0:=by omega
  have hd0:d a=0:=by omega
  rw[hz]at hmem
  have haM:a∉zEJ M:=fun hk=>by
   have h5:=zPq hk
   have h6:lkB (M++Z) a=lkB M a:=by
    have:∀(A B:Bag),a∈zEJ A->lkB (A++B) a=lkB A a:=by
     intro A B
     induction A with
     |nil=>intro h;cases h
     |cons p r ih =>
      obtain⟨k,v⟩:=p
      intro h
      rw[qBL,lkB,lkB]
      by_cases e:k=a
      ·rw[if_pos e,if_pos e]
      ·rw[if_neg e,if_neg e,ih]
       rcases qAq.1 h with h|h
       ·exact absurd h.symm e
       ·exact h
    exact this M Z hk
   have:=hM.pos _ h5
   simp only at this;omega
  have hn2:=h2
  unfold zEJ at hn2
  rw[qAZ,qBl]at hn2
  refine⟨delB Z a,zO0 M haM,?_,fun p hp=>?_,fun b hb=>?_⟩
  ·exact h2.sublist ((List.Sublist.append (List.Sublist.refl M) zJg).map _)
  ·have h5:=h3 p (zRd hp)
   have h6:p.1≠a:=fun e=>zOz (a:=a) hn2.2.1 (by have h7:=List.mem_map_of_mem (f:=Prod.fst) hp;rw[e]at h7;exact h7)
   exact⟨h5.1,by rw[<-hdb _ h6];exact h5.2⟩
  ·have hba:b≠a:=fun e=>by rw[e,hd0]at hb;omega
   have h5:=h4 b (by rw[hdb b hba];exact hb)
   unfold zEJ at h5 ⊢
   rw[qAZ]at h5 ⊢
   rcases qAm.1 h5 with h5|h5
   ·exact List.mem_append_left _ h5
   ·exact List.mem_append_right _ (zOy hba h5)
 ·rw[if_neg h0]
  refine⟨Z,rfl,h2,fun p hp=>⟨(h3 p hp).1,?_⟩,fun b hb=>?_⟩
  ·by_cases e:p.1=a
   ·have h5:lkB (M++Z) a=0:=by
     have hn2:=h2
     unfold zEJ at hn2
     rw[qAZ,qBl]at hn2
     have haM:a∉zEJ M:=fun hk=>hn2.2.2 a hk a (e▸List.mem_map_of_mem hp) rfl
     rcases qAm.1 hmem with h6|h6
     ·exact absurd (List.mem_map_of_mem (f:=Prod.fst) h6) haM
     ·exact(h3 _ h6).1
    rw[e];omega
   ·rw[<-hdb _ e];exact(h3 p hp).2
  ·by_cases e:b=a
   ·rw[e];exact hm
   ·exact h4 b (by rw[hdb b e];exact hb)
def upsB(S:Bag)(ns:List (List UInt8)): Bag:=ns.foldl upB S
def dnsB(S:Bag)(ns:List (List UInt8)): Bag:=ns.foldl dnB S
theorem Pend.ups{M:Bag}: ∀{ns:List (List UInt8)} {S:Bag} {c:List UInt8->Nat},Pend M c S->Pend M (fun a=>c a+ns.count a) (upsB S ns)
 |[],S,c,h=>by simpa[upsB]using h
 |n::ns,S,c,h=>by
  have h1:=(h.up (a:=n) (d:=fun b=>if b=n then c b+1 else c b) sI (fun b hb=>by simp[hb])).ups (ns:=ns)
  have e:(fun a=>(if a=n then c a+1 else c a)+ns.count a)=fun a=>c a+(n::ns).count a:=by
   funext a
   rw[List.count_cons]
   by_cases ha:a=n
   ·subst ha;simp;omega
   ·have:¬n=a:=fun e=>ha e.symm
    simp[ha,this]
  rw[e]at h1
  exact h1
theorem Pend.dns{M:Bag}(hM:GoodB M): ∀{ns:List (List UInt8)} {S:Bag},Pend M (fun a=>ns.count a) S->dnsB S ns=M
 |[],S,h=>h.done fun a=>by simp
 |n::ns,S,h=>by
  have h1:Pend M (fun a=>ns.count a) (dnB S n):=h.dn hM sI fun b hb=>by
   have:¬n=b:=fun e=>hb e.symm
   simp[this]
  exact Pend.dns hM (ns:=ns) h1
theorem zcA{M:Bag}(hM:GoodB M)(ns:List (List UInt8)): dnsB (upsB M ns) ns=M:=by
 refine Pend.dns hM ?_
 have:=(Pend.zero hM).ups (ns:=ns)
 simpa using this
theorem GoodB.up{M:Bag}(h:GoodB M)(a:List UInt8): GoodB (upB M a):=by
 obtain⟨Z,e,h2,h3,_⟩:=((Pend.zero h).up (a:=a) (d:=fun b=>if b=a then 1 else 0) sI (fun b hb=>by simp[hb])).ex
 rw[e]
 refine⟨by rw[zL2];exact h2,fun p hp=>?_⟩
 obtain⟨q,hq,rfl⟩:=qAo.1 hp
 rcases qAm.1 hq with hq|hq
 ·have:=h.pos q hq;simp only;omega
 ·have:=(h3 q hq).2;simp only;omega
theorem GoodB.ups{M:Bag}(h:GoodB M): ∀(ns:List (List UInt8)),GoodB (upsB M ns):=fun ns=>by
 induction ns generalizing M with
 |nil=>exact h
 |cons n ns ih=>exact ih (h.up n)
theorem GoodB.nil: GoodB []:=⟨List.nodup_nil,fun p hp=>by(cases hp)⟩
theorem zTW{S:Bag}{ns:List (List UInt8)}{i:Nat}{v:List UInt8}(h:ns[i]?=some v): upsB S (ns.take (i+1))=upB (upsB S (ns.take i)) v:=by
 unfold upsB
 rw[qAu,h,List.foldl_append];rfl
theorem zVh{S:Bag}{ns:List (List UInt8)}{i:Nat}{v:List UInt8}(h:ns[i]?=some v): dnsB S (ns.take (i+1))=dnB (dnsB S (ns.take i)) v:=by
 unfold dnsB
 rw[qAu,h,List.foldl_append];rfl
theorem zPp{a b:List UInt8}{v:Nat}: ∀{S:Bag},lkB (putB S a v) b=if b=a then v else lkB S b
 |[]=>by
  rw[putB,lkB,lkB]
  by_cases e:b=a
  ·rw[if_pos e,if_pos e.symm]
  ·rw[if_neg e,if_neg fun h=>e h.symm,lkB]
 |(k,u)::r=>by
  rw[putB]
  by_cases e:k=a
  ·rw[if_pos e,lkB,lkB]
   by_cases e2:k=b
   ·rw[if_pos e2,if_pos (e2▸e)]
   ·rw[if_neg e2,if_neg (fun h=>e2 (e.trans h.symm)),if_neg e2]
  ·rw[if_neg e,lkB,lkB]
   by_cases e2:k=b
   ·rw[if_pos e2,if_neg (fun h=>e (e2.trans h)),if_pos e2]
   ·rw[if_neg e2,if_neg e2,zPp]
theorem zGz{b:List UInt8}: ∀{ns:List (List UInt8)} {S:Bag},lkB (upsB S ns) b=lkB S b+ns.count b
 |[],S=>by simp[upsB]
 |n::ns,S=>by
  show lkB (upsB (upB S n) ns) b=_
  rw[zGz,upB,zPp,List.count_cons]
  by_cases e:b=n
  ·subst e;simp;omega
  ·have:¬n=b:=fun h=>e h.symm
   simp[e,this]
theorem zUY{a:List UInt8}{B:Bag}: ∀{A:Bag},a∈zEJ A->lkB (A++B) a=lkB A a
 |(k,v)::r,h=>by
  rw[qBL,lkB,lkB]
  by_cases e:k=a
  ·rw[if_pos e,if_pos e]
  ·rw[if_neg e,if_neg e,zUY]
   rcases qAq.1 h with h|h
   ·exact absurd h.symm e
   ·exact h
theorem Pend.lk{M S:Bag}{c:List UInt8->Nat}{a:List UInt8}(h:Pend M c S)(hc:0<c a): lkB S a=lkB M a+c a:=by
 obtain⟨Z,rfl,h2,h3,h4⟩:=h.ex
 have hm:=h4 a hc
 rw[zJ1 hm]
 by_cases hM:a∈zEJ M
 ·rw[zUY hM]
 ·have h5:=zPq hm
  rcases qAm.1 h5 with h6|h6
  ·exact absurd (List.mem_map_of_mem (f:=Prod.fst) h6) hM
  ·have h7:lkB (M++Z) a=0:=(h3 _ h6).1
   rw[zMm hM,h7]
theorem Pend.dnsd{M:Bag}(hM:GoodB M): ∀{ns ms:List (List UInt8)} {S:Bag},Pend M (fun a=>(ns++ms).count a) S->Pend M (fun a=>ms.count a) (dnsB S ns)
 |[],ms,S,h=>h
 |n::ns,ms,S,h=>by
  have h1:Pend M (fun a=>(ns++ms).count a) (dnB S n):=h.dn hM sI fun b hb=>by
   have:¬n=b:=fun e=>hb e.symm
   simp[this]
  exact Pend.dnsd hM (ns:=ns) h1
theorem zXH{M:Bag}(hM:GoodB M){ns:List (List UInt8)}{i:Nat}{v:List UInt8}(h:ns[i]?=some v): 1<=lkB (dnsB (upsB M ns) (ns.take i)) v/\lkB (dnsB (upsB M ns) (ns.take i)) v<=lkB M v+ns.length:=by
 have h1:Pend M (fun a=>(ns.take i++ns.drop i).count a) (upsB M ns):=by
  have:=(Pend.zero hM).ups (ns:=ns)
  simpa using this
 have h2:=Pend.dnsd hM h1
 have hp:0<(ns.drop i).count v:=by
  refine List.count_pos_iff.2 ?_
  exact qAC (i:=0) (by rw[qBC];exact h)
 have h3:=h2.lk hp
 have h4:(ns.drop i).count v<=ns.length:=qAx qBg (by rw[qAg];omega)
 omega
def mvB(S:Bag): List (List UInt8×D):=S.map fun p=>(p.1,i64 (p.2:Int))
theorem zUW(a:List UInt8): ∀S:Bag,(zES (mvB S) a).getD (.val (.int .i64 0))=i64 (lkB S a:Int)
 |[]=>rfl
 |(k,v)::r=>by
  show (zES ((k,i64 (v:Int))::mvB r) a).getD _=_
  unfold zES lkB
  split
  ·rfl
  ·exact zUW a r
theorem zUB(a:List UInt8)(v:Nat): ∀S:Bag,putK (mvB S) a (i64 (v:Int))=mvB (putB S a v)
 |[]=>rfl
 |(k,u)::r=>by
  show putK ((k,i64 (u:Int))::mvB r) a _=_
  unfold putK putB
  split
  ·rfl
  ·show _::_=_::_
   congr 1;exact zUB a v r
theorem zYw(a:List UInt8): ∀S:Bag,delK (mvB S) a=mvB (delB S a)
 |[]=>rfl
 |(k,u)::r=>by
  show delK ((k,i64 (u:Int))::mvB r) a=_
  unfold delK delB
  split
  ·rfl
  ·show _::_=_::_
   congr 1;exact zYw a r
def bagK(k:Int)(tx:List UInt8)(pv:List (List UInt8))(i:Nat)(S:Bag): Bag :=
 if k=5\/k=8\/((k=7\/k=12)/\i=1)then upsB S [tx]else if k=10/\0<i then upsB S pv else S
mutual
def Tr.free: Tr->Bag->List (List UInt8)->List (List UInt8)
 | .mk x ks,S,F=>if x.kind=3 then(if lkB S x.text=0/\x.text∉F then F++[x.text]else F)else zDc x.kind x.text S [] ks 0 F
def zDc(k:Int)(tx:List UInt8)(S:Bag): List (List UInt8)->List Tr->Nat->List (List UInt8)->List (List UInt8)
 |_,[],_,F=>F
 |pv,t::r,i,F=>if k=10/\i%2=1 then zDc k tx S (zBf t.fl) r (i+1) F else zDc k tx S pv r (i+1) (t.free (bagK k tx pv i S) F)
end
open _root_.Go.Proofs.Tryz
open Go.Shelf Go.RowKit Go.Lib Go.Sort
theorem zTf(p:Option Addr)(cap:Nat)(w:World):
  Calls prog 131 #[.slice p 0 cap] w fun e w'=>e=.returned (.tuple #[])/\w'=w:=Any.slices_Sort_string_none Tryz.lays190 p cap w
theorem zO1(a:Option Addr)(cap:Nat)(w:World): Calls prog 132 #[.slice a 0 cap] w fun e w'=>e=.returned (.slice a 0 cap)/\w'=w:=Any.slices_Compact_string_empty Tryz.lays194 a cap w
def srtT(L:List (List UInt8)): List (List UInt8):=L.mergeSort fun x y=>decide (x<=y)
theorem zIP(L:List (List UInt8)): (srtT L).Perm L:=List.mergeSort_perm _ _
theorem zPa(L:List (List UInt8)): (srtT L).Pairwise fun x y=>x<=y:=by
 have:=List.pairwise_mergeSort (le:=fun x y:List UInt8=>decide (x<=y)) (fun a b c h1 h2=>by simp at *;exact List.le_trans h1 h2) (fun a b=>by simp;exact List.le_total a b) L
 exact this.imp fun h=>by simpa using h
theorem zLF(zs:List (List UInt8)): (Lib.compact zs).length=((List.range zs.length).filter (keeps zs.toArray)).length:=by
 rw[Lib.compact,compactUpTo,qAE]
theorem zMO(zs:List (List UInt8)): (Lib.compact zs).length<=zs.length:=by
 rw[zLF]
 have:=qBO (keeps zs.toArray) (List.range zs.length)
 rwa [qA6]at this
theorem zP8{zs:List (List UInt8)}(hs:zs.Pairwise fun x y=>x<=y): (Lib.compact zs).length<zs.length↔¬zs.Nodup:=by
 have hk:(Lib.compact zs).length=zs.length↔∀j,j<zs.length->keeps zs.toArray j=true:=by
  rw[zLF]
  conv=>lhs;rhs;rw[<-qA6 (n:=zs.length)]
  rw[List.length_filter_eq_length_iff]
  simp only[qBY]
 have hle:=zMO zs
 have hget:∀j (hj:j<zs.length),zs.toArray[j]! = zs[j]:=fun j hj=>by rw[getElem!_pos _ _ pAK];simp
 have hn:zs.Nodup↔∀j,j<zs.length->keeps zs.toArray j=true:=by
  rw[List.Nodup,List.pairwise_iff_getElem]
  rw[List.pairwise_iff_getElem]at hs
  constructor
  ·intro h j hj
   by_cases h0:j=0
   ·subst h0;exact keeps_lt_one _ 0 oM
   ·refine keeps_pos ?_
    rw[hget j hj,hget (j-1) oM]
    exact fun e=>h (j-1) j oM hj oM e.symm
  ·intro h i j hi hj hij e
   have h1:=h j hj
   simp only[keeps,decide_eq_true_eq]at h1
   rcases h1 with h1|h1
   ·omega
   ·rw[hget j hj,hget (j-1) oM]at h1
    apply h1
    rcases qAF i (j-1)with h2|h2
    ·have a1:=hs i (j-1) hi oM h2
     have a2:=hs (j-1) j oM hj oM
     rw[e]at a1
     exact List.le_antisymm a1 a2 |>.symm▸rfl
    ·have:i=j-1:=by omega
     subst this;exact e.symm
 rw[hn,<-hk];omega
theorem putW_row{w:World}{b n:Nat}{d:Array (List UInt8)}{os:Array Obj}{us:Array Value}{e:TypeId}(hb:w.heap[b]?=some (.cells us e (0,0))):
  (grow (putRow encStr (Sort.ahead w n) b 0 d) os).heap[b]?=some (.cells (putCells encStr 0 d us) e (0,0)):=by
 have hlt:b<w.heap.size:=(qAn.1 hb).1
 simp only[grow,putRow,mapBlock,Sort.ahead]
 rw[qAl (by simpa using hlt),Array.getElem?_modify,if_pos rfl,hb]
 rfl
theorem zSK{w:World}{b n k:Nat}{d:Array (List UInt8)}{os:Array Obj}(hk:k<w.heap.size)(hne:k≠b):
  (grow (putRow encStr (Sort.ahead w n) b 0 d) os).heap[k]?=w.heap[k]?:=by
 simp only[grow,putRow,mapBlock,Sort.ahead]
 rw[qAl (by simpa using hk),Array.getElem?_modify,if_neg (fun h=>hne h.symm)]
theorem zOB{w:World}{b n:Nat}{d:Array (List UInt8)}{os:Array Obj}: w.heap.size<=(grow (putRow encStr (Sort.ahead w n) b 0 d) os).heap.size:=by
 simp only[grow,putRow,mapBlock,Sort.ahead,Array.size_append,Array.size_modify]
 omega
theorem zOi(L:List (List UInt8)): zC2 (L.map str)=L.map str:=by
 induction L with
 |nil=>rfl
 |cons x L ih=>show str x::zC2 (L.map str)=_;rw[ih];rfl
theorem putS{g:Gh}{w:World}{id b e n:Nat}{L L':List (List UInt8)}{os:Array Obj}(hl:L'.length=L.length)(hi:ObOk g w id (.buf true e 1 (L.map str)))(hb:g.blk id=some b):
  (∀k,k<w.heap.size->g.blk id≠some k->(grow (putRow encStr (Sort.ahead w n) b 0 L'.toArray) os).heap[k]?=w.heap[k]?)/\ObOk g (grow (putRow encStr (Sort.ahead w n) b 0 L'.toArray) os) id (.buf true e 1 (L'.map str)):=by
 obtain⟨o1,o2,o3,o4,o5⟩:=hi
 have hoth:∀k,k<w.heap.size->k≠b->(grow (putRow encStr (Sort.ahead w n) b 0 L'.toArray) os).heap[k]?=w.heap[k]?:=fun k hk hne=>zSK hk hne
 refine⟨fun k hk hne=>hoth k hk fun e=>hne (by rw[hb,e]),?_⟩
 rcases o5 with⟨o5,_⟩|⟨b',us,hb',hw,hus,h1,h2,h3⟩
 ·rw[hb]at o5;cases o5
 ·rw[hb]at hb';injection hb' with hb';subst hb'
  rw[qAE]at o4 h1 h3
  have hin:∀t,t<L'.length->(putCells encStr 0 L'.toArray us)[t]?=some (encStr (L'.toArray[t]!)):=fun t ht=>by
   simp only[putCells,Array.getElem?_mapIdx,qAP (show t<us.size by omega),qBG]
   rw[if_pos ⟨qAO _,by simpa using ht⟩];simp
  refine⟨o1,fun x hx=>by obtain⟨v,_,rfl⟩:=qAo.1 hx;rfl,o3,by rw[qAE,hl];exact o4,.inr ⟨b,_,hb,putW_row hw,by simp[putCells,hus],fun j u hj hu=>?_,fun j u dd hu hdd=>?_,fun o=>?_⟩⟩
  ·rw[qAE]at hj
   rw[hin j oM]at hu;injection hu with hu;subst hu;rfl
  ·rw[zOi,qAJ]at hdd
   cases hq:L'[j]? with
   |none=>rw[hq]at hdd;cases hdd
   |some s =>
    rw[hq]at hdd;injection hdd with hdd;subst hdd
    have hj:=(qAA.1 hq).1
    rw[hin j hj]at hu;injection hu with hu;subst hu
    have:L'.toArray[j]! = s:=by rw[getElem!_pos _ _ pAK];simpa using(qAA.1 hq).2
    rw[this];exact .val _
  ·rw[qAE,hl];exact h3 o
theorem rowS{g:Gh}{w:World}{id b e:Nat}{L:List (List UInt8)}(hi:ObOk g w id (.buf true e 1 (L.map str)))(hb:g.blk id=some b): Holds encStr w b 0 L.toArray/\b<w.heap.size/\L.length<=g.cap id:=by
 obtain⟨o1,o2,o3,o4,o5⟩:=hi
 rcases o5 with⟨o5,_⟩|⟨b',us,hb',hw,hus,h1,h2,h3⟩
 ·rw[hb]at o5;cases o5
 ·rw[hb]at hb';injection hb' with hb';subst hb'
  rw[qAE]at o4 h1
  refine⟨fun j hj=>?_,(qAn.1 hw).1,o4⟩
  have hj':j<L.length:=by simpa using hj
  have hu:us[j]?=some (us[j]' oM):=qAP _
  have hL:L[j]?=some L[j]:=qAB hj'
  have r:=h2 j _ (str L[j]) hu (by rw[zOi,qAJ,hL];rfl)
  have hv:=RepD.val_eq r
  constructor
  ·simp only[World.cell?,hw,Option.isSome_none,qBb,if_false,qAS]
   rw[getElem!_pos _ _ (by simpa using hj')]
   rw[hu,hv];simp
  ·simp[World.frozen?,hw]
theorem zPb(g:Gh)(w:World)(id e:Nat)(L:List (List UInt8))(hbd:L.length<=2000000)(hi:ObOk g w id (.buf true e 1 (L.map str)))(_hstb:∀b o,g.St b o->b<w.heap.size):
  Calls prog 131 #[.slice ((g.blk id).map (⟨·,0,none⟩)) L.length (g.cap id)] w fun e' w' =>
   e' = .returned (.tuple #[])/\w'.os=w.os/\w'.tape=w.tape/\w'.output=w.output/\w.heap.size<=w'.heap.size/\(∀k,k<w.heap.size->g.blk id≠some k->w'.heap[k]?=w.heap[k]?)/\ObOk g w' id (.buf true e 1 ((srtT L).map str)):=by
 cases hb:g.blk id with
 |none =>
  have hL:L=[]:=by
   obtain⟨o1,o2,o3,o4,o5⟩:=hi
   rcases o5 with⟨_,o5⟩|⟨b',us,hb',_⟩
   ·rw[qAE]at o4;exact qAf oM
   ·rw[hb]at hb';cases hb'
  subst hL
  refine(zTf none (g.cap id) w).mono ?_
  rintro e' w' ⟨rfl,rfl⟩
  exact⟨rfl,rfl,rfl,rfl,qAN _,fun _ _ _=>rfl,by rw[show srtT []=[] by simp[srtT]];exact hi⟩
 |some b =>
  obtain⟨hH,hlt,_⟩:=rowS hi hb
  refine(Tryz.slices_Sort_string b 0 (g.cap id) L w hH hlt oM).mono ?_
  rintro e' w' ⟨rfl,n,os,rfl⟩
  obtain⟨h1,h2⟩:=putS (L':=srtT L) (n:=n) (os:=os) ((zIP L).length_eq) hi hb
  rw[hb]at h1
  exact⟨rfl,rfl,rfl,rfl,zOB,h1,h2⟩
theorem zLZ(g:Gh)(w:World)(id e b:Nat)(L:List (List UInt8))(hbd:L.length<=2000000)(hi:ObOk g w id (.buf true e 1 (L.map str)))(hb:g.blk id=some b)(_hstb:∀b o,g.St b o->b<w.heap.size):
  Calls prog 132 #[.slice ((g.blk id).map (⟨·,0,none⟩)) L.length (g.cap id)] w fun e' w' =>
   e' = .returned (.slice ((g.blk id).map (⟨·,0,none⟩)) (Lib.compact L).length (g.cap id))/\w'.os=w.os/\w'.tape=w.tape/\w'.output=w.output/\w.heap.size<=w'.heap.size/\(∀k,k<w.heap.size->g.blk id≠some k->w'.heap[k]?=w.heap[k]?)/\ObOk g w' id (.buf true e 1 ((Lib.compact L++List.replicate (L.length-(Lib.compact L).length) []).map str)):=by
 obtain⟨hH,hlt,hc⟩:=rowS hi hb
 have hle:=zMO L
 rw[hb]
 refine(Tryz.slices_Compact_string b 0 (g.cap id) L w hH oM hc).mono ?_
 rintro e' w' ⟨rfl,n,rfl⟩
 have hg:∀w:World,grow w #[]=w:=fun w=>by simp[grow]
 obtain⟨h1,h2⟩:=putS (L':=Lib.compact L++List.replicate (L.length-(Lib.compact L).length) []) (n:=n) (os:=#[]) pAJ hi hb
 rw[hg]at h1 h2
 rw[hb]at h1
 have hs:=zOB (w:=w) (b:=b) (n:=n) (d:=(Lib.compact L++List.replicate (L.length-(Lib.compact L).length) []).toArray) (os:=#[])
 rw[hg]at hs
 exact⟨rfl,rfl,rfl,rfl,hs,h1,h2⟩
end Go.Proofs.YtjcgiiedaccjpaaGreatDoor
namespace Go.Proofs.YtjcgiiedaccjpaaGreatDoor
open _root_.Go.Proofs.Tryz
open Go.Sx Go.RowKit
attribute [local irreducible] Ylds zBJ alex zBk zBZ awp zAX FCall zBo zBR zBX zBb zBD zBd zBj zBn
theorem zbS(L:List Nd)(hL:L.length<=2000000): zAX prog 10 [zAu L] (zAu L):=by
 refine zAc func10 rfl ntmps10 results10 rfl ?_
 intro wb St0
 repeat' first|apply en_n|apply zAE|apply zAA|apply zAD|apply w0|(apply zNO (hd:=rfl) (hro:=rfl);exact zCn;exact zAe;exact zFn;exact rfl)|(apply aApp (hd:=rfl) (hro:=rfl);exact rfl;exact rfl;(first|exact zAr rfl|exact Co_bb rfl rfl rfl|exact Co_nn rfl);(first|exact rfl|(simp;done));exact rfl;(with_reducible exact zCn);(with_reducible exact zAe);(with_reducible exact zHv);(with_reducible exact zGM);(first|exact zCe (fun _=>rfl)|exact zDP rfl))|refine ayA rfl ?_|apply zAN|apply zAO
 ·simp only[qAE];omega
 ·refine zIU rfl rfl ?_ ?_
  ·simp
  ·rfl

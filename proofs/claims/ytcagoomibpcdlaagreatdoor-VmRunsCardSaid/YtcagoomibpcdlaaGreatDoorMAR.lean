import Derived.Lib.CutLaws
import Derived.Test.YtcagoomibpcdlaaGreatDoorMAF
set_option maxHeartbeats 16000000
namespace Go.Proofs.YtcagoomibpcdlaaGreatDoor
open _root_.Go.Proofs.Tryz
section
open Go.Sx
attribute [local irreducible] zAL Program.underlying Ylds zA2 alex zBZ zBP awp zAb zBh zBg zBR zAr zBV zBY zBe
theorem zLk{k:Nat}(h:k<10): (UInt8.ofNat (48+k)).toNat=48+k:=by
 rw[UInt8.toNat_ofNat'];omega
theorem zX8(u:Nat): ∀d∈Lib.decDigits u,48<=d.toNat/\d.toNat<=57:=by
 induction u using Nat.strongRecOn with
 |_ u ih =>
  intro d hd
  rw[Lib.decDigits]at hd
  split at hd
  ·rename_i h
   rw[qAM]at hd
   rw[hd,zLk h];omega
  ·rename_i h
   rcases qAc.1 hd with hd|hd
   ·exact ih (u / 10) (by omega) d hd
   ·rw[qAM]at hd
    rw[hd,zLk (Nat.mod_lt _ (by decide))];omega
theorem zX9(u:Nat)(h:u<18446744073709551616): (Lib.decDigits u).length<=20:=by
 rw[Lib.decDigits_length];exact Lib.nDigits_le20 u h
def shw(n:Int): List UInt8:=if n<0 then 126::Lib.decDigits n.natAbs else Lib.decDigits n.natAbs
theorem zck(n:Int): Lib.replace (Lib.itoa n) [45] [126] 1=shw n:=by
 rw[Lib.replace,if_neg (by decide)]
 unfold Lib.itoa shw
 split
 ·rename_i h
  have h1:Lib.replaceNum (45::Lib.decDigits n.natAbs) [45] 1=1:=by
   rw[Lib.replaceNum,Lib.count_cons_eq,if_neg (by omega)];rfl
  rw[h1,Lib.replaceK_hit [45] [126] 0 _ 0 (by rw[Lib.index];rfl)]
  simp[Lib.replaceK]
 ·rename_i h
  have h2:Lib.count (Lib.decDigits n.toNat) [45]=0:=by
   rw[Lib.count_one,List.count_eq_zero]
   intro hm
   have:=zX8 _ _ hm
   exact absurd this.1 (by decide)
  have h1:Lib.replaceNum (Lib.decDigits n.toNat) [45] 1=0:=by
   rw[Lib.replaceNum,h2,if_pos (by omega)]
  rw[h1,Lib.replaceK,show n.toNat=n.natAbs by omega]
theorem zNx{a b:List UInt8}(h:a=b): str a=str b:=by rw[h]
theorem zWK(n:Int): zAb prog 96 [i64 n] (str (shw (W n))):=by
 have hw:=W_bd n
 refine zAj func96 rfl ntmps96 results96 rfl ?_
 intro wb St0
 repeat' first|apply en_n|apply zAE|apply zAA|apply zAB|apply w0|exact ycA zFw (zFp _)|exact ycA zOr (zPR (W n) (by omega) (by omega))|exact ycA zSk (zS7 (Lib.itoa (W n)) [45] [126] 1 (by decide) (qAu (Lib.itoa_length_le (W n) (by omega) (by omega)) (by decide)) (by decide))|refine ayA rfl ?_|apply ay (hd:=rfl)|apply zAM|apply zAS|refine res1 rfl ?_
 exact zNx (zck _)
theorem zN4(U m:Nat)(s:List UInt8)(hi:(s=[]/\m=U)\/(s≠[]/\m=0/\s=Lib.decDigits U)\/(s≠[]/\0<m/\m<=U/\Lib.decDigits m++s=Lib.decDigits U))(hc:s=[]\/0<m):
  (UInt8.ofNat (48+m%10)::s≠[]/\m / 10=0/\UInt8.ofNat (48+m%10)::s=Lib.decDigits U)\/
   (UInt8.ofNat (48+m%10)::s≠[]/\0<m / 10/\m / 10<=U/\Lib.decDigits (m / 10)++UInt8.ofNat (48+m%10)::s=Lib.decDigits U):=by
 have e:Lib.decDigits m++s=Lib.decDigits U/\m<=U:=by
  rcases hi with⟨h1,h2⟩|⟨h1,h2,_⟩|⟨_,_,h3,h4⟩
  ·rw[h1,h2];simp
  ·rcases hc with hc|hc
   ·exact absurd hc h1
   ·omega
  ·exact⟨h4,h3⟩
 obtain⟨e,hm⟩:=e
 by_cases h10:m<10
 ·rw[Lib.decDigits,dif_pos h10]at e
  refine .inl ⟨by simp,by omega,?_⟩
  rw[show m%10=m by omega,<-e];rfl
 ·rw[Lib.decDigits,dif_neg h10]at e
  refine .inr ⟨by simp,by omega,by omega,?_⟩
  rw[<-e,qAg];rfl
def smu(p:Nat×List UInt8): Nat:=match p.2 with | []=>p.1+1|_=>p.1
theorem zTm(m:Nat)(c:UInt8)(s:List UInt8)(hc:s=[]\/0<m): smu (m / 10,c::s)<smu (m,s):=by
 cases s with
 |nil=>show m / 10<m+1;omega
 |cons x r =>
  show m / 10<m
  rcases hc with hc|hc
  ·cases hc
  ·omega
theorem zN5(m:Nat): IntKind.u8.wrap (IntKind.u64.wrap (48+(m:Int).tmod 10))=((48+m%10:Nat):Int):=by
 rw[show (m:Int).tmod 10=((m%10:Nat):Int)from rfl,zTA,zB7];omega
theorem zQe(m:Nat)(h:m<18446744073709551616): IntKind.u64.wrap ((m:Int).tdiv 10)=((m / 10:Nat):Int):=by
 rw[show (m:Int).tdiv 10=((m / 10:Nat):Int)from rfl,zB7];omega
theorem zXJ(n:Int): zAb prog 112 [i64 n] (str (shw (W n))):=by
 have hw:=W_bd n
 refine zAj func112 rfl ntmps112 results112 rfl ?_
 intro wb St0
 have hlen:=zX9 (W n).natAbs (by omega)
 repeat' first|apply en_n|apply zAE|apply zAA|apply zAB|apply w0|exact ycA zIV (zIM _)|exact ycA zP3 (zPh _ (W_bd _))|refine ayA rfl ?_|apply ay (hd:=rfl)|apply zAO
 refine zBA (α:=Nat×List UInt8) (fun p=>(p.2=[]/\p.1=(W n).natAbs)\/(p.2≠[]/\p.1=0/\p.2=Lib.decDigits (W n).natAbs)\/(p.2≠[]/\0<p.1/\p.1<=(W n).natAbs/\Lib.decDigits p.1++p.2=Lib.decDigits (W n).natAbs))
   (fun p=>[(0,.d (i64 (W n))),(3,.d (str p.2)),(4,.d (u64 (p.1:Int)))]) (fun _=>[]) smu ((W n).natAbs,[]) (.inl ⟨rfl,rfl⟩)
   (zAU (Le_all rfl) zAe rfl rfl) ?_
 rintro⟨m,s⟩ hi
 dsimp only at hi ⊢
 have hmb:m<=(W n).natAbs:=by omega
 have hsl:s.length<=20:=by
  rcases hi with⟨h1,_⟩|⟨_,_,h1⟩|⟨_,_,_,h1⟩
  ·rw[h1];simp
  ·rw[h1];exact hlen
  ·have:=congrArg List.length h1
   rw[qAE]at this;omega
 repeat' first|apply en_n|apply zAE|apply zAA|apply zAB|apply w0|exact zS4 rfl rfl|(apply zfG (ns:=[_]);exact rfl;with_reducible exact uu8s;with_reducible exact uu8;with_reducible exact ustr;exact(by simp))|(apply zNh;exact rfl;exact rfl;exact(by simp;omega))|(apply zS2;exact rfl;exact rfl;exact(by decide))|(apply zQI;exact rfl;exact rfl;exact(by decide))|(apply zDi;exact rfl;(first|with_reducible exact si64|with_reducible exact su64|with_reducible exact su8|with_reducible exact si32);(first|with_reducible exact ui64|with_reducible exact uu64|with_reducible exact uu8|with_reducible exact ui32))|(apply zVz (k:=.u64);exact rfl;exact rfl)|refine ayA rfl ?_|refine ayL rfl ?_|apply ay (hd:=rfl)|exact zES rfl rfl|exact zHI rfl rfl|refine w1 rfl rfl ?_|refine k0 (hd:=rfl) rfl rfl ?_|(apply gD;exact rfl;exact rfl;all_goals intro hb)|(apply zBO;exact rfl;all_goals intro hb)|refine zAJ rfl ?_|apply zAO|apply zAP|apply zAM|apply zBH|apply en_r|apply en_e|apply eb_n|apply eb_e|apply zAS|refine res1 rfl ?_
 ·refine⟨(m / 10,UInt8.ofNat (48+m%10)::s),.inr (zN4 _ m s hi (.inl hb)),zTm m _ s (.inl hb),zAU (Le_cons rfl (Le_d rfl (zNx ?_) (Le_d rfl (zNu (zQe m (by omega))).symm Le_nil))) zAe rfl rfl⟩
  rw[zN5];rfl
 ·have hm:0<m:=by omega
  refine⟨(m / 10,UInt8.ofNat (48+m%10)::s),.inr (zN4 _ m s hi (.inr hm)),zTm m _ s (.inr hm),zAU (Le_cons rfl (Le_d rfl (zNx ?_) (Le_d rfl (zNu (zQe m (by omega))).symm Le_nil))) zAe rfl rfl⟩
  rw[zN5];rfl
 ·rename_i h1 h2
  have e:s=Lib.decDigits (W n).natAbs:=by
   rcases hi with⟨h3,_⟩|⟨_,_,h3⟩|⟨_,h3,_⟩
   ·exact absurd h3 h1
   ·exact h3
   ·omega
  refine zNx ?_
  rw[shw,if_pos hb,e];rfl
 ·rename_i h1 h2
  have e:s=Lib.decDigits (W n).natAbs:=by
   rcases hi with⟨h3,_⟩|⟨_,_,h3⟩|⟨_,h3,_⟩
   ·exact absurd h3 h1
   ·exact h3
   ·omega
  refine zNx ?_
  rw[shw,if_neg hb,e]
end
section
open Go.Sx
attribute [local irreducible] zAL Program.underlying Ylds zA2 alex zBZ zBP awp zAb zBh zBg zBR zAr zBV zBY zBe

theorem zfI(x:Int): W (IntKind.i64.wrap x)=W x:=by rw[zD3,W,W];omega
def divV(a b:Int): Int:=if W b=0 then 0 else W ((W a).tdiv (W b))
def modV(a b:Int): Int:=if W b=0 then 0 else(W a).tmod (W b)
def zRw(b:Int): Int:=if W b=0 then 10 else 0
theorem zE0{b:Int}(h:W b=0): zRw b=10:=if_pos h
theorem zE1{b:Int}(h:¬W b=0): zRw b=0:=if_neg h
theorem zZe(a b:Int): zAb prog 89 [i64 a,i64 b] (.tup [i64 (divV a b),i64 (zRw b)]):=by
 refine zAj func89 rfl ntmps89 results89 rfl ?_
 intro wb St0
 repeat' first|apply en_n|apply zAE|apply zAA|apply zAB|apply w0|exact ycA zFw (zFp _)|(apply zQI;exact rfl;exact rfl;assumption)|refine ayA rfl ?_|apply ay (hd:=rfl)|exact zFC rfl rfl|(apply zBO;exact rfl;all_goals intro hb)|apply zAP|apply zAM|apply en_r|apply zAS|(apply res2;exact rfl;exact rfl)
 all_goals refine zFn ?_
 ·rw[divV,if_pos hb]
 ·rw[zE0 hb]
 ·rw[divV,if_neg hb];exact zfI _
 ·rw[zE1 hb]
theorem zZd(a b:Int): zAb prog 91 [i64 a,i64 b] (.tup [i64 (modV a b),i64 (zRw b)]):=by
 refine zAj func91 rfl ntmps91 results91 rfl ?_
 intro wb St0
 repeat' first|apply en_n|apply zAE|apply zAA|apply zAB|apply w0|exact ycA zFw (zFp _)|(apply zS2;exact rfl;exact rfl;assumption)|refine ayA rfl ?_|apply ay (hd:=rfl)|exact zFC rfl rfl|(apply zBO;exact rfl;all_goals intro hb)|apply zAP|apply zAM|apply en_r|apply zAS|(apply res2;exact rfl;exact rfl)
 all_goals refine zFn ?_
 ·rw[modV,if_pos hb]
 ·rw[zE0 hb]
 ·rw[modV,if_neg hb]
 ·rw[zE1 hb]
theorem zQY(a b:Int): a.tdiv b=if decide (a<0)=decide (b<0)then(a.natAbs:Int).tdiv b.natAbs else -((a.natAbs:Int).tdiv b.natAbs):=by
 by_cases ha:a<0 <;> by_cases hb:b<0
 ·have e1:a = -(a.natAbs:Int):=by omega
  have e2:b = -(b.natAbs:Int):=by omega
  rw[decide_eq_true ha,decide_eq_true hb,if_pos rfl]
  conv=>lhs;rw[e1,e2,Int.neg_tdiv,Int.tdiv_neg,Int.neg_neg]
 ·have e1:a = -(a.natAbs:Int):=by omega
  have e2:b=(b.natAbs:Int):=by omega
  rw[decide_eq_true ha,decide_eq_false hb,if_neg (by decide)]
  conv=>lhs;rw[e1,e2,Int.neg_tdiv]
 ·have e1:a=(a.natAbs:Int):=by omega
  have e2:b = -(b.natAbs:Int):=by omega
  rw[decide_eq_false ha,decide_eq_true hb,if_neg (by decide)]
  conv=>lhs;rw[e1,e2,Int.tdiv_neg]
 ·have e1:a=(a.natAbs:Int):=by omega
  have e2:b=(b.natAbs:Int):=by omega
  rw[decide_eq_false ha,decide_eq_false hb,if_pos rfl]
  conv=>lhs;rw[e1,e2]
theorem zQX(a b:Int): a.tmod b=if a<0 then -((a.natAbs:Int).tmod b.natAbs)else(a.natAbs:Int).tmod b.natAbs:=by
 have hb:a.tmod b=a.tmod b.natAbs:=by
  by_cases hb:b<0
  ·have e2:b = -(b.natAbs:Int):=by omega
   conv=>lhs;rw[e2,Int.tmod_neg]
  ·have e2:b=(b.natAbs:Int):=by omega
   conv=>lhs;rw[e2]
 rw[hb]
 split
 ·rename_i ha
  have e1:a = -(a.natAbs:Int):=by omega
  conv=>lhs;rw[e1,Int.neg_tmod]
 ·rename_i ha
  have e1:a=(a.natAbs:Int):=by omega
  conv=>lhs;rw[e1]
theorem zK4(a b:Nat): 0<=(a:Int).tmod b/\(a:Int).tmod b<=a :=
 ⟨Int.natCast_nonneg (a%b),Int.ofNat_le.2 (Nat.mod_le a b)⟩
theorem zOT{b:Int}(h:¬b=0): ((b.natAbs:Nat):Int)≠0:=by omega
def okZ(b:Int): Bool:=!decide (W b=0)
theorem zaX(a b:Int): zAb prog 144 [i64 a,i64 b] (.tup [i64 (divV a b),bl (okZ b)]):=by
 refine zAj func144 rfl ntmps144 results144 rfl ?_
 intro wb St0
 repeat' first|apply en_n|apply zAE|apply zAA|apply zAB|apply w0|(apply zPG (k:=.u64);exact rfl;exact rfl)|(apply zZH;exact rfl;exact rfl;with_reducible exact zZt)|exact ycA zIV (zIM _)|exact ycA zP3 (zPh _ (W_bd _))|(apply zQI;exact rfl;exact rfl;exact zOT (by assumption))|(refine zAR zLe (zLr _ (by rw[zB7];omega)) (CoLA rfl))|refine ayA rfl ?_|apply ay (hd:=rfl)|exact zES rfl rfl|exact zFC rfl rfl|(apply zBO;exact rfl;all_goals intro hb)|(apply zO9;exact rfl;all_goals intro hb)|apply zAP|apply zAM|apply en_r|apply zAS|(apply res2;exact rfl;exact rfl)
 ·rw[divV,if_pos hb]
 ·rw[okZ,decide_eq_true hb];rfl
 ·rename_i h0
  rw[divV,if_neg h0,zQY (W a) (W b),if_neg hb,zd1,zB7]
  generalize ((W a).natAbs:Int).tdiv (W b).natAbs=x
  refine zFn ?_
  rw[W,W];omega
 ·rename_i h0
  rw[okZ,decide_eq_false h0];rfl
 ·rename_i h0
  rw[divV,if_neg h0,zQY (W a) (W b),if_pos hb,zd1]
 ·rename_i h0
  rw[okZ,decide_eq_false h0];rfl
theorem zaV(a b:Int): zAb prog 145 [i64 a,i64 b] (.tup [i64 (modV a b),bl (okZ b)]):=by
 refine zAj func145 rfl ntmps145 results145 rfl ?_
 intro wb St0
 repeat' first|apply en_n|apply zAE|apply zAA|apply zAB|apply w0|(apply zDi;exact rfl;(first|with_reducible exact si64|with_reducible exact su64|with_reducible exact su8|with_reducible exact si32);(first|with_reducible exact ui64|with_reducible exact uu64|with_reducible exact uu8|with_reducible exact ui32))|exact zdw rfl|exact ycA zIV (zIM _)|exact ycA zP3 (zPh _ (W_bd _))|(apply zS2;exact rfl;exact rfl;exact zOT (by assumption))|refine ayA rfl ?_|apply ay (hd:=rfl)|exact zES rfl rfl|exact zFC rfl rfl|(apply zBO;exact rfl;all_goals intro hb)|apply zAP|apply zAM|apply en_r|apply zAS|(apply res2;exact rfl;exact rfl)
 ·rw[modV,if_pos hb]
 ·rw[okZ,decide_eq_true hb];rfl
 ·rename_i h0
  have h1:=W_bd a
  have h2:=zK4 (W a).natAbs (W b).natAbs
  rw[modV,if_neg h0,zQX (W a) (W b),if_pos hb,zD3,zD3]
  refine zFn ?_
  omega
 ·rename_i h0
  rw[okZ,decide_eq_false h0];rfl
 ·rename_i h0
  have h1:=W_bd a
  have h2:=zK4 (W a).natAbs (W b).natAbs
  rw[modV,if_neg h0,zQX (W a) (W b),if_neg hb,zD3]
  refine zFn ?_
  omega
 ·rename_i h0
  rw[okZ,decide_eq_false h0];rfl

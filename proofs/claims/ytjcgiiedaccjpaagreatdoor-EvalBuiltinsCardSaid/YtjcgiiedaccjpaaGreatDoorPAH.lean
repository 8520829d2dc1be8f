/- Parts. -/
import Derived.Lib.IndexAny
import Derived.Lib.IndexLaws
import Derived.Test.YtjcgiiedaccjpaaGreatDoorPAG
set_option maxHeartbeats 16000000
namespace Go.Proofs.YtjcgiiedaccjpaaGreatDoor
open _root_.Go.Proofs.Tryz
open Go.Sx
attribute [local irreducible] zAQ Program.underlying Ylds zBJ alex zBk zBZ awp zAX FCall zBo zBR zBX zBb zBD zBd zBj zBn zBu
abbrev u8(c:UInt8): D:=.val (.int .u8 (c.toNat:Int))
theorem zCX{a b:Bool}(h:a=b): D.val (Value.bool a)=bl b:=by subst h;rfl
theorem zCm{a b:Int}(h:a=b): D.val (Value.int .i64 a)=i64 b:=by subst h;rfl
theorem zQl(c:UInt8): zAX prog 156 [u8 c] (bl (zGS c)):=by
 refine zAc func156 rfl ntmps156 results156 rfl ?_
 intro wb St0
 repeat' first|apply en_n|apply zAE|apply zAA|apply zAD|apply w0|refine k1u (hd:=rfl) rfl rfl ?_|refine ayA rfl ?_|apply ay (hd:=rfl)|exact zI3 rfl rfl|refine w1 rfl rfl ?_|(apply gD;exact rfl;exact rfl;all_goals intro hb)|apply zAN|apply zAO|refine res1 rfl ?_
 all_goals exact zCX (by simp only[zGS];first|(rw[decide_eq_decide];omega)|(symm;rw[decide_eq_false_iff_not];omega))
theorem zRK(c:UInt8): zAX prog 157 [u8 c] (bl (zGT c)):=by
 refine zAc func157 rfl ntmps157 results157 rfl ?_
 intro wb St0
 repeat' first|apply en_n|apply zAE|apply zAA|apply zAD|apply w0|refine k1u (hd:=rfl) rfl rfl ?_|refine ayA rfl ?_|apply ay (hd:=rfl)|exact zI3 rfl rfl|refine w1 rfl rfl ?_|(apply gD;exact rfl;exact rfl;all_goals intro hb)|apply zAN|apply zAO|refine res1 rfl ?_
 all_goals exact zCX (by simp only[zGT];first|(rw[decide_eq_decide];omega)|(symm;rw[decide_eq_false_iff_not];omega))
theorem zX1(c:UInt8): zAX prog 184 [u8 c] (bl (zH3 c)):=by
 refine zAc func184 rfl ntmps184 results184 rfl ?_
 intro wb St0
 repeat' first|apply en_n|apply zAE|apply zAA|apply zAD|apply w0|refine k1u (hd:=rfl) rfl rfl ?_|refine ayA rfl ?_|apply ay (hd:=rfl)|exact zI3 rfl rfl|refine w1 rfl rfl ?_|(apply gD;exact rfl;exact rfl;all_goals intro hb)|apply zAN|apply zAO|refine res1 rfl ?_
 all_goals exact zCX (by simp only[zH3];first|(rw[decide_eq_decide];omega)|(symm;rw[decide_eq_false_iff_not];omega))
theorem zbE(c d:UInt8): (c==d)=decide ((c.toNat:Int)=(d.toNat:Int)):=by
 cases h:c==d with
 |true=>rw[eq_of_beq h];simp
 |false =>
  symm;rw[decide_eq_false_iff_not];intro h2
  have:c=d:=UInt8.toNat_inj.1 oM
  rw[this]at h;simp at h
theorem zXK(c:UInt8): zAX prog 154 [u8 c] (bl (zG0 c)):=by
 refine zAc func154 rfl ntmps154 results154 rfl ?_
 intro wb St0
 repeat' first|apply en_n|apply zAE|apply zAA|apply zAD|apply w0|refine k0u (hd:=rfl) rfl rfl ?_|(apply zAP (hb:=zRD) (hc:=zQl c))|(apply zAP (hb:=zRF) (hc:=zRK c))|(apply zAP (hb:=zXT) (hc:=zX1 c))|refine ayA rfl ?_|apply ay (hd:=rfl)|exact zDz rfl rfl|refine w1 rfl rfl ?_|(apply gD;exact rfl;exact rfl;all_goals intro hb)|apply zAN|apply zAO|refine res1 rfl ?_|exact zAF|refine zAL rfl ?_
 all_goals refine zCX ?_
 all_goals simp only[zG0,zGS,zGT,zH3,zbE,<-Bool.decide_or,show ((95:UInt8).toNat:Int)=95 from rfl,show ((39:UInt8).toNat:Int)=39 from rfl]at *
 all_goals first|(rw[decide_eq_decide];omega)|(symm;rw[decide_eq_true_eq];omega)
theorem zbc(c:UInt8): decide (Lib.indexByte signL c>=0)=zFV c:=by rw[zFV,Lib.contains_iff_indexByte]
theorem zZg(c:UInt8): zAX prog 158 [u8 c] (bl (zFV c)):=by
 refine zAc func158 rfl ntmps158 results158 rfl ?_
 intro wb St0
 repeat' first|apply en_n|apply zAE|apply zAA|apply zAD|apply w0|(apply zAP (hb:=zOY) (hc:=zPL signL c))|refine ayA rfl ?_|apply ay (hd:=rfl)|exact zFU rfl rfl|apply zAN|apply zAO|refine res1 rfl ?_|exact zAF|refine zAL rfl ?_
 exact zCX (zbc c)
def isK(c:UInt8): Int:=if zFV c then 5 else if zGS c then 1 else if zGT c then 2 else if zH3 c then 3 else if c=95\/c=39 then 4 else 0
theorem zWl{c:UInt8}{i:Nat}(h:i<16)(h1:((signL.getD i 0).toNat:Int)=(c.toNat:Int)): zFV c=true:=by
 have:signL.getD i 0=c:=UInt8.toNat_inj.1 oM
 have h2:i<signL.length:=h
 rw[zFV,<-this,qAL,qAB h2]
 simp
theorem zNt{c:UInt8}(h:∀j,j<16->(signL.getD j 0)≠c): zFV c=false:=by
 cases h2:zFV c with
 |false=>rfl
 |true =>
  rw[zFV]at h2
  obtain⟨j,hj,e⟩:=List.getElem_of_mem (List.contains_iff_mem.1 h2)
  refine absurd ?_ (h j hj)
  rw[qAL,qAB hj];exact e
theorem zba(c:UInt8): zAX prog 165 [u8 c] (i64 (isK c)):=by
 refine zAc func165 rfl ntmps165 results165 rfl ?_
 intro wb St0
 repeat' first|apply en_n|apply zAE|apply zAA|apply zAD|apply w0|refine ayA rfl ?_|apply zAH
 refine zAt (α:=Nat) (fun i=>i<=16/\∀j,j<i->signL.getD j 0≠c) (fun i=>[(0,.d (u8 c)),(3,.d (str signL)),(4,.d (i64 (i:Int)))]) (fun _=>[]) (fun i=>16-i) 0 ⟨qAO _,by omega⟩
   (zAV (Le_all rfl) zAW rfl rfl) ?_
 rintro i ⟨hi1,hi2⟩
 have hL:signL.length=16:=rfl
 repeat' first|apply en_n|apply zAE|apply zAA|apply zAD|apply w0|refine k1u (hd:=rfl) rfl rfl ?_|refine k0u (hd:=rfl) rfl rfl ?_|(apply zDK;exact rfl;with_reducible exact ustr)|(apply zNS;exact rfl;exact rfl;with_reducible exact ustr;(first|assumption|omega))|refine ayA rfl ?_|apply ay (hd:=rfl)|exact zCt rfl rfl|exact zI3 rfl rfl|exact zFU rfl rfl|exact zDz rfl rfl|refine zBN rfl rfl ?_|refine w1 rfl rfl ?_|(apply gD;exact rfl;exact rfl;all_goals intro hb)|(apply zA3;exact rfl;all_goals intro hb)|refine zAJ rfl ?_|refine zAK rfl ?_|apply zAH|apply zAM|apply zAN|apply zAz|apply en_r|apply en_e|apply eb_n|apply eb_r|apply eb_e|apply zAO|refine res1 rfl ?_
 ·rename_i h1;rw[hL]at h1
  exact zCm (by rw[isK,zWl oM hb,if_pos rfl])
 ·omega
 ·rename_i h1;rw[hL]at h1
  refine⟨i+1,⟨by omega,fun j hj=>?_⟩,by omega,zAV (Le_all rfl) zAW rfl rfl⟩
  rcases qAF j i with h|h
  ·exact hi2 j h
  ·rw[show j=i by omega];rintro rfl;exact hb rfl
 all_goals
  have hs:zFV c=false:=zNt fun j hj=>hi2 j oM
  have e95:c=95↔(c.toNat:Int)=95:=by rw[<-UInt8.toNat_inj];show _=95↔_;omega
  have e39:c=39↔(c.toNat:Int)=39:=by rw[<-UInt8.toNat_inj];show _=39↔_;omega
  refine zCm ?_
  rw[isK,hs,if_neg dC]
  simp only[zGS,zGT,zH3,decide_eq_true_eq,e95,e39]
  repeat' split
  all_goals first|rfl|omega
theorem zJw(p:UInt8->Bool): ∀(s:List UInt8) (n:Nat),n<=s.length->(∀j,j<n->p (s.getD j 0)=true)->(n=s.length\/p (s.getD n 0)=false)->zLV p s=n
 |[],n,h,_,_=>by rw[zLV];simp at h;omega
 |c::s,n,h,h1,h2=>by
  rw[zLV]
  cases n with
  |zero =>
   have h2:p c=false:=by
    rcases h2 with h2|h2
    ·simp at h2
    ·exact h2
   rw[h2];rfl
  |succ n =>
   have h3:p c=true:=h1 0 oM
   rw[if_pos h3,zJw p s n (by simpa using h) (fun j hj=>h1 (j+1) oM) (by simpa using h2)]
theorem getB{l:List UInt8}{i:Nat}(h:i<(⟨l.toArray⟩:ByteArray).size): (⟨l.toArray⟩:ByteArray)[i]'h=l.getD i 0:=by
 have hlt:i<l.length:=by rw[zDR]at h;exact h
 rw[qAL,qAB hlt];rfl
theorem zVk{l:List UInt8}{i:Nat}(h:i<l.length)(h1:¬((Utf8.decode ⟨l.toArray⟩ i).1:Int)>126): (Utf8.decode ⟨l.toArray⟩ i).2=1/\(Utf8.decode ⟨l.toArray⟩ i).1=(l.getD i 0).toNat/\(l.getD i 0).toNat<=126:=by
 have hs:i<(⟨l.toArray⟩:ByteArray).size:=by rw[zDR];exact h
 rcases qAF ((⟨l.toArray⟩:ByteArray)[i]'hs).toNat 128 with h3|h3
 ·have e:=decode_ascii ⟨l.toArray⟩ i hs h3
  rw[getB hs]at e
  rw[e]at h1 ⊢
  dsimp only at h1
  exact⟨rfl,rfl,by omega⟩
 ·have:=(decode_high ⟨l.toArray⟩ i hs h3).1
  omega
theorem zSt{l:List UInt8}{i:Nat}(h:i<l.length)(h1:((Utf8.decode ⟨l.toArray⟩ i).1:Int)>126): (l.getD i 0).toNat>126:=by
 have hs:i<(⟨l.toArray⟩:ByteArray).size:=by rw[zDR];exact h
 rcases qAF ((⟨l.toArray⟩:ByteArray)[i]'hs).toNat 128 with h3|h3
 ·have e:=decode_ascii ⟨l.toArray⟩ i hs h3
  rw[getB hs]at e
  rw[e]at h1
  dsimp only at h1
  omega
 ·rw[getB hs]at h3
  omega
def allF(p:UInt8->Bool)(s:List UInt8): Bool:=s.all p && !s.isEmpty
theorem zV7{p:UInt8->Bool}{s:List UInt8}{i:Nat}(h:i<s.length)(h1:p (s.getD i 0)=false): allF p s=false:=by
 have:s.all p=false:=by
  rw[List.all_eq_false]
  refine⟨s.getD i 0,?_,by rw[h1];decide⟩
  rw[qAL,qAB h];simp
 rw[allF,this];rfl
theorem zcC{p:UInt8->Bool}{s:List UInt8}(h:∀j,j<s.length->p (s.getD j 0)=true): allF p s=decide (s≠[]):=by
 have:s.all p=true:=by
  rw[qAI];intro x hx
  obtain⟨j,hj,rfl⟩:=List.getElem_of_mem hx
  have:=h j hj
  rwa [qAL,qAB hj]at this
 rw[allF,this]
 cases s <;> simp
theorem zY2(f:FuncId)(p:UInt8->Bool)(hb:zAQ prog f=true)(hp:∀c,zAX prog f [u8 c] (bl (p c)))(hp2:∀c,c.toNat>126->p c=false)(s:List UInt8):
  zBX prog 153 [.d (str s),.clo f []] [] (bl (allF p s)):=by
 have hbf:=hb;clear hb
 refine zDS func153 rfl ntmps153 results153 rfl ?_
 intro wb St0
 repeat' first|apply en_n|apply zAE|apply zAA|apply zAD|apply w0|(apply zcH (hd:=rfl) (hro:=rfl);exact rfl;with_reducible exact ustr)|refine ayA rfl ?_|apply zAH
 refine zAt (α:=Nat) (fun i=>i<=s.length/\∀j,j<i->p (s.getD j 0)=true)
  (fun i=>[(0,.d (str s)),(1,.clo f []),(8,.ptr 0 0)]) (fun i=>[.iter ⟨s.toArray⟩ i]) (fun i=>s.length-i) 0 ⟨qAO _,by omega⟩
   (zAV (Le_all rfl) (zAT rfl rfl zAW) rfl rfl) ?_
 rintro i ⟨hi1,hi2⟩
 repeat' first|apply en_n|apply zAE|apply zAA|apply zAD|apply w0|refine k0u (hd:=rfl) rfl rfl ?_|exact zFL rfl rfl|(apply zdA (hd:=rfl) (hro:=rfl);exact rfl;exact rfl;all_goals intro hb)|(apply zGm;exact rfl;with_reducible exact si32;with_reducible exact uu8)|(apply zWG (hb:=hbf) (hc:=hp (s.getD i 0));exact rfl)|refine ayA rfl ?_|apply ay (hd:=rfl)|exact zF4 rfl rfl|refine w1 rfl rfl ?_|(apply gD;exact rfl;exact rfl;all_goals intro hb)|refine zAJ rfl ?_|refine zAK rfl ?_|(apply zCd;exact rfl;all_goals intro hb)|apply zAH|apply zAM|apply zAN|apply zAz|apply en_r|apply en_e|apply eb_n|apply eb_r|apply eb_e|apply zAO|refine res1 rfl ?_
 ·rename_i h0
  have hlt:i<s.length:=by rw[zDR]at h0;exact h0
  exact zCX (zV7 hlt (hp2 _ (zSt hlt hb))).symm
 ·rename_i h0
  have hlt:i<s.length:=by rw[zDR]at h0;exact h0
  obtain⟨_,e,hl⟩:=zVk hlt hb
  refine zAL ?_ zAF
  show SV.d (D.val (.int .u8 (IntKind.u8.wrap (((Utf8.decode ⟨s.toArray⟩ i).1:Nat):Int))))=_
  rw[e,zTI,show (((s.getD i 0).toNat:Nat):Int)%256=((s.getD i 0).toNat:Int) by omega]
 ·rename_i h0 h1
  have hlt:i<s.length:=by rw[zDR]at h0;exact h0
  exact zCX (zV7 hlt (by simpa using hb)).symm
 ·rename_i h0 h1
  have hlt:i<s.length:=by rw[zDR]at h0;exact h0
  obtain⟨e1,_,hl⟩:=zVk hlt h1
  refine⟨i+1,⟨by omega,fun j hj=>?_⟩,by omega,zAV (Le_all rfl) (zAT rfl (by rw[e1]) zAW) rfl rfl⟩
  rcases qAF j i with h|h
  ·exact hi2 j h
  ·rw[show j=i by omega];simpa using hb
 ·have hge:¬i<s.length:=by rw[zDR]at hb;exact hb
  exact zCX (zcC fun j hj=>hi2 j oM).symm
def btw(lo hi:Int)(c:UInt8): Bool:=decide (lo<=isK c/\isK c<=hi)
theorem zK9(s:List UInt8)(a j:Nat): (s.drop a).getD j 0=s.getD (a+j) 0:=by
 rw[qAL,qAL,qBC]
theorem zNi(s:List UInt8)(at_:Nat)(lo hi:Int)(hs:s.length<=9223372036854775807)(ha:at_<=s.length):
  zAX prog 166 [str s,i64 (at_:Int),i64 lo,i64 hi] (i64 ((at_+zLV (btw lo hi) (s.drop at_):Nat):Int)):=by
 refine zAc func166 rfl ntmps166 results166 rfl ?_
 intro wb St0
 repeat' first|apply en_n|apply zAE|apply zAA|apply zAD|apply w0|refine ayA rfl ?_|apply zAH
 refine zAt (α:=Nat) (fun i=>at_+i<=s.length/\∀j,j<i->btw lo hi ((s.drop at_).getD j 0)=true) (fun i=>[(0,.d (str s)),(1,.d (i64 ((at_+i:Nat):Int))),(2,.d (i64 lo)),(3,.d (i64 hi))]) (fun _=>[]) (fun i=>s.length-(at_+i)) 0 ⟨by omega,by omega⟩
   (zAV (Le_all rfl) zAW rfl rfl) ?_
 rintro i ⟨hi1,hi2⟩
 repeat' first|apply en_n|apply zAE|apply zAA|apply zAD|apply w0|refine k1u (hd:=rfl) rfl rfl ?_|(apply zDK;exact rfl;with_reducible exact ustr)|(apply zNS;exact rfl;exact rfl;with_reducible exact ustr;(first|assumption|omega))|(apply zAP (hb:=zbd) (hc:=zba (s.getD (at_+i) 0)))|refine ayA rfl ?_|apply ay (hd:=rfl)|exact zCt rfl rfl|exact zI3 rfl rfl|exact zFU rfl rfl|refine zBN rfl rfl ?_|refine w1 rfl rfl ?_|(apply gD;exact rfl;exact rfl;all_goals intro hb)|(apply zA3;exact rfl;all_goals intro hb)|refine zAK rfl ?_|apply zAH|apply zAM|apply zAN|apply zAz|apply en_e|apply eb_n|apply eb_e|apply zAO|refine res1 rfl ?_|exact zAF|refine zAL rfl ?_
 ·omega
 ·rename_i h1 h2
  have hb:btw lo hi ((s.drop at_).getD i 0)=true:=by
   rw[zK9,btw,decide_eq_true_eq];exact⟨h2,hb⟩
  refine⟨i+1,⟨by omega,fun j hj=>?_⟩,by omega,zAV (Le_cons rfl (Le_d rfl (by rw[Int.natCast_add,Int.natCast_add,Int.natCast_add,Int.add_assoc];rfl) (Le_all rfl))) zAW rfl rfl⟩
  rcases qAF j i with h|h
  ·exact hi2 j h
  ·rw[show j=i by omega];exact hb
 ·rename_i h1 h2
  have hb:btw lo hi ((s.drop at_).getD i 0)=false:=by
   rw[zK9,btw,decide_eq_false_iff_not];exact fun h=>hb h.2
  rw[zJw _ _ i (by rw[qAg];omega) hi2 (.inr hb)]
 ·rename_i h1
  have hb:btw lo hi ((s.drop at_).getD i 0)=false:=by
   rw[zK9,btw,decide_eq_false_iff_not];exact fun h=>hb h.1
  rw[zJw _ _ i (by rw[qAg];omega) hi2 (.inr hb)]
 ·rw[zJw _ _ i (by rw[qAg];omega) hi2 (.inl (by rw[qAg];omega))]
def idxT(A:List (List UInt8))(b:List UInt8): Int:=if b∈A then((A.takeWhile fun x=>decide (x≠b)).length:Int)else -1
theorem zXL{A:List (List UInt8)}{b:List UInt8}{i:Nat}(h0:∀j,j<i->A[j]?≠some b)(h1:A[i]?=some b): idxT A b=i:=by
 have hm:b∈A:=qAC h1
 rw[idxT,if_pos hm]
 congr 1
 induction A generalizing i with
 |nil=>simp at h1
 |cons x r ih =>
  cases i with
  |zero=>simp at h1;simp[List.takeWhile,h1]
  |succ i =>
   have hx:x≠b:=by have:=h0 0 oM;simpa using this
   rw[List.takeWhile_cons,if_pos (by simpa using hx),qAK]
   rw[ih (i:=i) (fun j hj=>by have:=h0 (j+1) oM;simpa using this) (by simpa using h1) (qAC (by simpa using h1))]
theorem zOS{A:List (List UInt8)}{b:List UInt8}(h:b∉A): idxT A b = -1:=if_neg h
theorem zWP(A:List (List UInt8))(b:List UInt8)(hL:A.length<=2000000): zAX prog 204 [strs A,str b] (i64 (idxT A b)):=by
 refine zAc func204 rfl ntmps204 results204 rfl ?_
 intro wb St0
 repeat' first|apply en_n|apply zAE|apply zAA|apply zAD|apply w0|refine ayA rfl ?_|apply zAH
 refine zAt (α:=Nat) (fun i=>i<=A.length/\∀j,j<i->A[j]?≠some b) (fun i=>[(0,.d (strs A)),(1,.d (str b)),(7,.d (i64 (A.length:Int))),(8,.d (i64 (i:Int)))]) (fun _=>[]) (fun i=>A.length-i) 0 ⟨qAO _,by omega⟩
   (zAV (Le_cons rfl (Le_cons rfl (Le_d rfl (by first|rfl|simp) (Le_all rfl)))) zAW rfl rfl) ?_
 rintro i ⟨hi1,hi2⟩
 repeat' first|apply en_n|apply zAE|apply zAA|apply zAD|apply w0|exact zHt rfl rfl|(apply aI (hd:=rfl);(first|exact zAr rfl|exact Co_bb rfl rfl rfl|exact Co_nn rfl);exact rfl;(with_reducible exact zA6);exact fun _=>rfl;rotate_left;intro v hv;rotate_right)|refine ayA rfl ?_|apply ay (hd:=rfl)|exact zCt rfl rfl|refine zBN rfl rfl ?_|(apply zA3;exact rfl;all_goals intro hb)|apply zAH|apply zAM|apply zAN|apply zAz|apply en_r|apply en_e|apply eb_n|apply eb_r|apply eb_e|apply zAO|refine res1 rfl ?_
 ·omega
 ·subst hb;rw[zXL hi2 hv]
 ·omega
 ·refine⟨i+1,⟨by omega,fun j hj=>?_⟩,by omega,zAV (Le_all rfl) zAW rfl rfl⟩
  rcases qAF j i with h1|h1
  ·exact hi2 j h1
  ·rw[show j=i by omega];intro h2;exact hb (qBR (h2.symm.trans hv))
 ·rw[zOS];intro h1
  obtain⟨j,hj,h2⟩:=List.getElem_of_mem h1
  exact hi2 j oM (by rw[qAB hj,h2])
theorem zJm(A:List (List UInt8))(b:List UInt8)(hL:A.length<=2000000): zAX prog 173 [strs A,str b] (bl (A.contains b)):=by
 refine zAc func173 rfl ntmps173 results173 rfl ?_
 intro wb St0
 repeat' first|apply en_n|apply zAE|apply zAA|apply zAD|apply w0|(apply zAP (hb:=zXV) (hc:=zWP A b hL))|refine ayA rfl ?_|apply ay (hd:=rfl)|exact zFU rfl rfl|apply zAN|apply zAO|refine res1 rfl ?_|exact zAF|refine zAL rfl ?_
 refine zCX ?_
 by_cases h:b∈A
 ·rw[List.contains_iff_mem.2 h,idxT,if_pos h];exact decide_eq_true oM
 ·rw[show A.contains b=false by simpa using h,zOS h];rfl
theorem zWX: zAX prog 185 [] (strs kws):=by
 refine zAc func185 rfl ntmps185 results185 rfl ?_
 intro wb St0
 exact yh
theorem zZD(s:List UInt8): zAX prog 155 [str s] (bl (zSS s)):=by
 refine zAc func155 rfl ntmps155 results155 rfl ?_
 intro wb St0
 exact yh
theorem zRv{η:List Ob}{σ:Sl}: ∀L:List (List UInt8),CoL η σ (L.map fun l=>Operand.const (.string ⟨l.toArray⟩)) (L.map str)
 |[]=>zAF
 |_::r=>zAL rfl (zRv r)
theorem zTy: zAX prog 188 [] (strs kws):=by
 refine zAc func188 rfl ntmps188 results188 rfl ?_
 intro wb St0
 exact yh
theorem zZl(s:List UInt8): zAX prog 167 [str s] (bl (zSS s)):=by
 refine zAc func167 rfl ntmps167 results167 rfl ?_
 intro wb St0
 repeat' first|apply en_n|apply zAE|apply zAA|apply zAD|apply w0|(apply zAP (hb:=zUm) (hc:=zTy))|refine ayA rfl ?_|apply ay (hd:=rfl)|apply zAH|exact zAF
 refine zAt (α:=Nat) (fun i=>i<=kws.length/\∀j,j<i->kws[j]?≠some s) (fun i=>[(0,.d (str s)),(3,.d (strs kws)),(4,.d (i64 (i:Int)))]) (fun _=>[]) (fun i=>kws.length-i) 0 ⟨qAO _,by omega⟩
   (zAV (Le_all rfl) zAW rfl rfl) ?_
 rintro i ⟨hi1,hi2⟩
 have hk:kws.length=25:=rfl
 repeat' first|apply en_n|apply zAE|apply zAA|apply zAD|apply w0|exact zHt rfl rfl|(apply aI (hd:=rfl);(first|exact zAr rfl|exact Co_bb rfl rfl rfl|exact Co_nn rfl);exact rfl;(with_reducible exact zA6);exact fun _=>rfl;rotate_left;intro v hv;rotate_right)|refine ayA rfl ?_|apply ay (hd:=rfl)|exact zCt rfl rfl|refine zBN rfl rfl ?_|(apply zA3;exact rfl;all_goals intro hb)|apply zAH|apply zAM|apply zAN|apply zAz|apply en_r|apply en_e|apply eb_n|apply eb_r|apply eb_e|apply zAO|refine res1 rfl ?_
 ·omega
 ·subst hb;exact zCX (List.contains_iff_mem.2 (qAC hv)).symm
 ·omega
 ·refine⟨i+1,⟨by omega,fun j hj=>?_⟩,by omega,zAV (Le_all rfl) zAW rfl rfl⟩
  rcases qAF j i with h1|h1
  ·exact hi2 j h1
  ·rw[show j=i by omega];intro h2;exact hb (qBR (hv.symm.trans h2))
 ·refine zCX ?_
  symm;rw[zSS,<-Bool.not_eq_true];intro h1
  obtain⟨j,hj,h2⟩:=List.getElem_of_mem (List.contains_iff_mem.1 h1)
  exact hi2 j oM (by rw[qAB hj,h2])

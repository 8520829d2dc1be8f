/- Parts of the proof. -/
import Derived.Lib.IndexAny
import Derived.Lib.IndexLaws
import Derived.Test.YtcagoomibpcdlaaGreatDoorMAD
set_option maxHeartbeats 16000000
namespace Go.Proofs.YtcagoomibpcdlaaGreatDoor
open _root_.Go.Proofs.Tryz
open Go.Sx
attribute [local irreducible] zAN Program.underlying Ylds zA9 alex zB3 zBf awp zAi zCC zCB zAU zAz zBj zBB zBr zB2 zB8 zBi
abbrev u8(c:UInt8): D:=.val (.int .u8 (c.toNat:Int))
theorem zDi{a b:Bool}(h:a=b): D.val (Value.bool a)=bl b:=by subst h;rfl
theorem zOA{a b:Int}(h:a=b): D.val (Value.int .i64 a)=i64 b:=by subst h;rfl
theorem zNf(c:UInt8): zAi prog 181 [u8 c] (bl (zHI c)):=by
 refine zAs func181 rfl ntmps181 results181 rfl ?_
 intro wb St0
 repeat' first|apply en_n|apply zAH|apply zAA|apply zAD|apply w0|(apply k1u (hd:=rfl);exact rfl;exact rfl)|apply ay (hd:=rfl)|exact zAF rfl|exact zAB rfl|exact zIY rfl rfl|exact zAa rfl rfl|exact zAX rfl rfl|refine w1 rfl rfl ?_|(apply gD;exact rfl;exact rfl;all_goals intro hb)|apply zAQ|apply zAR|refine res1 rfl ?_
 all_goals exact zDi (by simp only[zHI];first|(rw[decide_eq_decide];omega)|(symm;rw[decide_eq_false_iff_not];omega))
theorem zOD(c:UInt8): zAi prog 182 [u8 c] (bl (zHJ c)):=by
 refine zAs func182 rfl ntmps182 results182 rfl ?_
 intro wb St0
 repeat' first|apply en_n|apply zAH|apply zAA|apply zAD|apply w0|(apply k1u (hd:=rfl);exact rfl;exact rfl)|apply ay (hd:=rfl)|exact zAF rfl|exact zAB rfl|exact zIY rfl rfl|exact zAa rfl rfl|exact zAX rfl rfl|refine w1 rfl rfl ?_|(apply gD;exact rfl;exact rfl;all_goals intro hb)|apply zAQ|apply zAR|refine res1 rfl ?_
 all_goals exact zDi (by simp only[zHJ];first|(rw[decide_eq_decide];omega)|(symm;rw[decide_eq_false_iff_not];omega))
theorem zUM(c:UInt8): zAi prog 196 [u8 c] (bl (zJN c)):=by
 refine zAs func196 rfl ntmps196 results196 rfl ?_
 intro wb St0
 repeat' first|apply en_n|apply zAH|apply zAA|apply zAD|apply w0|(apply k1u (hd:=rfl);exact rfl;exact rfl)|apply ay (hd:=rfl)|exact zAF rfl|exact zAB rfl|exact zIY rfl rfl|exact zAa rfl rfl|exact zAX rfl rfl|refine w1 rfl rfl ?_|(apply gD;exact rfl;exact rfl;all_goals intro hb)|apply zAQ|apply zAR|refine res1 rfl ?_
 all_goals exact zDi (by simp only[zJN];first|(rw[decide_eq_decide];omega)|(symm;rw[decide_eq_false_iff_not];omega))
theorem zX2(c d:UInt8): (c==d)=decide ((c.toNat:Int)=(d.toNat:Int)):=by
 cases h:c==d with
 |true=>rw[eq_of_beq h];simp
 |false =>
  symm;rw[decide_eq_false_iff_not];intro h2
  have:c=d:=UInt8.toNat_inj.1 (by omega)
  rw[this]at h;simp at h
theorem zT5(c:UInt8): zAi prog 179 [u8 c] (bl (zH8 c)):=by
 refine zAs func179 rfl ntmps179 results179 rfl ?_
 intro wb St0
 repeat' first|apply en_n|apply zAH|apply zAA|apply zAD|apply w0|(apply k0u (hd:=rfl);exact rfl;exact rfl)|(apply zAb (hb:=zOB) (hc:=zNf c))|(apply zAb (hb:=zOC) (hc:=zOD c))|(apply zAb (hb:=zUC) (hc:=zUM c))|apply ay (hd:=rfl)|exact zAF rfl|exact zAB rfl|exact zFN rfl rfl|exact zAa rfl rfl|exact zAX rfl rfl|refine w1 rfl rfl ?_|(apply gD;exact rfl;exact rfl;all_goals intro hb)|apply zAQ|apply zAR|refine res1 rfl ?_|exact zAM|refine zAY rfl ?_
 all_goals refine zDi ?_
 all_goals simp only[zH8,zHI,zHJ,zJN,zX2,<-Bool.decide_or,show ((95:UInt8).toNat:Int)=95 from rfl,show ((39:UInt8).toNat:Int)=39 from rfl]at *
 all_goals first|(rw[decide_eq_decide];omega)|(symm;rw[decide_eq_true_eq];omega)
theorem zYt(c:UInt8): decide (Lib.indexByte signL c>=0)=zHn c:=by rw[zHn,Lib.contains_iff_indexByte]
theorem zWF(c:UInt8): zAi prog 183 [u8 c] (bl (zHn c)):=by
 refine zAs func183 rfl ntmps183 results183 rfl ?_
 intro wb St0
 repeat' first|apply en_n|apply zAH|apply zAA|apply zAD|apply w0|(apply zAb (hb:=zL6) (hc:=zMa signL c))|apply ay (hd:=rfl)|exact zAF rfl|exact zAB rfl|exact zJp rfl rfl|apply zAQ|apply zAR|refine res1 rfl ?_|exact zAM|refine zAY rfl ?_
 exact zDi (zYt c)
end Go.Proofs.YtcagoomibpcdlaaGreatDoor
namespace Go.Proofs.YtcagoomibpcdlaaGreatDoor
open Go.Sx
attribute [local irreducible] zAN Program.underlying Ylds zA9 alex zB3 zBf awp zAi zCC zCB zAU zAz zBj zBB zBr zB2 zB8 zBi
theorem zQO{c:UInt8}(h:∀j,j<16->(signL.getD j 0)≠c): zHn c=false:=by
 cases h2:zHn c with
 |false=>rfl
 |true =>
  rw[zHn]at h2
  obtain⟨j,hj,e⟩:=List.getElem_of_mem (List.contains_iff_mem.1 h2)
  refine absurd ?_ (h j hj)
  rw[qAD,qAB hj];exact e
open _root_.Go.Proofs.Tryz
theorem getB{l:List UInt8}{i:Nat}(h:i<(⟨l.toArray⟩:ByteArray).size): (⟨l.toArray⟩:ByteArray)[i]'h=l.getD i 0:=by
 have hlt:i<l.length:=by rw[zCy]at h;exact h
 rw[qAD,qAB hlt];rfl
theorem zRe{l:List UInt8}{i:Nat}(h:i<l.length)(h1:¬((Utf8.decode ⟨l.toArray⟩ i).1:Int)>126): (Utf8.decode ⟨l.toArray⟩ i).2=1/\(Utf8.decode ⟨l.toArray⟩ i).1=(l.getD i 0).toNat/\(l.getD i 0).toNat<=126:=by
 have hs:i<(⟨l.toArray⟩:ByteArray).size:=by rw[zCy];exact h
 rcases qAR ((⟨l.toArray⟩:ByteArray)[i]'hs).toNat 128 with h3|h3
 ·have e:=decode_ascii ⟨l.toArray⟩ i hs h3
  rw[getB hs]at e
  rw[e]at h1 ⊢
  dsimp only at h1
  exact⟨rfl,rfl,by omega⟩
 ·have:=(decode_high ⟨l.toArray⟩ i hs h3).1
  omega
theorem zPd{l:List UInt8}{i:Nat}(h:i<l.length)(h1:((Utf8.decode ⟨l.toArray⟩ i).1:Int)>126): (l.getD i 0).toNat>126:=by
 have hs:i<(⟨l.toArray⟩:ByteArray).size:=by rw[zCy];exact h
 rcases qAR ((⟨l.toArray⟩:ByteArray)[i]'hs).toNat 128 with h3|h3
 ·have e:=decode_ascii ⟨l.toArray⟩ i hs h3
  rw[getB hs]at e
  rw[e]at h1
  dsimp only at h1
  omega
 ·rw[getB hs]at h3
  omega
def allF(p:UInt8->Bool)(s:List UInt8): Bool:=s.all p && !s.isEmpty
theorem zR3{p:UInt8->Bool}{s:List UInt8}{i:Nat}(h:i<s.length)(h1:p (s.getD i 0)=false): allF p s=false:=by
 have:s.all p=false:=by
  rw[List.all_eq_false]
  refine⟨s.getD i 0,?_,by rw[h1];decide⟩
  rw[qAD,qAB h];simp
 rw[allF,this];rfl
theorem zZD{p:UInt8->Bool}{s:List UInt8}(h:∀j,j<s.length->p (s.getD j 0)=true): allF p s=decide (s≠[]):=by
 have:s.all p=true:=by
  rw[qAV];intro x hx
  obtain⟨j,hj,rfl⟩:=List.getElem_of_mem hx
  have:=h j hj
  rwa [qAD,qAB hj]at this
 rw[allF,this]
 cases s <;> simp
theorem zVJ(f:FuncId)(p:UInt8->Bool)(hb:zAN prog f=true)(hp:∀c,zAi prog f [u8 c] (bl (p c)))(hp2:∀c,c.toNat>126->p c=false)(s:List UInt8):
  zAz prog 178 [.d (str s),.clo f []] [] (bl (allF p s)):=by
 have hbf:=hb;clear hb
 refine zCX func178 rfl ntmps178 results178 rfl ?_
 intro wb St0
 repeat' first|apply en_n|apply zAH|apply zAA|apply zAD|apply w0|(apply zZE (hd:=rfl) (hro:=rfl);exact rfl;with_reducible exact ustr)|apply ay (hd:=rfl)|exact zAF rfl|exact zAB rfl|apply zAL
 refine zBW (α:=Nat) (fun i=>i<=s.length/\∀j,j<i->p (s.getD j 0)=true)
  (fun i=>[(0,.d (str s)),(1,.clo f []),(8,.ptr 0 0)]) (fun i=>[.iter ⟨s.toArray⟩ i]) (fun i=>s.length-i) 0 ⟨qAX _,by omega⟩
   (zAT (Le_all rfl) (zAO rfl rfl zAt) rfl rfl) ?_
 rintro i ⟨hi1,hi2⟩
 repeat' first|apply en_n|apply zAH|apply zAA|apply zAD|apply w0|(apply k0u (hd:=rfl);exact rfl;exact rfl)|exact zSB rfl rfl|(apply zaG (hd:=rfl) (hro:=rfl);exact rfl;exact rfl;all_goals intro hb)|exact zAf rfl|(apply zD6;exact rfl;with_reducible exact si32;with_reducible exact uu8)|(apply zSA (hb:=hbf) (hc:=hp (s.getD i 0));exact rfl)|apply ay (hd:=rfl)|exact zAF rfl|exact zAB rfl|exact zGG rfl rfl|exact zBX rfl|exact zAa rfl rfl|exact zAX rfl rfl|exact zAg rfl rfl|refine w1 rfl rfl ?_|(apply gD;exact rfl;exact rfl;all_goals intro hb)|refine zAI rfl ?_|refine zAJ rfl ?_|(apply zEt;exact rfl;all_goals intro hb)|apply zAL|apply zAS|apply zAQ|apply zBc|apply en_r|apply en_e|apply eb_n|apply eb_r|apply eb_e|apply zAR|refine res1 rfl ?_
 ·rename_i h0
  have hlt:i<s.length:=by rw[zCy]at h0;exact h0
  exact zDi (zR3 hlt (hp2 _ (zPd hlt hb))).symm
 ·rename_i h0
  have hlt:i<s.length:=by rw[zCy]at h0;exact h0
  obtain⟨_,e,hl⟩:=zRe hlt hb
  refine zAY ?_ zAM
  show SV.d (D.val (.int .u8 (IntKind.u8.wrap (((Utf8.decode ⟨s.toArray⟩ i).1:Nat):Int))))=_
  rw[e,zVc,show (((s.getD i 0).toNat:Nat):Int)%256=((s.getD i 0).toNat:Int) by omega]
 ·rename_i h0 h1
  have hlt:i<s.length:=by rw[zCy]at h0;exact h0
  exact zDi (zR3 hlt (by simpa using hb)).symm
 ·rename_i h0 h1
  have hlt:i<s.length:=by rw[zCy]at h0;exact h0
  obtain⟨e1,_,hl⟩:=zRe hlt h1
  refine⟨i+1,⟨by omega,fun j hj=>?_⟩,by omega,zAT (Le_all rfl) (zAO rfl (by rw[e1]) zAt) rfl rfl⟩
  rcases qAR j i with h|h
  ·exact hi2 j h
  ·rw[show j=i by omega];simpa using hb
 ·have hge:¬i<s.length:=by rw[zCy]at hb;exact hb
  exact zDi (zZD fun j hj=>hi2 j (by omega)).symm
end Go.Proofs.YtcagoomibpcdlaaGreatDoor
namespace Go.Proofs.YtcagoomibpcdlaaGreatDoor
open Go.Sx
attribute [local irreducible] zAN Program.underlying Ylds zA9 alex zB3 zBf awp zAi zCC zCB zAU zAz zBj zBB zBr zB2 zB8 zBi
end Go.Proofs.YtcagoomibpcdlaaGreatDoor

/- Parts. -/
import Derived.Lib.IndexAny
import Derived.Lib.IndexLaws
import Derived.Test.YtjcgiiedaccjpaaGreatDoorMAD
set_option maxHeartbeats 16000000
namespace Go.Proofs.YtjcgiiedaccjpaaGreatDoor
open _root_.Go.Proofs.Tryz
open Go.Sx
attribute [local irreducible] zAK Program.underlying Ylds zA3 alex zBc zBL awp zAc zBd zBi zBD zBI zBS zA5 zBT zBY zBe zBs
abbrev u8(c:UInt8): D:=.val (.int .u8 (c.toNat:Int))
theorem zBo{a b:Bool}(h:a=b): D.val (Value.bool a)=bl b:=by subst h;rfl
theorem zCW{a b:Int}(h:a=b): D.val (Value.int .i64 a)=i64 b:=by subst h;rfl
theorem zMC(c:UInt8): zAc prog 156 [u8 c] (bl (zFZ c)):=by
 refine zAX func156 rfl ntmps156 results156 rfl ?_
 intro wb St0
 repeat' first|apply en_n|apply zAE|apply zAA|apply zAD|apply w0|refine k1u (hd:=rfl) rfl rfl ?_|apply ay (hd:=rfl)|exact zAC rfl|exact zAB rfl|exact zJg rfl rfl|exact zAi rfl rfl|exact zAj rfl rfl|refine w1 rfl rfl ?_|(apply gD;exact rfl;exact rfl;all_goals intro hb)|apply zAM|apply zAL|refine res1 rfl ?_
 all_goals exact zBo (by simp only[zFZ];first|(rw[decide_eq_decide];omega)|(symm;rw[decide_eq_false_iff_not];omega))
theorem zMc(c:UInt8): zAc prog 157 [u8 c] (bl (zFa c)):=by
 refine zAX func157 rfl ntmps157 results157 rfl ?_
 intro wb St0
 repeat' first|apply en_n|apply zAE|apply zAA|apply zAD|apply w0|refine k1u (hd:=rfl) rfl rfl ?_|apply ay (hd:=rfl)|exact zAC rfl|exact zAB rfl|exact zJg rfl rfl|exact zAi rfl rfl|exact zAj rfl rfl|refine w1 rfl rfl ?_|(apply gD;exact rfl;exact rfl;all_goals intro hb)|apply zAM|apply zAL|refine res1 rfl ?_
 all_goals exact zBo (by simp only[zFa];first|(rw[decide_eq_decide];omega)|(symm;rw[decide_eq_false_iff_not];omega))
theorem zRx(c:UInt8): zAc prog 184 [u8 c] (bl (zHl c)):=by
 refine zAX func184 rfl ntmps184 results184 rfl ?_
 intro wb St0
 repeat' first|apply en_n|apply zAE|apply zAA|apply zAD|apply w0|refine k1u (hd:=rfl) rfl rfl ?_|apply ay (hd:=rfl)|exact zAC rfl|exact zAB rfl|exact zJg rfl rfl|exact zAi rfl rfl|exact zAj rfl rfl|refine w1 rfl rfl ?_|(apply gD;exact rfl;exact rfl;all_goals intro hb)|apply zAM|apply zAL|refine res1 rfl ?_
 all_goals exact zBo (by simp only[zHl];first|(rw[decide_eq_decide];omega)|(symm;rw[decide_eq_false_iff_not];omega))
theorem zUP(c d:UInt8): (c==d)=decide ((c.toNat:Int)=(d.toNat:Int)):=by
 cases h:c==d with
 |true=>rw[eq_of_beq h];simp
 |false =>
  symm;rw[decide_eq_false_iff_not];intro h2
  have:c=d:=UInt8.toNat_inj.1 (by omega)
  rw[this]at h;simp at h
theorem zRK(c:UInt8): zAc prog 154 [u8 c] (bl (zGZ c)):=by
 refine zAX func154 rfl ntmps154 results154 rfl ?_
 intro wb St0
 repeat' first|apply en_n|apply zAE|apply zAA|apply zAD|apply w0|refine k0u (hd:=rfl) rfl rfl ?_|(apply zAU (hb:=zMY) (hc:=zMC c))|(apply zAU (hb:=zMZ) (hc:=zMc c))|(apply zAU (hb:=zRT) (hc:=zRx c))|apply ay (hd:=rfl)|exact zAC rfl|exact zAB rfl|exact zEA rfl rfl|exact zAi rfl rfl|exact zAj rfl rfl|refine w1 rfl rfl ?_|(apply gD;exact rfl;exact rfl;all_goals intro hb)|apply zAM|apply zAL|refine res1 rfl ?_|exact zAF|refine zAP rfl ?_
 all_goals refine zBo ?_
 all_goals simp only[zGZ,zFZ,zFa,zHl,zUP,<-Bool.decide_or,show ((95:UInt8).toNat:Int)=95 from rfl,show ((39:UInt8).toNat:Int)=39 from rfl]at *
 all_goals first|(rw[decide_eq_decide];omega)|(symm;rw[decide_eq_true_eq];omega)
theorem zUp(c:UInt8): decide (Lib.indexByte signL c>=0)=zF4 c:=by rw[zF4,Lib.contains_iff_indexByte]
theorem zTB(c:UInt8): zAc prog 158 [u8 c] (bl (zF4 c)):=by
 refine zAX func158 rfl ntmps158 results158 rfl ?_
 intro wb St0
 repeat' first|apply en_n|apply zAE|apply zAA|apply zAD|apply w0|(apply zAU (hb:=zKI) (hc:=zK5 signL c))|apply ay (hd:=rfl)|exact zAC rfl|exact zAB rfl|exact zFn rfl rfl|apply zAM|apply zAL|refine res1 rfl ?_|exact zAF|refine zAP rfl ?_
 exact zBo (zUp c)
end Go.Proofs.YtjcgiiedaccjpaaGreatDoor
namespace Go.Proofs.YtjcgiiedaccjpaaGreatDoor
open Go.Sx
attribute [local irreducible] zAK Program.underlying Ylds zA3 alex zBc zBL awp zAc zBd zBi zBD zBI zBS zA5 zBT zBY zBe zBs
theorem zOU{c:UInt8}(h:∀j,j<16->(signL.getD j 0)≠c): zF4 c=false:=by
 cases h2:zF4 c with
 |false=>rfl
 |true =>
  rw[zF4]at h2
  obtain⟨j,hj,e⟩:=List.getElem_of_mem (List.contains_iff_mem.1 h2)
  refine absurd ?_ (h j hj)
  rw[qAQ,qAB hj];exact e
open _root_.Go.Proofs.Tryz
theorem getB{l:List UInt8}{i:Nat}(h:i<(⟨l.toArray⟩:ByteArray).size): (⟨l.toArray⟩:ByteArray)[i]'h=l.getD i 0:=by
 have hlt:i<l.length:=by rw[zCK]at h;exact h
 rw[qAQ,qAB hlt];rfl
theorem zP6{l:List UInt8}{i:Nat}(h:i<l.length)(h1:¬((Utf8.decode ⟨l.toArray⟩ i).1:Int)>126): (Utf8.decode ⟨l.toArray⟩ i).2=1/\(Utf8.decode ⟨l.toArray⟩ i).1=(l.getD i 0).toNat/\(l.getD i 0).toNat<=126:=by
 have hs:i<(⟨l.toArray⟩:ByteArray).size:=by rw[zCK];exact h
 rcases qAI ((⟨l.toArray⟩:ByteArray)[i]'hs).toNat 128 with h3|h3
 ·have e:=decode_ascii ⟨l.toArray⟩ i hs h3
  rw[getB hs]at e
  rw[e]at h1 ⊢
  dsimp only at h1
  exact⟨rfl,rfl,by omega⟩
 ·have:=(decode_high ⟨l.toArray⟩ i hs h3).1
  omega
theorem zNo{l:List UInt8}{i:Nat}(h:i<l.length)(h1:((Utf8.decode ⟨l.toArray⟩ i).1:Int)>126): (l.getD i 0).toNat>126:=by
 have hs:i<(⟨l.toArray⟩:ByteArray).size:=by rw[zCK];exact h
 rcases qAI ((⟨l.toArray⟩:ByteArray)[i]'hs).toNat 128 with h3|h3
 ·have e:=decode_ascii ⟨l.toArray⟩ i hs h3
  rw[getB hs]at e
  rw[e]at h1
  dsimp only at h1
  omega
 ·rw[getB hs]at h3
  omega
def allF(p:UInt8->Bool)(s:List UInt8): Bool:=s.all p && !s.isEmpty
theorem zQR{p:UInt8->Bool}{s:List UInt8}{i:Nat}(h:i<s.length)(h1:p (s.getD i 0)=false): allF p s=false:=by
 have:s.all p=false:=by
  rw[List.all_eq_false]
  refine⟨s.getD i 0,?_,by rw[h1];decide⟩
  rw[qAQ,qAB h];simp
 rw[allF,this];rfl
theorem zVF{p:UInt8->Bool}{s:List UInt8}(h:∀j,j<s.length->p (s.getD j 0)=true): allF p s=decide (s≠[]):=by
 have:s.all p=true:=by
  rw[qAF];intro x hx
  obtain⟨j,hj,rfl⟩:=List.getElem_of_mem hx
  have:=h j hj
  rwa [qAQ,qAB hj]at this
 rw[allF,this]
 cases s <;> simp
theorem zSm(f:FuncId)(p:UInt8->Bool)(hb:zAK prog f=true)(hp:∀c,zAc prog f [u8 c] (bl (p c)))(hp2:∀c,c.toNat>126->p c=false)(s:List UInt8):
  zBI prog 153 [.d (str s),.clo f []] [] (bl (allF p s)):=by
 have hbf:=hb;clear hb
 refine zCt func153 rfl ntmps153 results153 rfl ?_
 intro wb St0
 repeat' first|apply en_n|apply zAE|apply zAA|apply zAD|apply w0|(apply zVK (hd:=rfl) (hro:=rfl);exact rfl;with_reducible exact ustr)|apply ay (hd:=rfl)|exact zAC rfl|exact zAB rfl|apply zAI
 refine zAv (α:=Nat) (fun i=>i<=s.length/\∀j,j<i->p (s.getD j 0)=true)
  (fun i=>[(0,.d (str s)),(1,.clo f []),(8,.ptr 0 0)]) (fun i=>[.iter ⟨s.toArray⟩ i]) (fun i=>s.length-i) 0 ⟨qAR _,by omega⟩
   (zAV (Le_all rfl) (zAT rfl rfl zAW) rfl rfl) ?_
 rintro i ⟨hi1,hi2⟩
 repeat' first|apply en_n|apply zAE|apply zAA|apply zAD|apply w0|refine k0u (hd:=rfl) rfl rfl ?_|exact zGJ rfl rfl|(apply zV4 (hd:=rfl) (hro:=rfl);exact rfl;exact rfl;all_goals intro hb)|exact zB7 rfl|(apply zK3;exact rfl;with_reducible exact si32;with_reducible exact uu8)|(apply zQY (hb:=hbf) (hc:=hp (s.getD i 0));exact rfl)|apply ay (hd:=rfl)|exact zAC rfl|exact zAB rfl|exact zGL rfl rfl|exact zBX rfl|exact zAi rfl rfl|exact zAj rfl rfl|exact zAe rfl rfl|refine w1 rfl rfl ?_|(apply gD;exact rfl;exact rfl;all_goals intro hb)|refine zAN rfl ?_|refine zAQ rfl ?_|(apply zBw;exact rfl;all_goals intro hb)|apply zAI|apply zAO|apply zAM|apply zA0|apply en_r|apply en_e|apply eb_n|apply eb_r|apply eb_e|apply zAL|refine res1 rfl ?_
 ·rename_i h0
  have hlt:i<s.length:=by rw[zCK]at h0;exact h0
  exact zBo (zQR hlt (hp2 _ (zNo hlt hb))).symm
 ·rename_i h0
  have hlt:i<s.length:=by rw[zCK]at h0;exact h0
  obtain⟨_,e,hl⟩:=zP6 hlt hb
  refine zAP ?_ zAF
  show SV.d (D.val (.int .u8 (IntKind.u8.wrap (((Utf8.decode ⟨s.toArray⟩ i).1:Nat):Int))))=_
  rw[e,zSz,show (((s.getD i 0).toNat:Nat):Int)%256=((s.getD i 0).toNat:Int) by omega]
 ·rename_i h0 h1
  have hlt:i<s.length:=by rw[zCK]at h0;exact h0
  exact zBo (zQR hlt (by simpa using hb)).symm
 ·rename_i h0 h1
  have hlt:i<s.length:=by rw[zCK]at h0;exact h0
  obtain⟨e1,_,hl⟩:=zP6 hlt h1
  refine⟨i+1,⟨by omega,fun j hj=>?_⟩,by omega,zAV (Le_all rfl) (zAT rfl (by rw[e1]) zAW) rfl rfl⟩
  rcases qAI j i with h|h
  ·exact hi2 j h
  ·rw[show j=i by omega];simpa using hb
 ·have hge:¬i<s.length:=by rw[zCK]at hb;exact hb
  exact zBo (zVF fun j hj=>hi2 j (by omega)).symm
end Go.Proofs.YtjcgiiedaccjpaaGreatDoor
namespace Go.Proofs.YtjcgiiedaccjpaaGreatDoor
open Go.Sx
attribute [local irreducible] zAK Program.underlying Ylds zA3 alex zBc zBL awp zAc zBd zBi zBD zBI zBS zA5 zBT zBY zBe zBs

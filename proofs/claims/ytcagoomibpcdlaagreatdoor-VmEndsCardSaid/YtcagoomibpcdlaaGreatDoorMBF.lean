/- Parts of the proof. -/
import Derived.Test.YtcagoomibpcdlaaGreatDoorMBE
set_option maxHeartbeats 16000000
namespace Go.Proofs.YtcagoomibpcdlaaGreatDoor
open _root_.Go.Proofs.Tryz
open Go.Sx Go.Vm
attribute [local irreducible] zAO Program.underlying Ylds zBE alex zB0 zBk awp zAg zB9 zB8 zAU zBj zA6 zDJ zBl zBn zBC zBq zBz zB7 zDQ zBm zBc zBe
abbrev zIE(m:Img)(c c':CK)(k:Int)(s:CS): Prop:=zAU prog 73 [.ptr 0 0,.d (i64 k),.d (vD s false)] (CX m c) .top (CX m c')
theorem zO4(m:Img)(c:CK)(k:Int)(s:CS)(h:k>=(m.code.length:Int)): zIE m c { c with bad:=true } k s:=by
 have hk:¬k<(m.code.length:Int):=by omega
 refine zDC func73 rfl ntmps73 results73 rfl ?_
 intro wb St0 X fx
 unfold vD
 repeat' first|apply en_n|apply zAG|apply zAA|apply zAD|apply w0|exact zAL rfl|exact zAE rfl zBg rfl rfl|exact zHL rfl rfl|refine aBox (hd:=rfl) (hro:=rfl) rfl rfl ?_|apply ay (hd:=rfl)|exact zAF rfl|exact zAB rfl|exact zBD rfl zDk|exact zAH rfl|(apply zAC;exact rfl;(with_reducible first|exact zA9|exact zFp|exact zDK|exact zC6))|(refine w0' ?_)|refine zAj rfl rfl rfl zAb rfl rfl rfl rfl ?_|refine zAI rfl ?_|apply zAK|apply eb_n
 all_goals first|(rw[qAC];omega)|omega|skip
 all_goals exact zBP rfl
theorem zO6(m:Img)(c:CK)(k:Nat)(s:CS)(hl:c.at_.length=m.code.length)(h:c.at_[k]?=some none)(hw:c.work.length<=1048576)(_hcl:m.code.length<=1048576): zIE m c { c with at_:=c.at_.set k (some s),work:=c.work++[(k:Int)] } k s:=by
 have hlt:=(qAA.1 h).1
 have hk:¬(k:Int)>=(m.code.length:Int):=by omega
 have hat:(c.at_.map enCS)[k]?=some (vD ⟨0,0,[]⟩ false):=by rw[qAL,h];rfl
 refine zDC func73 rfl ntmps73 results73 rfl ?_
 intro wb St0 X fx
 unfold vD at *
 repeat' first|exact zDM rfl zFp|apply en_n|apply zAG|apply zAA|apply zAD|apply w0|exact zAL rfl|(apply zAE;exact rfl;(first|with_reducible exact zBg|with_reducible exact zEZ|with_reducible exact zAt);exact rfl;exact rfl)|(apply zBM;exact rfl;exact rfl;exact rfl;(with_reducible exact zIr);omega;(rw[qAC];omega))|exact zCR rfl zAb rfl hat rfl|(refine zBs (by kernel_rfl) ?_;apply zJD;exact rfl;exact rfl;(with_reducible exact zEw);exact rfl;exact rfl;(rw[qAC];omega);exact rfl)|(refine zCC zA0 zA5 zCL rfl rfl (zAY rfl zAM) rfl)|(apply aApp (id:=3) (hd:=rfl) (hro:=rfl);exact rfl;exact rfl;(first|exact zCQ rfl|exact zCp rfl rfl rfl|exact Co_nn rfl);(first|exact rfl|exact(by simp));exact rfl;(with_reducible exact zA0);(with_reducible exact zA5);(with_reducible exact zHD);(with_reducible exact zFl);(first|exact zFE (fun _=>rfl)|exact zDS rfl))|exact zGm rfl rfl|refine aBox (hd:=rfl) (hro:=rfl) rfl rfl ?_|apply ay (hd:=rfl)|exact zAF rfl|exact zAB rfl|exact zBD rfl zDk|exact zBS rfl|exact zAH rfl|(apply zAC;exact rfl;(with_reducible first|exact zA9|exact zFp|exact zDK|exact zE8|exact zFo))|exact zBA rfl zEw rfl rfl rfl|(refine w0' ?_)|(apply zAj;exact rfl;exact rfl;exact rfl;(with_reducible first|exact zAt|exact zAb);exact rfl;exact rfl;exact rfl;exact rfl)|refine zAI rfl ?_|refine zAJ rfl ?_|apply zAK|refine zAf (by kernel_rfl) (by kernel_rfl) ?_|apply eb_n
 all_goals first|(rw[qAC];omega)|omega|(simp only[qAP,qAp];omega)|skip
 all_goals exact zUk rfl (qAa ..) (by rw[qAD];rfl) rfl (by rw[qBu];rfl) rfl (by rw[qAl];rfl)
theorem zO5(m:Img)(c:CK)(k:Nat)(s s':CS)(hl:c.at_.length=m.code.length)(h:c.at_[k]?=some (some s'))(ht:s'.tries.length<=2000000)(_hcl:m.code.length<=1048576): zIE m c (if s'=s then c else { c with bad:=true }) k s:=by
 have hlt:=(qAA.1 h).1
 have hk:¬(k:Int)>=(m.code.length:Int):=by omega
 have hat:(c.at_.map enCS)[k]?=some (vD s' true):=by rw[qAL,h];rfl
 have hat2:(c.at_.map enCS)[((k:Nat):Int).toNat]?=some (vD s' true):=hat
 have hS:=zTe s' s true true ht
 refine zDC func73 rfl ntmps73 results73 rfl ?_
 intro wb St0 X fx
 by_cases e:s'=s
 all_goals
  first|rw[if_pos e]|rw[if_neg e]
  first|rw[decide_eq_true e]at hS|rw[decide_eq_false e]at hS
  unfold vD at *
  skip
  repeat' first|exact zDM rfl zFp|apply en_n|apply zAG|apply zAA|apply zAD|apply w0|(refine zDw rfl (by with_reducible exact zEw) rfl hat2 rfl rfl rfl)|exact zAL rfl|(apply zAE;exact rfl;(first|with_reducible exact zBg|with_reducible exact zEZ|with_reducible exact zAt);exact rfl;exact rfl)|(apply zBM;exact rfl;exact rfl;exact rfl;(with_reducible exact zIr);omega;(rw[qAC];omega))|exact zCR rfl zAb rfl hat rfl|(refine zAd zKQ hS (CoLA rfl))|exact zGm rfl rfl|refine aBox (hd:=rfl) (hro:=rfl) rfl rfl ?_|apply ay (hd:=rfl)|exact zAF rfl|exact zAB rfl|exact zBD rfl zDk|exact zBS rfl|exact zAH rfl|(apply zAC;exact rfl;(with_reducible first|exact zA9|exact zFp|exact zDK|exact zE8|exact zC6))|exact zBA rfl zEw rfl rfl rfl|(refine w0' ?_)|refine zAj rfl rfl rfl zAb rfl rfl rfl rfl ?_|refine zAI rfl ?_|refine zAJ rfl ?_|apply zAK|apply zAR|refine zAf (by kernel_rfl) (by kernel_rfl) ?_|apply eb_n
  all_goals first|(rw[qAC];omega)|omega|(simp only[qAP,qAp];omega)|skip
  all_goals exact zBP rfl
theorem zX4(m:Img)(c:CK)(k:Int)(s:CS)(hk:0<=k)(hc:CInv m c)(hw:c.work.length<=1048576)(hcl:m.code.length<=1048576)(ht:∀(q:Nat) (x:CS),c.at_[q]?=some (some x)->x.tries.length<=2000000): zIE m c (c.come k s) k s:=by
 have hl:=hc.len
 unfold CK.come
 have ek:k=(k.toNat:Int):=(qAy hk).symm
 cases h:c.at_[k.toNat]? with
 |none =>
  have:=qBR.1 h
  exact zO4 m c k s (by omega)
 |some o =>
  cases o with
  |none =>
   have:=zO6 m c k.toNat s hl h hw hcl
   rw[<-ek]at this;exact this
  |some s' =>
   have:=zO5 m c k.toNat s s' hl h (ht _ _ h) hcl
   rw[<-ek]at this;exact this
end Go.Proofs.YtcagoomibpcdlaaGreatDoor

/- Parts of the proof. -/
import Derived.Test.YtcagoomibpcdlaaGreatDoorMBJ
set_option maxHeartbeats 16000000
namespace Go.Proofs.YtcagoomibpcdlaaGreatDoor
open _root_.Go.Proofs.Tryz
open Go.Sx Go.Vm
attribute [local irreducible] zAN Program.underlying Ylds zA9 alex zB3 zBf awp zAi zCC zCB zAU zBl zAz zDt zBq zBj zBB zBr zB2 zB8 zD7 zBi zBd zBg
abbrev zHz(m:Img)(c c':CK)(k:Int)(s:CS): Prop:=zAU prog 73 [.ptr 0 0,.d (i64 k),.d (vD s false)] (CX m c) .top (CX m c')
theorem zOR(m:Img)(c:CK)(k:Int)(s:CS)(h:k>=(m.code.length:Int)): zHz m c { c with bad:=true } k s:=by
 have hk:¬k<(m.code.length:Int):=by omega
 refine zDA func73 rfl ntmps73 results73 rfl ?_
 intro wb St0 X fx
 unfold vD
 repeat' first|apply en_n|apply zAH|apply zAA|apply zAD|apply w0|exact zAK rfl|exact zAE rfl zBo rfl rfl|exact zJo rfl rfl|(apply aBox (hd:=rfl) (hro:=rfl);exact rfl;exact rfl)|apply ay (hd:=rfl)|exact zAF rfl|exact zAB rfl|exact zBI rfl zEd|exact zAG rfl|(apply zAC;exact rfl;(with_reducible first|exact zBD|exact zFk|exact zDJ|exact zC4))|(refine w0' ?_)|refine zAh rfl rfl rfl zAc rfl rfl rfl rfl ?_|refine zAI rfl ?_|apply zAL|apply eb_n
 all_goals first|(rw[qAC];omega)|omega|skip
 all_goals exact zBL rfl
theorem zOT(m:Img)(c:CK)(k:Nat)(s:CS)(hl:c.at_.length=m.code.length)(h:c.at_[k]?=some none)(hw:c.work.length<=1048576)(_hcl:m.code.length<=1048576): zHz m c { c with at_:=c.at_.set k (some s),work:=c.work++[(k:Int)] } k s:=by
 have hlt:=(qAA.1 h).1
 have hk:¬(k:Int)>=(m.code.length:Int):=by omega
 have hat:(c.at_.map enCS)[k]?=some (vD ⟨0,0,[]⟩ false):=by rw[qAL,h];rfl
 refine zDA func73 rfl ntmps73 results73 rfl ?_
 intro wb St0 X fx
 unfold vD at *
 repeat' first|exact zG2 rfl zFk|apply en_n|apply zAH|apply zAA|apply zAD|apply w0|exact zAK rfl|(apply zAE;exact rfl;(first|with_reducible exact zBo|with_reducible exact zER|with_reducible exact zAw);exact rfl;exact rfl)|(apply zBZ;exact rfl;exact rfl;exact rfl;(with_reducible exact zIc);omega;(rw[qAC];omega))|exact zCl rfl zAc rfl hat rfl|(refine zBv (by kernel_rfl) ?_;apply zUd;exact rfl;exact rfl;(with_reducible exact zEo);exact rfl;exact rfl;(rw[qAC];omega);exact rfl)|(refine zCI zA7 zBJ zCL rfl rfl (zAY rfl zAM) rfl)|(apply aApp (id:=3) (hd:=rfl) (hro:=rfl);exact rfl;exact rfl;(first|exact zCW rfl|exact zC3 rfl rfl rfl|exact Co_nn rfl);(first|exact rfl|exact(by simp));exact rfl;(with_reducible exact zA7);(with_reducible exact zBJ);(with_reducible exact zJ4);(with_reducible exact zIE);(first|exact zGQ (fun _=>rfl)|exact zEA rfl))|exact zIP rfl rfl|(apply aBox (hd:=rfl) (hro:=rfl);exact rfl;exact rfl)|apply ay (hd:=rfl)|exact zAF rfl|exact zAB rfl|exact zBI rfl zEd|exact zBX rfl|exact zAG rfl|(apply zAC;exact rfl;(with_reducible first|exact zBD|exact zFk|exact zDJ|exact zEy|exact zFj))|exact zA4 rfl zEo rfl rfl rfl|(refine w0' ?_)|(apply zAh;exact rfl;exact rfl;exact rfl;(with_reducible first|exact zAw|exact zAc);exact rfl;exact rfl;exact rfl;exact rfl)|refine zAI rfl ?_|refine zAJ rfl ?_|apply zAL|refine zAj (by kernel_rfl) (by kernel_rfl) ?_|apply eb_n
 all_goals first|(rw[qAC];omega)|omega|(simp only[qAS,qAv];omega)|skip
 all_goals exact zTy rfl (qAa ..) (by rw[qAE];rfl) rfl (by rw[List.map_set];rfl) rfl (by rw[qAk];rfl)
theorem zOS(m:Img)(c:CK)(k:Nat)(s s':CS)(hl:c.at_.length=m.code.length)(h:c.at_[k]?=some (some s'))(ht:s'.tries.length<=2000000)(_hcl:m.code.length<=1048576): zHz m c (if s'=s then c else { c with bad:=true }) k s:=by
 have hlt:=(qAA.1 h).1
 have hk:¬(k:Int)>=(m.code.length:Int):=by omega
 have hat:(c.at_.map enCS)[k]?=some (vD s' true):=by rw[qAL,h];rfl
 have hat2:(c.at_.map enCS)[((k:Nat):Int).toNat]?=some (vD s' true):=hat
 have hS:=zSt s' s true true ht
 refine zDA func73 rfl ntmps73 results73 rfl ?_
 intro wb St0 X fx
 by_cases e:s'=s
 all_goals
  first|rw[if_pos e]|rw[if_neg e]
  first|rw[decide_eq_true e]at hS|rw[decide_eq_false e]at hS
  unfold vD at *
  skip
  repeat' first|exact zG2 rfl zFk|apply en_n|apply zAH|apply zAA|apply zAD|apply w0|(refine zFw rfl (by with_reducible exact zEo) rfl hat2 rfl rfl rfl)|exact zAK rfl|(apply zAE;exact rfl;(first|with_reducible exact zBo|with_reducible exact zER|with_reducible exact zAw);exact rfl;exact rfl)|(apply zBZ;exact rfl;exact rfl;exact rfl;(with_reducible exact zIc);omega;(rw[qAC];omega))|exact zCl rfl zAc rfl hat rfl|(refine zAb zJx hS (zAY rfl (zAY rfl zAM)))|exact zIP rfl rfl|(apply aBox (hd:=rfl) (hro:=rfl);exact rfl;exact rfl)|apply ay (hd:=rfl)|exact zAF rfl|exact zAB rfl|exact zBI rfl zEd|exact zBX rfl|exact zAG rfl|(apply zAC;exact rfl;(with_reducible first|exact zBD|exact zFk|exact zDJ|exact zEy|exact zC4))|exact zA4 rfl zEo rfl rfl rfl|(refine w0' ?_)|refine zAh rfl rfl rfl zAc rfl rfl rfl rfl ?_|refine zAI rfl ?_|refine zAJ rfl ?_|apply zAL|apply zAS|refine zAj (by kernel_rfl) (by kernel_rfl) ?_|apply eb_n
  all_goals first|(rw[qAC];omega)|omega|(simp only[qAS,qAv];omega)|skip
  all_goals exact zBL rfl
theorem zXJ(m:Img)(c:CK)(k:Int)(s:CS)(hk:0<=k)(hc:CInv m c)(hw:c.work.length<=1048576)(hcl:m.code.length<=1048576)(ht:∀(q:Nat) (x:CS),c.at_[q]?=some (some x)->x.tries.length<=2000000): zHz m c (c.come k s) k s:=by
 have hl:=hc.len
 unfold CK.come
 have ek:k=(k.toNat:Int):=(qAw hk).symm
 cases h:c.at_[k.toNat]? with
 |none =>
  have:=qBa.1 h
  exact zOR m c k s (by omega)
 |some o =>
  cases o with
  |none =>
   have:=zOT m c k.toNat s hl h hw hcl
   rw[<-ek]at this;exact this
  |some s' =>
   have:=zOS m c k.toNat s s' hl h (ht _ _ h) hcl
   rw[<-ek]at this;exact this
end Go.Proofs.YtcagoomibpcdlaaGreatDoor

/- Texts of this claim, merged: VmDB. -/
import Derived.Test.YtcagoomibpcdlaaGreatDoorMBI
namespace Go.Proofs.YtcagoomibpcdlaaGreatDoor
open Go.Sx Go.Vm
attribute [local irreducible] zAQ Program.underlying Ylds zBD alex zCA zBi awp zAp zCI zCH zAW zBw zA5 zD4 zB0 zBp zBF zBv zB9 zCE zES zBn zBm zBs
abbrev zHj(m:Img)(c c':CK)(k:Int)(s:CS): Prop:=zAW Tryz.prog 73 [.ptr 0 0,.d (i64 k),.d (vD s false)] (CX m c) .top (CX m c')
theorem zNu(m:Img)(c:CK)(k:Int)(s:CS)(h:k≥(m.code.length:Int)): zHj m c { c with bad:=true } k s:=by
 have hk:¬k<(m.code.length:Int):=by omega
 refine zC4 Tryz.func73 rfl Tryz.ntmps73 Tryz.results73 rfl ?_
 intro wb St0 X fx
 unfold vD
 repeat' first|apply en_n|apply zAK|apply zAA|apply zAF|apply w0|exact zAN rfl|(apply zAG;exact rfl;(with_reducible exact zBk);exact rfl;exact rfl)|(apply zJW;exact rfl;exact rfl;first|assumption|omega)|(apply aBox (hd:=rfl) (hro:=rfl);exact rfl;exact rfl)|apply ay (hd:=rfl)|exact zAJ rfl|exact zAD rfl|(apply zBZ;exact rfl;(with_reducible exact zFf))|exact zAH rfl|(apply zAC;exact rfl;(with_reducible first|exact zBE|exact zFR|exact zDA|exact zCy))|(refine w0' ?_)|(apply zAl;exact rfl;exact rfl;exact rfl;(with_reducible exact zAg);exact rfl;exact rfl;exact rfl;exact rfl)|(apply zAL;exact rfl)|apply zAO|apply eb_n
 all_goals first|(rw[List.length_map];omega)|omega|skip
 all_goals exact zBN rfl
theorem zNw(m:Img)(c:CK)(k:Nat)(s:CS)(hl:c.at_.length=m.code.length)(h:c.at_[k]?=some none)(hw:c.work.length≤1048576)(_hcl:m.code.length≤1048576): zHj m c { c with at_:=c.at_.set k (some s),work:=c.work++[(k:Int)] } k s:=by
 have hlt:=(List.getElem?_eq_some_iff.1 h).1
 have hk:¬(k:Int)≥(m.code.length:Int):=by omega
 have hat:(c.at_.map enCS)[k]?=some (vD ⟨0,0,[]⟩ false):=by rw[List.getElem?_map,h];rfl
 refine zC4 Tryz.func73 rfl Tryz.ntmps73 Tryz.results73 rfl ?_
 intro wb St0 X fx
 unfold vD at *
 repeat' first|(apply zGj;exact rfl;(with_reducible exact zFR))|apply en_n|apply zAK|apply zAA|apply zAF|apply w0|exact zAN rfl|(apply zAG;exact rfl;(first|with_reducible exact zBk|with_reducible exact zEH|with_reducible exact zAx);exact rfl;exact rfl)|(apply zBY;exact rfl;exact rfl;exact rfl;(with_reducible exact zIJ);omega;(rw[List.length_map];omega))|(apply zCg;exact rfl;(with_reducible exact zAg);exact rfl;exact hat;exact rfl)|(refine zBr (by kernel_rfl) ?_;apply zTw;exact rfl;exact rfl;(with_reducible exact zEe);exact rfl;exact rfl;(rw[List.length_map];omega);exact rfl)|(refine zCG zBA zBK zCM rfl rfl (zAa rfl zAR) rfl)|(apply aApp (id:=3) (hd:=rfl) (hro:=rfl);exact rfl;exact rfl;(first|exact zCw rfl|exact zDn rfl rfl rfl|exact Co_nn rfl);(first|exact rfl|exact(by simp));exact rfl;(with_reducible exact zBA);(with_reducible exact zBK);(with_reducible exact zJj);(with_reducible exact zHx);(first|exact zF5 (fun _=>rfl)|exact zDv rfl))|(apply zH8;exact rfl;exact rfl;first|assumption|omega)|(apply aBox (hd:=rfl) (hro:=rfl);exact rfl;exact rfl)|apply ay (hd:=rfl)|exact zAJ rfl|exact zAD rfl|(apply zBZ;exact rfl;(with_reducible exact zFf))|exact zBd rfl|exact zAH rfl|(apply zAC;exact rfl;(with_reducible first|exact zBE|exact zFR|exact zDA|exact zEl|exact zFQ))|(apply zBG;exact rfl;(with_reducible exact zEe);exact rfl;exact rfl;exact rfl)|(refine w0' ?_)|(apply zAl;exact rfl;exact rfl;exact rfl;(with_reducible first|exact zAx|exact zAg);exact rfl;exact rfl;exact rfl;exact rfl)|(apply zAL;exact rfl)|(apply zAM;exact rfl)|apply zAO|refine zAr (by kernel_rfl) (by kernel_rfl) ?_|apply eb_n
 all_goals first|(rw[List.length_map];omega)|omega|(simp only[List.length_cons,List.length_nil];omega)|skip
 all_goals exact zTI rfl (List.length_set ..) (by rw[List.length_append];rfl) rfl (by rw[List.map_set];rfl) rfl (by rw[List.map_append];rfl)
theorem zNv(m:Img)(c:CK)(k:Nat)(s s':CS)(hl:c.at_.length=m.code.length)(h:c.at_[k]?=some (some s'))(ht:s'.tries.length≤2000000)(_hcl:m.code.length≤1048576): zHj m c (if s'=s then c else { c with bad:=true }) k s:=by
 have hlt:=(List.getElem?_eq_some_iff.1 h).1
 have hk:¬(k:Int)≥(m.code.length:Int):=by omega
 have hat:(c.at_.map enCS)[k]?=some (vD s' true):=by rw[List.getElem?_map,h];rfl
 have hat2:(c.at_.map enCS)[((k:Nat):Int).toNat]?=some (vD s' true):=hat
 have hS:=zSG s' s true true ht
 refine zC4 Tryz.func73 rfl Tryz.ntmps73 Tryz.results73 rfl ?_
 intro wb St0 X fx
 by_cases e:s'=s
 all_goals
  first|rw[if_pos e]|rw[if_neg e]
  first|rw[decide_eq_true e]at hS|rw[decide_eq_false e]at hS
  unfold vD at *
  skip
  repeat' first|(apply zGj;exact rfl;(with_reducible exact zFR))|apply en_n|apply zAK|apply zAA|apply zAF|apply w0|(refine zFc rfl (by with_reducible exact zEe) rfl hat2 rfl rfl rfl)|exact zAN rfl|(apply zAG;exact rfl;(first|with_reducible exact zBk|with_reducible exact zEH|with_reducible exact zAx);exact rfl;exact rfl)|(apply zBY;exact rfl;exact rfl;exact rfl;(with_reducible exact zIJ);omega;(rw[List.length_map];omega))|(apply zCg;exact rfl;(with_reducible exact zAg);exact rfl;exact hat;exact rfl)|(refine zAh zJe hS (zAa rfl (zAa rfl zAR)))|(apply zH8;exact rfl;exact rfl;first|assumption|omega)|(apply aBox (hd:=rfl) (hro:=rfl);exact rfl;exact rfl)|apply ay (hd:=rfl)|exact zAJ rfl|exact zAD rfl|(apply zBZ;exact rfl;(with_reducible exact zFf))|exact zBd rfl|exact zAH rfl|(apply zAC;exact rfl;(with_reducible first|exact zBE|exact zFR|exact zDA|exact zEl|exact zCy))|(apply zBG;exact rfl;(with_reducible exact zEe);exact rfl;exact rfl;exact rfl)|(refine w0' ?_)|(apply zAl;exact rfl;exact rfl;exact rfl;(with_reducible exact zAg);exact rfl;exact rfl;exact rfl;exact rfl)|(apply zAL;exact rfl)|(apply zAM;exact rfl)|apply zAO|apply zAU|refine zAr (by kernel_rfl) (by kernel_rfl) ?_|apply eb_n
  all_goals first|(rw[List.length_map];omega)|omega|(simp only[List.length_cons,List.length_nil];omega)|skip
  all_goals exact zBN rfl
theorem zWR(m:Img)(c:CK)(k:Int)(s:CS)(hk:0≤k)(hc:CInv m c)(hw:c.work.length≤1048576)(hcl:m.code.length≤1048576)(ht:∀(q:Nat) (x:CS),c.at_[q]?=some (some x)→x.tries.length≤2000000): zHj m c (c.come k s) k s:=by
 have hl:=hc.len
 unfold CK.come
 have ek:k=(k.toNat:Int):=(Int.toNat_of_nonneg hk).symm
 cases h:c.at_[k.toNat]? with
 |none =>
  have:=List.getElem?_eq_none_iff.1 h
  exact zNu m c k s (by omega)
 |some o =>
  cases o with
  |none =>
   have:=zNw m c k.toNat s hl h hw hcl
   rw[←ek]at this;exact this
  |some s' =>
   have:=zNv m c k.toNat s s' hl h (ht _ _ h) hcl
   rw[←ek]at this;exact this
end Go.Proofs.YtcagoomibpcdlaaGreatDoor

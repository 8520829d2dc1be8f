/- Texts of this claim, merged: VmBD. -/
import Derived.Test.YtcagoomibpcdlaaGreatDoorMAP
namespace Go.Proofs.YtcagoomibpcdlaaGreatDoor
open Go.Sx Go.Vm
attribute [local irreducible] zAQ Program.underlying Ylds zBD alex zCA zBi awp zAp zCI zCH zAW zBw zA5 zB0 zBp zBF zBv zB9 zCE zBn zBm zBs
abbrev BlkQ(r:Raw)(w:Nat)(k tag n:Int)(ok:Bool): Prop:=zA5 Tryz.prog 53 [.ptr 0 0,.d (w64 w)] (HO r.size r.now r.oth r.beg) (.tup [i64 k,i64 tag,i64 n,bl ok])
theorem zFA(m:Img)(r:Raw){w:Nat}{k tag n:Int}(hB:BlkQ r w k tag n true): zA5 Tryz.prog 52 [.ptr 0 0,.d (w64 w),.d (i64 k)] (MX m r) (bl true):=by
 have hk:¬k≠k:=fun c=>c rfl
 refine zCW Tryz.func52 rfl Tryz.ntmps52 Tryz.results52 rfl ?_
 intro wb St0
 repeat' first|apply en_n|apply zAK|apply zAA|apply zAF|apply w0|(apply zGJ;exact rfl;exact rfl;first|assumption|omega)|exact zAN rfl|(refine zAZ [1,2,3,4] [] rfl rfl zCc (hB) rfl ?_ rfl (by decide) rfl rfl rfl rfl;(repeat (refine zAB rfl ?_));exact zAE)|apply ay (hd:=rfl)|exact zAJ rfl|exact zAD rfl|exact zBd rfl|exact zAc rfl rfl|exact zAm rfl rfl|exact zAH rfl|(apply zAC;exact rfl;(with_reducible exact zBV))|(apply zAG;exact rfl;(with_reducible exact zBg);exact rfl;exact rfl)|(apply w1;exact rfl;exact rfl)|(apply zAM;exact rfl)|apply zAU|apply zAT|apply zAY|(apply res1;exact rfl)
 all_goals first|omega|rfl
theorem zXs(m:Img)(r:Raw){w:Nat}{k k' tag n:Int}{ok:Bool}(hB:BlkQ r w k' tag n ok)(h:ok=false∨k'≠k): zAW Tryz.prog 52 [.ptr 0 0,.d (w64 w),.d (i64 k)] (MX m r) (.d (bl false)) (MX m { r with fin:=4 }):=by
 have hS:=zEf m r 4
 cases ok
 all_goals
  refine zAy Tryz.func52 rfl Tryz.ntmps52 Tryz.results52 rfl ?_
  intro wb St0 X fx
 ·skip
  repeat' first|apply en_n|apply zAK|apply zAA|apply zAF|apply w0|(apply k0u (hd:=rfl);exact rfl;exact rfl)|exact zAN rfl|(refine zAZ [1,2,3,4] [] rfl rfl zCc (hB) rfl ?_ rfl (by decide) rfl rfl rfl rfl;(repeat (refine zAB rfl ?_));exact zAE)|(refine aVM zDB (hS) ?_ rfl rfl ?_;(repeat (refine zAB rfl ?_));exact zAE)|apply ay (hd:=rfl)|exact zAJ rfl|exact zAD rfl|exact zBd rfl|exact zAj rfl rfl|exact zAm rfl rfl|exact zAH rfl|(apply zAC;exact rfl;(with_reducible exact zBV))|(apply zAG;exact rfl;(with_reducible exact zBg);exact rfl;exact rfl)|(apply zAL;exact rfl)|apply zAT|apply en_r
  all_goals exact zHW rfl rfl rfl
 ·have h2:k'≠k:=h.resolve_left (fun c=>by cases c)
  skip
  repeat' first|apply en_n|apply zAK|apply zAA|apply zAF|apply w0|(apply zGs;exact rfl;exact rfl;first|assumption|omega)|exact zAN rfl|(refine zAZ [1,2,3,4] [] rfl rfl zCc (hB) rfl ?_ rfl (by decide) rfl rfl rfl rfl;(repeat (refine zAB rfl ?_));exact zAE)|(refine aVM zDB (hS) ?_ rfl rfl ?_;(repeat (refine zAB rfl ?_));exact zAE)|apply ay (hd:=rfl)|exact zAJ rfl|exact zAD rfl|exact zBd rfl|exact zAc rfl rfl|exact zAm rfl rfl|exact zAH rfl|(apply zAC;exact rfl;(with_reducible exact zBV))|(apply zAG;exact rfl;(with_reducible exact zBg);exact rfl;exact rfl)|(apply w1;exact rfl;exact rfl)|(apply zAL;exact rfl)|apply zAT|apply en_r
  all_goals exact zHW rfl rfl rfl
theorem zEA(m:Img)(r:Raw){w:Nat}{v:Int}(hI:zAp Tryz.prog 54 [w64 w] (.tup [i64 v,bl true])): zA5 Tryz.prog 49 [.ptr 0 0,.d (w64 w)] (MX m r) (.tup [i64 v,bl true]):=by
 refine zHP Tryz.func49 rfl Tryz.ntmps49 Tryz.results49 rfl ?_
 intro wb St0
 repeat' first|apply en_n|apply zAK|apply zAA|apply zAF|apply w0|(refine zBq ?_)|(refine zCJ ?_)|exact zC6|(refine RV_d rfl ?_ ?_)|(with_reducible exact rfl)|(refine zAh zDU hI (zAa rfl zAR))|apply ay (hd:=rfl)|exact zAJ rfl|exact zAD rfl|exact zBd rfl|exact zAm rfl rfl|(apply zAM;exact rfl)|apply zAU|apply zAT
theorem zFV(m:Img)(r:Raw){w:Nat}(hI:zAp Tryz.prog 54 [w64 w] (.tup [i64 0,bl false])): zAW Tryz.prog 49 [.ptr 0 0,.d (w64 w)] (MX m r) (.d (.tup [i64 0,bl false])) (MX m { r with fin:=4 }):=by
 have hS:=zEf m r 4
 refine zMW Tryz.func49 rfl Tryz.ntmps49 Tryz.results49 rfl ?_
 intro wb St0 X fx
 repeat' first|apply en_n|apply zAK|apply zAA|apply zAF|apply w0|(refine zAh zDU hI (zAa rfl zAR))|(refine aVM zDB (hS) ?_ rfl rfl ?_;(repeat (refine zAB rfl ?_));exact zAE)|apply ay (hd:=rfl)|exact zAJ rfl|exact zAD rfl|exact zBd rfl|exact zAm rfl rfl|exact zAH rfl|(apply zAL;exact rfl)|apply zAT
 all_goals exact zNY rfl (zCJ (RV_d rfl (RV_d rfl zC6 rfl) rfl))
theorem zM5(m:Img)(r:Raw)(x:Int)(hl:r.stk.length≤1048576)(h:2≤r.stk.length): zAW Tryz.prog 88 [.ptr 0 0,.d (i64 x),.d (i64 0)] (MX m r) .top (MX m { r with stk:=r.stk.take (r.stk.length-2)++[nW x] }):=by
 have hN:=zGB m r (n:=2) x hl h
 have h0:¬(0:Int)≠0:=fun c=>c rfl
 refine zAy Tryz.func88 rfl Tryz.ntmps88 Tryz.results88 rfl ?_
 intro wb St0 X fx
 repeat' first|apply en_n|apply zAK|apply zAA|apply zAF|apply w0|(apply zGJ;exact rfl;exact rfl;first|assumption|omega)|(refine aVM zEP (hN) ?_ rfl rfl ?_;(repeat (refine zAB rfl ?_));exact zAE)|apply ay (hd:=rfl)|exact zAJ rfl|exact zAH rfl|(apply zAM;exact rfl)|apply zAU
 all_goals exact zDz rfl
theorem zM6(m:Img)(r r':Raw)(x:Int){e:Int}(he:e≠0)(hR:zAW Tryz.prog 50 [.ptr 0 0,.d (i64 (-2))] (MX m r) .top (MX m r')): zAW Tryz.prog 88 [.ptr 0 0,.d (i64 x),.d (i64 e)] (MX m r) .top (MX m r'):=by
 refine zAy Tryz.func88 rfl Tryz.ntmps88 Tryz.results88 rfl ?_
 intro wb St0 X fx
 repeat' first|apply en_n|apply zAK|apply zAA|apply zAF|apply w0|(apply zGs;exact rfl;exact rfl;first|assumption|omega)|(refine aVM zG5 (hR) ?_ rfl rfl ?_;(repeat (refine zAB rfl ?_));exact zAE)|apply ay (hd:=rfl)|exact zAJ rfl|exact zAH rfl|(apply zAL;exact rfl)|apply zAT|apply en_r
 all_goals exact zDJ rfl
theorem zUY(m:Img)(r:Raw)(b:Bool)(hl:r.stk.length≤1048576)(h:2≤r.stk.length): zAW Tryz.prog 93 [.ptr 0 0,.d (bl b)] (MX m r) .top (MX m { r with stk:=r.stk.take (r.stk.length-2)++[nW (if b then 1 else 0)] }):=by
 have hN:=zGB m r (n:=2) (if b then 1 else 0) hl h
 refine zAy Tryz.func93 rfl Tryz.ntmps93 Tryz.results93 rfl ?_
 intro wb St0 X fx
 cases b
 all_goals
  skip
  repeat' first|apply en_n|apply zAK|apply zAA|apply zAF|apply w0|(refine aVM zEP (hN) ?_ rfl rfl ?_;(repeat (refine zAB rfl ?_));exact zAE)|apply ay (hd:=rfl)|exact zAJ rfl|exact zAH rfl|(apply zAL;exact rfl)|(apply zAM;exact rfl)
  all_goals exact zDz rfl
end Go.Proofs.YtcagoomibpcdlaaGreatDoor

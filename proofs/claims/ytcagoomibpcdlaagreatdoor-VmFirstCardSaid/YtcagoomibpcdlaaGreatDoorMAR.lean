/- Parts of the proof. -/
import Derived.Test.YtcagoomibpcdlaaGreatDoorMAQ
set_option maxHeartbeats 16000000
namespace Go.Proofs.YtcagoomibpcdlaaGreatDoor
open _root_.Go.Proofs.Tryz
open Go.Sx Go.Vm
attribute [local irreducible] zAN Program.underlying Ylds zA9 alex zB3 zBf awp zAi zCC zCB zAU zBl zAz zBq zBj zBB zBr zB2 zB8 zBi zBd zBg
abbrev BlkQ(r:Raw)(w:Nat)(k tag n:Int)(ok:Bool): Prop:=zAz prog 53 [.ptr 0 0,.d (w64 w)] (HO r.size r.now r.oth r.beg) (.tup [i64 k,i64 tag,i64 n,bl ok])
theorem zFQ(m:Img)(r:Raw){w:Nat}{k tag n:Int}(hB:BlkQ r w k tag n true): zAz prog 52 [.ptr 0 0,.d (w64 w),.d (i64 k)] (MX m r) (bl true):=by
 have hk:¬k≠k:=fun c=>c rfl
 refine zCX func52 rfl ntmps52 results52 rfl ?_
 intro wb St0
 repeat' first|apply en_n|apply zAH|apply zAA|apply zAD|apply w0|exact zFI rfl rfl|exact zAK rfl|(refine zAW [1,2,3,4] [] rfl rfl zCi (hB) rfl (SArgs_all rfl) rfl (by decide) rfl rfl rfl rfl)|apply ay (hd:=rfl)|exact zAF rfl|exact zAB rfl|exact zBX rfl|exact zAX rfl rfl|exact zAg rfl rfl|exact zAG rfl|exact zAC rfl zBS|exact zAE rfl zBn rfl rfl|refine w1 rfl rfl ?_|refine zAJ rfl ?_|apply zAS|apply zAQ|apply zAR|refine res1 rfl ?_
 all_goals first|omega|rfl
theorem zYh(m:Img)(r:Raw){w:Nat}{k k' tag n:Int}{ok:Bool}(hB:BlkQ r w k' tag n ok)(h:ok=false\/k'≠k): zAU prog 52 [.ptr 0 0,.d (w64 w),.d (i64 k)] (MX m r) (.d (bl false)) (MX m { r with fin:=4 }):=by
 have hS:=zEq m r 4
 cases ok
 all_goals
  refine zAx func52 rfl ntmps52 results52 rfl ?_
  intro wb St0 X fx
 ·skip
  repeat' first|apply en_n|apply zAH|apply zAA|apply zAD|apply w0|(apply k0u (hd:=rfl);exact rfl;exact rfl)|exact zAK rfl|(refine zAW [1,2,3,4] [] rfl rfl zCi (hB) rfl (SArgs_all rfl) rfl (by decide) rfl rfl rfl rfl)|(refine aVM zDK (hS) (SArgs_all rfl) rfl rfl ?_)|apply ay (hd:=rfl)|exact zAF rfl|exact zAB rfl|exact zBX rfl|exact zAa rfl rfl|exact zAg rfl rfl|exact zAG rfl|exact zAC rfl zBS|exact zAE rfl zBn rfl rfl|refine zAI rfl ?_|apply zAQ|apply en_r
  all_goals exact zHk rfl rfl rfl
 ·have h2:k'≠k:=h.resolve_left (fun c=>by cases c)
  skip
  repeat' first|apply en_n|apply zAH|apply zAA|apply zAD|apply w0|exact zGI rfl rfl|exact zAK rfl|(refine zAW [1,2,3,4] [] rfl rfl zCi (hB) rfl (SArgs_all rfl) rfl (by decide) rfl rfl rfl rfl)|(refine aVM zDK (hS) (SArgs_all rfl) rfl rfl ?_)|apply ay (hd:=rfl)|exact zAF rfl|exact zAB rfl|exact zBX rfl|exact zAX rfl rfl|exact zAg rfl rfl|exact zAG rfl|exact zAC rfl zBS|exact zAE rfl zBn rfl rfl|refine w1 rfl rfl ?_|refine zAI rfl ?_|apply zAQ|apply en_r
  all_goals exact zHk rfl rfl rfl
theorem zEL(m:Img)(r:Raw){w:Nat}{v:Int}(hI:zAi prog 54 [w64 w] (.tup [i64 v,bl true])): zAz prog 49 [.ptr 0 0,.d (w64 w)] (MX m r) (.tup [i64 v,bl true]):=by
 refine zHd func49 rfl ntmps49 results49 rfl ?_
 intro wb St0
 repeat' first|apply en_n|apply zAH|apply zAA|apply zAD|apply w0|(refine zBu ?_)|(refine zCJ ?_)|exact zDC|(refine RV_d rfl ?_ ?_)|(with_reducible exact rfl)|(refine zAb zDg hI (zAY rfl zAM))|apply ay (hd:=rfl)|exact zAF rfl|exact zAB rfl|exact zBX rfl|exact zAg rfl rfl|refine zAJ rfl ?_|apply zAS|apply zAQ
theorem zFo(m:Img)(r:Raw){w:Nat}(hI:zAi prog 54 [w64 w] (.tup [i64 0,bl false])): zAU prog 49 [.ptr 0 0,.d (w64 w)] (MX m r) (.d (.tup [i64 0,bl false])) (MX m { r with fin:=4 }):=by
 have hS:=zEq m r 4
 refine zM0 func49 rfl ntmps49 results49 rfl ?_
 intro wb St0 X fx
 repeat' first|apply en_n|apply zAH|apply zAA|apply zAD|apply w0|(refine zAb zDg hI (zAY rfl zAM))|(refine aVM zDK (hS) (SArgs_all rfl) rfl rfl ?_)|apply ay (hd:=rfl)|exact zAF rfl|exact zAB rfl|exact zBX rfl|exact zAg rfl rfl|exact zAG rfl|refine zAI rfl ?_|apply zAQ
 all_goals exact zN3 rfl (zCJ (RV_d rfl (RV_d rfl zDC rfl) rfl))
theorem zNa(m:Img)(r:Raw)(x:Int)(hl:r.stk.length<=1048576)(h:2<=r.stk.length): zAU prog 88 [.ptr 0 0,.d (i64 x),.d (i64 0)] (MX m r) .top (MX m { r with stk:=r.stk.take (r.stk.length-2)++[nW x] }):=by
 have hN:=zGW m r (n:=2) x hl h
 have h0:¬(0:Int)≠0:=fun c=>c rfl
 refine zAx func88 rfl ntmps88 results88 rfl ?_
 intro wb St0 X fx
 repeat' first|apply en_n|apply zAH|apply zAA|apply zAD|apply w0|exact zFI rfl rfl|(refine aVM zEX (hN) (SArgs_all rfl) rfl rfl ?_)|apply ay (hd:=rfl)|exact zAF rfl|exact zAG rfl|refine zAJ rfl ?_|apply zAS
 all_goals exact zEE rfl
theorem zNb(m:Img)(r r':Raw)(x:Int){e:Int}(he:e≠0)(hR:zAU prog 50 [.ptr 0 0,.d (i64 (-2))] (MX m r) .top (MX m r')): zAU prog 88 [.ptr 0 0,.d (i64 x),.d (i64 e)] (MX m r) .top (MX m r'):=by
 refine zAx func88 rfl ntmps88 results88 rfl ?_
 intro wb St0 X fx
 repeat' first|apply en_n|apply zAH|apply zAA|apply zAD|apply w0|exact zGI rfl rfl|(refine aVM zHK (hR) (SArgs_all rfl) rfl rfl ?_)|apply ay (hd:=rfl)|exact zAF rfl|exact zAG rfl|refine zAI rfl ?_|apply zAQ|apply en_r
 all_goals exact zDT rfl
theorem zVH(m:Img)(r:Raw)(b:Bool)(hl:r.stk.length<=1048576)(h:2<=r.stk.length): zAU prog 93 [.ptr 0 0,.d (bl b)] (MX m r) .top (MX m { r with stk:=r.stk.take (r.stk.length-2)++[nW (if b then 1 else 0)] }):=by
 have hN:=zGW m r (n:=2) (if b then 1 else 0) hl h
 refine zAx func93 rfl ntmps93 results93 rfl ?_
 intro wb St0 X fx
 cases b
 all_goals
  skip
  repeat' first|apply en_n|apply zAH|apply zAA|apply zAD|apply w0|(refine aVM zEX (hN) (SArgs_all rfl) rfl rfl ?_)|apply ay (hd:=rfl)|exact zAF rfl|exact zAG rfl|refine zAI rfl ?_|refine zAJ rfl ?_
  all_goals exact zEE rfl
end Go.Proofs.YtcagoomibpcdlaaGreatDoor

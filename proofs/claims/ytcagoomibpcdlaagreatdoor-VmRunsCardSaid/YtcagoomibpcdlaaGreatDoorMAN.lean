import Derived.Test.YtcagoomibpcdlaaGreatDoorMAM
set_option maxHeartbeats 16000000
namespace Go.Proofs.YtcagoomibpcdlaaGreatDoor
open _root_.Go.Proofs.Tryz
open Go.Sx Go.Vm
attribute [local irreducible] zAL Program.underlying Ylds zA2 alex zBZ zBP awp zAb zBh zBg zAW zBF zAp zBG zBR zAr zBV zBY zBe zBM zA8 zBE
abbrev BlkQ(r:Raw)(w:Nat)(k tag n:Int)(ok:Bool): Prop:=zAp prog 53 [.ptr 0 0,.d (w64 w)] (HO r.size r.now r.oth r.beg) (.tup [i64 k,i64 tag,i64 n,bl ok])
theorem zGf(m:Img)(r:Raw){w:Nat}{k tag n:Int}(hB:BlkQ r w k tag n true): zAp prog 52 [.ptr 0 0,.d (w64 w),.d (i64 k)] (MX m r) (bl true):=by
 have hk:¬k≠k:=fun c=>c rfl
 refine zCq func52 rfl ntmps52 results52 rfl ?_
 intro wb St0
 exact yK
theorem zc7(m:Img)(r:Raw){w:Nat}{k k' tag n:Int}{ok:Bool}(hB:BlkQ r w k' tag n ok)(h:ok=false\/k'≠k): zAW prog 52 [.ptr 0 0,.d (w64 w),.d (i64 k)] (MX m r) (.d (bl false)) (MX m { r with fin:=4 }):=by
 have hS:=zFv m r 4
 cases ok
 all_goals
  refine zBr func52 rfl ntmps52 results52 rfl ?_
  intro wb St0 X fx
 ·skip
  exact yU
 ·have h2:k'≠k:=h.resolve_left (fun c=>by cases c)
  skip
  exact yU
theorem zFH(m:Img)(r:Raw){w:Nat}{v:Int}(hI:zAb prog 54 [w64 w] (.tup [i64 v,bl true])): zAp prog 49 [.ptr 0 0,.d (w64 w)] (MX m r) (.tup [i64 v,bl true]):=by
 refine zJL func49 rfl ntmps49 results49 rfl ?_
 intro wb St0
 exact yK
theorem zG9(m:Img)(r:Raw){w:Nat}(hI:zAb prog 54 [w64 w] (.tup [i64 0,bl false])): zAW prog 49 [.ptr 0 0,.d (w64 w)] (MX m r) (.d (.tup [i64 0,bl false])) (MX m { r with fin:=4 }):=by
 have hS:=zFv m r 4
 refine zPq func49 rfl ntmps49 results49 rfl ?_
 intro wb St0 X fx
 repeat' first|apply en_n|apply zAE|apply zAA|apply zAB|apply w0|exact ycA zEM hI|(refine aVMA zDt (hS) ?_)|refine ayA rfl ?_|apply ay (hd:=rfl)|refine zAJ rfl ?_|apply zAM
 all_goals exact zQ3 rfl (zBu (RV_d rfl (RV_d rfl zA5 rfl) rfl))
theorem zQR(m:Img)(r:Raw)(x:Int)(hl:r.stk.length<=1048576)(h:2<=r.stk.length): zAW prog 88 [.ptr 0 0,.d (i64 x),.d (i64 0)] (MX m r) .top (MX m { r with stk:=r.stk.take (r.stk.length-2)++[nW x] }):=by
 have hN:=zH0 m r (n:=2) x hl h
 have h0:¬(0:Int)≠0:=fun c=>c rfl
 refine zBr func88 rfl ntmps88 results88 rfl ?_
 intro wb St0 X fx
 exact yI
theorem zQS(m:Img)(r r':Raw)(x:Int){e:Int}(he:e≠0)(hR:zAW prog 50 [.ptr 0 0,.d (i64 (-2))] (MX m r) .top (MX m r')): zAW prog 88 [.ptr 0 0,.d (i64 x),.d (i64 e)] (MX m r) .top (MX m r'):=by
 refine zBr func88 rfl ntmps88 results88 rfl ?_
 intro wb St0 X fx
 exact yH
theorem zY9(m:Img)(r:Raw)(b:Bool)(hl:r.stk.length<=1048576)(h:2<=r.stk.length): zAW prog 93 [.ptr 0 0,.d (bl b)] (MX m r) .top (MX m { r with stk:=r.stk.take (r.stk.length-2)++[nW (if b then 1 else 0)] }):=by
 have hN:=zH0 m r (n:=2) (if b then 1 else 0) hl h
 refine zBr func93 rfl ntmps93 results93 rfl ?_
 intro wb St0 X fx
 cases b
 all_goals
  skip
  exact yI

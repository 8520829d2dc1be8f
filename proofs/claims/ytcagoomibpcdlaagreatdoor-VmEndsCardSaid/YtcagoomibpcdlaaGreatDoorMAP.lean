/- Parts of the proof. -/
import Derived.Test.YtcagoomibpcdlaaGreatDoorMAO
set_option maxHeartbeats 16000000
namespace Go.Proofs.YtcagoomibpcdlaaGreatDoor
open _root_.Go.Proofs.Tryz
open Go.Sx Go.Vm
attribute [local irreducible] zAO Program.underlying Ylds zBE alex zB0 zBk awp zAg zB9 zB8 zAU zBj zA6 zBl zBn zBC zBq zBz zB7 zBm zBc zBe
abbrev BlkQ(r:Raw)(w:Nat)(k tag n:Int)(ok:Bool): Prop:=zA6 prog 53 [.ptr 0 0,.d (w64 w)] (HO r.size r.now r.oth r.beg) (.tup [i64 k,i64 tag,i64 n,bl ok])
theorem zFU(m:Img)(r:Raw){w:Nat}{k tag n:Int}(hB:BlkQ r w k tag n true): zA6 prog 52 [.ptr 0 0,.d (w64 w),.d (i64 k)] (MX m r) (bl true):=by
 have hk:¬k≠k:=fun c=>c rfl
 refine zCb func52 rfl ntmps52 results52 rfl ?_
 intro wb St0
 repeat' first|apply en_n|apply zAG|apply zAA|apply zAD|apply w0|exact zGi rfl rfl|exact zAL rfl|(refine zAX [1,2,3,4] [] rfl rfl zCk (hB) rfl (SArgs_all rfl) rfl (by decide) rfl rfl rfl rfl)|apply ay (hd:=rfl)|exact zAF rfl|exact zAB rfl|exact zBS rfl|exact zAV rfl rfl|exact zAk rfl rfl|exact zAH rfl|exact zAC rfl zBb|exact zAE rfl zBw rfl rfl|refine w1 rfl rfl ?_|refine zAJ rfl ?_|apply zAR|apply zAQ|apply zAT|refine res1 rfl ?_
 all_goals first|omega|rfl
theorem zZP(m:Img)(r:Raw){w:Nat}{k k' tag n:Int}{ok:Bool}(hB:BlkQ r w k' tag n ok)(h:ok=false\/k'≠k): zAU prog 52 [.ptr 0 0,.d (w64 w),.d (i64 k)] (MX m r) (.d (bl false)) (MX m { r with fin:=4 }):=by
 have hS:=zEx m r 4
 cases ok
 all_goals
  refine zA7 func52 rfl ntmps52 results52 rfl ?_
  intro wb St0 X fx
 ·skip
  repeat' first|apply en_n|apply zAG|apply zAA|apply zAD|apply w0|refine k0u (hd:=rfl) rfl rfl ?_|exact zAL rfl|(refine zAX [1,2,3,4] [] rfl rfl zCk (hB) rfl (SArgs_all rfl) rfl (by decide) rfl rfl rfl rfl)|(refine aVM zDL (hS) (SArgs_all rfl) rfl rfl ?_)|apply ay (hd:=rfl)|exact zAF rfl|exact zAB rfl|exact zBS rfl|exact zAZ rfl rfl|exact zAk rfl rfl|exact zAH rfl|exact zAC rfl zBb|exact zAE rfl zBw rfl rfl|refine zAI rfl ?_|apply zAQ|apply en_r
  all_goals exact zHx rfl rfl rfl
 ·have h2:k'≠k:=h.resolve_left (fun c=>by cases c)
  skip
  repeat' first|apply en_n|apply zAG|apply zAA|apply zAD|apply w0|exact zGh rfl rfl|exact zAL rfl|(refine zAX [1,2,3,4] [] rfl rfl zCk (hB) rfl (SArgs_all rfl) rfl (by decide) rfl rfl rfl rfl)|(refine aVM zDL (hS) (SArgs_all rfl) rfl rfl ?_)|apply ay (hd:=rfl)|exact zAF rfl|exact zAB rfl|exact zBS rfl|exact zAV rfl rfl|exact zAk rfl rfl|exact zAH rfl|exact zAC rfl zBb|exact zAE rfl zBw rfl rfl|refine w1 rfl rfl ?_|refine zAI rfl ?_|apply zAQ|apply en_r
  all_goals exact zHx rfl rfl rfl
theorem zES(m:Img)(r:Raw){w:Nat}{v:Int}(hI:zAg prog 54 [w64 w] (.tup [i64 v,bl true])): zA6 prog 49 [.ptr 0 0,.d (w64 w)] (MX m r) (.tup [i64 v,bl true]):=by
 refine zHp func49 rfl ntmps49 results49 rfl ?_
 intro wb St0
 repeat' first|apply en_n|apply zAG|apply zAA|apply zAD|apply w0|(refine zBQ ?_)|(refine zBp ?_)|exact zCh|(refine RV_d rfl ?_ ?_)|(with_reducible exact rfl)|(refine zAd zDh hI (CoLA rfl))|apply ay (hd:=rfl)|exact zAF rfl|exact zAB rfl|exact zBS rfl|exact zAk rfl rfl|refine zAJ rfl ?_|apply zAR|apply zAQ
theorem zFu(m:Img)(r:Raw){w:Nat}(hI:zAg prog 54 [w64 w] (.tup [i64 0,bl false])): zAU prog 49 [.ptr 0 0,.d (w64 w)] (MX m r) (.d (.tup [i64 0,bl false])) (MX m { r with fin:=4 }):=by
 have hS:=zEx m r 4
 refine zNZ func49 rfl ntmps49 results49 rfl ?_
 intro wb St0 X fx
 repeat' first|apply en_n|apply zAG|apply zAA|apply zAD|apply w0|(refine zAd zDh hI (CoLA rfl))|(refine aVM zDL (hS) (SArgs_all rfl) rfl rfl ?_)|apply ay (hd:=rfl)|exact zAF rfl|exact zAB rfl|exact zBS rfl|exact zAk rfl rfl|exact zAH rfl|refine zAI rfl ?_|apply zAQ
 all_goals exact zOg rfl (zBp (RV_d rfl (RV_d rfl zCh rfl) rfl))
theorem zN8(m:Img)(r:Raw)(x:Int)(hl:r.stk.length<=1048576)(h:2<=r.stk.length): zAU prog 88 [.ptr 0 0,.d (i64 x),.d (i64 0)] (MX m r) .top (MX m { r with stk:=r.stk.take (r.stk.length-2)++[nW x] }):=by
 have hN:=zGX m r (n:=2) x hl h
 have h0:¬(0:Int)≠0:=fun c=>c rfl
 refine zA7 func88 rfl ntmps88 results88 rfl ?_
 intro wb St0 X fx
 repeat' first|apply en_n|apply zAG|apply zAA|apply zAD|apply w0|exact zGi rfl rfl|(refine aVM zEg (hN) (SArgs_all rfl) rfl rfl ?_)|apply ay (hd:=rfl)|exact zAF rfl|exact zAH rfl|refine zAJ rfl ?_|apply zAR
 all_goals exact zEG rfl
theorem zN9(m:Img)(r r':Raw)(x:Int){e:Int}(he:e≠0)(hR:zAU prog 50 [.ptr 0 0,.d (i64 (-2))] (MX m r) .top (MX m r')): zAU prog 88 [.ptr 0 0,.d (i64 x),.d (i64 e)] (MX m r) .top (MX m r'):=by
 refine zA7 func88 rfl ntmps88 results88 rfl ?_
 intro wb St0 X fx
 repeat' first|apply en_n|apply zAG|apply zAA|apply zAD|apply w0|exact zGh rfl rfl|(refine aVM zHW (hR) (SArgs_all rfl) rfl rfl ?_)|apply ay (hd:=rfl)|exact zAF rfl|exact zAH rfl|refine zAI rfl ?_|apply zAQ|apply en_r
 all_goals exact zDW rfl
theorem zVy(m:Img)(r:Raw)(b:Bool)(hl:r.stk.length<=1048576)(h:2<=r.stk.length): zAU prog 93 [.ptr 0 0,.d (bl b)] (MX m r) .top (MX m { r with stk:=r.stk.take (r.stk.length-2)++[nW (if b then 1 else 0)] }):=by
 have hN:=zGX m r (n:=2) (if b then 1 else 0) hl h
 refine zA7 func93 rfl ntmps93 results93 rfl ?_
 intro wb St0 X fx
 cases b
 all_goals
  skip
  repeat' first|apply en_n|apply zAG|apply zAA|apply zAD|apply w0|(refine aVM zEg (hN) (SArgs_all rfl) rfl rfl ?_)|apply ay (hd:=rfl)|exact zAF rfl|exact zAH rfl|refine zAI rfl ?_|refine zAJ rfl ?_
  all_goals exact zEG rfl
end Go.Proofs.YtcagoomibpcdlaaGreatDoor

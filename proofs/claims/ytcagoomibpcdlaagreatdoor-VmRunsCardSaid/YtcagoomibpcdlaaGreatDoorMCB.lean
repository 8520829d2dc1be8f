import Derived.Test.YtcagoomibpcdlaaGreatDoorMCA
set_option maxHeartbeats 16000000
namespace Go.Proofs.YtcagoomibpcdlaaGreatDoor
open _root_.Go.Proofs.Tryz
open Go.Sx Go.Vm
attribute [local irreducible] zAL Program.underlying Ylds zA2 alex zBZ zBP awp zAb zBh zBg zAW zBF zAp zBG zBR zAr zBV zBY zBe zBM zA8 zBE
theorem st_A(m:Img)(r r':Raw){a b:Int}:
  ((hR:zAW prog 21 [.ptr 0 0,.d (i64 1)] (MX m (nxt r)) .top (MX m r'))->StTo m r r' 0 a b)/\
  ((hR:zAW prog 38 [.ptr 0 0,.d (i64 a)] (MX m (nxt r)) .top (MX m r'))->StTo m r r' 1 a b)/\
  ((hR:zAW prog 42 [.ptr 0 0,.d (i64 a)] (MX m (nxt r)) .top (MX m r'))->StTo m r r' 5 a b)/\
  ((hR:zAW prog 44 [.ptr 0 0,.d (bl false)] (MX m (nxt r)) .top (MX m r'))->StTo m r r' 7 a b)/\
  ((hR:zAW prog 44 [.ptr 0 0,.d (bl true)] (MX m (nxt r)) .top (MX m r'))->StTo m r r' 8 a b)/\
  ((hR:zAW prog 45 [.ptr 0 0] (MX m (nxt r)) .top (MX m r'))->StTo m r r' 9 a b)/\
  ((hR:zAW prog 46 [.ptr 0 0,.d (i64 1),.d (i64 a),.d (i64 b)] (MX m (nxt r)) .top (MX m r'))->StTo m r r' 10 a b)/\
  ((hR:zAW prog 46 [.ptr 0 0,.d (i64 2),.d (i64 a),.d (i64 b)] (MX m (nxt r)) .top (MX m r'))->StTo m r r' 18 a b)/\
  ((hR:zAW prog 47 [.ptr 0 0,.d (i64 a)] (MX m (nxt r)) .top (MX m r'))->StTo m r r' 11 a b)/\
  ((hR:zAW prog 48 [.ptr 0 0,.d (i64 a)] (MX m (nxt r)) .top (MX m r'))->StTo m r r' 12 a b)/\
  ((hR:zAW prog 39 [.ptr 0 0,.d (i64 1)] (MX m (nxt r)) (.d (bl true)) (MX m r'))->StTo m r r' 2 a b)/\
  ((hR:zAW prog 39 [.ptr 0 0,.d (i64 1)] (MX m (nxt r)) (.d (bl true)) (MX m r'))->StTo m r r' 3 a b)/\
  ((hR:zAW prog 39 [.ptr 0 0,.d (i64 1)] (MX m (nxt r)) (.d (bl true)) (MX m r'))->StTo m r r' 4 a b):=by
 refine⟨fun hR=>?_,fun hR=>?_,fun hR=>?_,fun hR=>?_,fun hR=>?_,fun hR=>?_,fun hR=>?_,fun hR=>?_,fun hR=>?_,fun hR=>?_,fun hR=>?_,fun hR=>?_,fun hR=>?_⟩
 all_goals
  intro wb St0 X fx
  conv=>arg 2;whnf
  skip
  exact yI
theorem zcc(m:Img)(r r':Raw){a b:Int}(hc:InsAt m r ⟨0,a,b⟩)(hR:zAW prog 21 [.ptr 0 0,.d (i64 1)] (MX m (nxt r)) .top (MX m r')): zAW prog 22 [.ptr 0 0] (MX m r) .top (MX m r'):=zCo m r r' hc ((st_A m r r').1 hR)
theorem zTg(m:Img)(r r':Raw){a b:Int}(hc:InsAt m r ⟨1,a,b⟩)(hR:zAW prog 38 [.ptr 0 0,.d (i64 a)] (MX m (nxt r)) .top (MX m r')): zAW prog 22 [.ptr 0 0] (MX m r) .top (MX m r'):=zCo m r r' hc ((st_A m r r').2.1 hR)
theorem zcY(m:Img)(r r':Raw){a b:Int}(hc:InsAt m r ⟨5,a,b⟩)(hR:zAW prog 42 [.ptr 0 0,.d (i64 a)] (MX m (nxt r)) .top (MX m r')): zAW prog 22 [.ptr 0 0] (MX m r) .top (MX m r'):=zCo m r r' hc ((st_A m r r').2.2.1 hR)
theorem zcW(m:Img)(r r':Raw){a b:Int}(hc:InsAt m r ⟨7,a,b⟩)(hR:zAW prog 44 [.ptr 0 0,.d (bl false)] (MX m (nxt r)) .top (MX m r')): zAW prog 22 [.ptr 0 0] (MX m r) .top (MX m r'):=zCo m r r' hc ((st_A m r r').2.2.2.1 hR)
theorem zcV(m:Img)(r r':Raw){a b:Int}(hc:InsAt m r ⟨8,a,b⟩)(hR:zAW prog 44 [.ptr 0 0,.d (bl true)] (MX m (nxt r)) .top (MX m r')): zAW prog 22 [.ptr 0 0] (MX m r) .top (MX m r'):=zCo m r r' hc ((st_A m r r').2.2.2.2.1 hR)
theorem zcU(m:Img)(r r':Raw){a b:Int}(hc:InsAt m r ⟨9,a,b⟩)(hR:zAW prog 45 [.ptr 0 0] (MX m (nxt r)) .top (MX m r')): zAW prog 22 [.ptr 0 0] (MX m r) .top (MX m r'):=zCo m r r' hc ((st_A m r r').2.2.2.2.2.1 hR)
theorem zaE(m:Img)(r r':Raw){a b:Int}(hc:InsAt m r ⟨10,a,b⟩)(hR:zAW prog 46 [.ptr 0 0,.d (i64 1),.d (i64 a),.d (i64 b)] (MX m (nxt r)) .top (MX m r')): zAW prog 22 [.ptr 0 0] (MX m r) .top (MX m r'):=zCo m r r' hc ((st_A m r r').2.2.2.2.2.2.1 hR)
theorem zZ6(m:Img)(r r':Raw){a b:Int}(hc:InsAt m r ⟨18,a,b⟩)(hR:zAW prog 46 [.ptr 0 0,.d (i64 2),.d (i64 a),.d (i64 b)] (MX m (nxt r)) .top (MX m r')): zAW prog 22 [.ptr 0 0] (MX m r) .top (MX m r'):=zCo m r r' hc ((st_A m r r').2.2.2.2.2.2.2.1 hR)
theorem zaD(m:Img)(r r':Raw){a b:Int}(hc:InsAt m r ⟨11,a,b⟩)(hR:zAW prog 47 [.ptr 0 0,.d (i64 a)] (MX m (nxt r)) .top (MX m r')): zAW prog 22 [.ptr 0 0] (MX m r) .top (MX m r'):=zCo m r r' hc ((st_A m r r').2.2.2.2.2.2.2.2.1 hR)
theorem zaC(m:Img)(r r':Raw){a b:Int}(hc:InsAt m r ⟨12,a,b⟩)(hR:zAW prog 48 [.ptr 0 0,.d (i64 a)] (MX m (nxt r)) .top (MX m r')): zAW prog 22 [.ptr 0 0] (MX m r) .top (MX m r'):=zCo m r r' hc ((st_A m r r').2.2.2.2.2.2.2.2.2.1 hR)
theorem zZ3(m:Img)(r r':Raw){a b:Int}(hc:InsAt m r ⟨2,a,b⟩)(hR:zAW prog 39 [.ptr 0 0,.d (i64 1)] (MX m (nxt r)) (.d (bl true)) (MX m r')): zAW prog 22 [.ptr 0 0] (MX m r) .top (MX m r'):=zCo m r r' hc ((st_A m r r').2.2.2.2.2.2.2.2.2.2.1 hR)
theorem zZ2(m:Img)(r r':Raw){a b:Int}(hc:InsAt m r ⟨3,a,b⟩)(hR:zAW prog 39 [.ptr 0 0,.d (i64 1)] (MX m (nxt r)) (.d (bl true)) (MX m r')): zAW prog 22 [.ptr 0 0] (MX m r) .top (MX m r'):=zCo m r r' hc ((st_A m r r').2.2.2.2.2.2.2.2.2.2.2.1 hR)
theorem zZ1(m:Img)(r r':Raw){a b:Int}(hc:InsAt m r ⟨4,a,b⟩)(hR:zAW prog 39 [.ptr 0 0,.d (i64 1)] (MX m (nxt r)) (.d (bl true)) (MX m r')): zAW prog 22 [.ptr 0 0] (MX m r) .top (MX m r'):=zCo m r r' hc ((st_A m r r').2.2.2.2.2.2.2.2.2.2.2.2 hR)

import Derived.Test.YtcagoomibpcdlaaGreatDoorMCA
set_option maxHeartbeats 16000000
namespace Go.Proofs.YtcagoomibpcdlaaGreatDoor
open _root_.Go.Proofs.Tryz
open Go.Sx Go.Vm
attribute [local irreducible] zAL Program.underlying Ylds zA2 alex zBZ zBP awp zAb zBh zBg zAW zBF zAp zBG zBR zAr zBV zBY zBe zBM zA8 zBE
theorem st_B(m:Img)(r r':Raw){a b:Int}:
  (∀{w:Nat},(hH:zAp prog 39 [.ptr 0 0,.d (i64 1)] (MX m (nxt r)) (bl false))->(hT:zAp prog 24 [.ptr 0 0,.d (i64 a)] (MX m (nxt r)) (w64 w))->(hP:zAW prog 40 [.ptr 0 0,.d (w64 w)] (MX m (nxt r)) .top (MX m r'))->StTo m r r' 2 a b)/\
  (∀{w:Nat},(hH:zAp prog 39 [.ptr 0 0,.d (i64 1)] (MX m (nxt r)) (bl false))->(hX:zAp prog 41 [.ptr 0 0,.d (w64 r.c.fn),.d (i64 a)] (HO r.size r.now r.oth r.beg) (.tup [w64 w,bl true]))->(hP:zAW prog 40 [.ptr 0 0,.d (w64 w)] (MX m (nxt r)) .top (MX m r'))->StTo m r r' 3 a b)/\
  ((hH:zAp prog 39 [.ptr 0 0,.d (i64 1)] (MX m (nxt r)) (bl false))->(hP:zAW prog 40 [.ptr 0 0,.d (w64 r.c.fn)] (MX m (nxt r)) .top (MX m r'))->StTo m r r' 4 a b)/\
  (∀{w:Nat},(ha:0<=a/\a<=1048576)->(hT:zAp prog 24 [.ptr 0 0,.d (i64 0)] (MX m (nxt r)) (w64 w))->(hP:zAW prog 43 [.ptr 0 0,.d (i64 (a+1)),.d (w64 w)] (MX m (nxt r)) .top (MX m r'))->StTo m r r' 6 a b)/\
  (∀{w:Nat},(hT:zAp prog 24 [.ptr 0 0,.d (i64 0)] (MX m (nxt r)) (w64 w))->(hP:zAW prog 49 [.ptr 0 0,.d (w64 w)] (MX m (nxt r)) (.d (.tup [i64 0,bl false])) (MX m r'))->StTo m r r' 13 a b)/\
  (∀{w:Nat},(hT:zAp prog 24 [.ptr 0 0,.d (i64 0)] (MX m (nxt r)) (w64 w))->(hP:zAW prog 49 [.ptr 0 0,.d (w64 w)] (MX m (nxt r)) (.d (.tup [i64 0,bl false])) (MX m r'))->StTo m r r' 16 a b)/\
  (∀{w:Nat},(hT:zAp prog 24 [.ptr 0 0,.d (i64 0)] (MX m (nxt r)) (w64 w))->(hP:zAW prog 49 [.ptr 0 0,.d (w64 w)] (MX m (nxt r)) (.d (.tup [i64 0,bl false])) (MX m r'))->StTo m r r' 20 a b)/\
  (∀{w:Nat},(hT:zAp prog 24 [.ptr 0 0,.d (i64 0)] (MX m (nxt r)) (w64 w))->(hP:zAW prog 52 [.ptr 0 0,.d (w64 w),.d (i64 1)] (MX m (nxt r)) (.d (bl false)) (MX m r'))->StTo m r r' 19 a b)/\
  (∀{w:Nat} {x:Int},(hT:zAp prog 24 [.ptr 0 0,.d (i64 0)] (MX m (nxt r)) (w64 w))->(hN:zAp prog 49 [.ptr 0 0,.d (w64 w)] (MX m (nxt r)) (.tup [i64 x,bl true]))->(hP:zAW prog 50 [.ptr 0 0,.d (i64 x)] (MX m (nxt r)) .top (MX m r'))->StTo m r r' 13 a b):=by
 refine⟨fun {w} hH hT hP=>?_,fun {w} hH hX hP=>?_,fun hH hP=>?_,fun {w} ha hT hP=>?_,fun {w} hT hP=>?_,fun {w} hT hP=>?_,fun {w} hT hP=>?_,fun {w} hT hP=>?_,fun {w} {x} hT hN hP=>?_⟩
 all_goals
  intro wb St0 X fx
  conv=>arg 2;whnf
  skip
  exact yD
theorem zcb(m:Img)(r r':Raw){a b:Int}(hc:InsAt m r ⟨2,a,b⟩){w:Nat}(hH:zAp prog 39 [.ptr 0 0,.d (i64 1)] (MX m (nxt r)) (bl false))(hT:zAp prog 24 [.ptr 0 0,.d (i64 a)] (MX m (nxt r)) (w64 w))(hP:zAW prog 40 [.ptr 0 0,.d (w64 w)] (MX m (nxt r)) .top (MX m r')): zAW prog 22 [.ptr 0 0] (MX m r) .top (MX m r'):=zCo m r r' hc ((st_B m r r').1 hH hT hP)
theorem zca(m:Img)(r r':Raw){a b:Int}(hc:InsAt m r ⟨3,a,b⟩){w:Nat}(hH:zAp prog 39 [.ptr 0 0,.d (i64 1)] (MX m (nxt r)) (bl false))(hX:zAp prog 41 [.ptr 0 0,.d (w64 r.c.fn),.d (i64 a)] (HO r.size r.now r.oth r.beg) (.tup [w64 w,bl true]))(hP:zAW prog 40 [.ptr 0 0,.d (w64 w)] (MX m (nxt r)) .top (MX m r')): zAW prog 22 [.ptr 0 0] (MX m r) .top (MX m r'):=zCo m r r' hc ((st_B m r r').2.1 hH hX hP)
theorem zcZ(m:Img)(r r':Raw){a b:Int}(hc:InsAt m r ⟨4,a,b⟩)(hH:zAp prog 39 [.ptr 0 0,.d (i64 1)] (MX m (nxt r)) (bl false))(hP:zAW prog 40 [.ptr 0 0,.d (w64 r.c.fn)] (MX m (nxt r)) .top (MX m r')): zAW prog 22 [.ptr 0 0] (MX m r) .top (MX m r'):=zCo m r r' hc ((st_B m r r').2.2.1 hH hP)
theorem zcX(m:Img)(r r':Raw){a b:Int}(hc:InsAt m r ⟨6,a,b⟩){w:Nat}(ha:0<=a/\a<=1048576)(hT:zAp prog 24 [.ptr 0 0,.d (i64 0)] (MX m (nxt r)) (w64 w))(hP:zAW prog 43 [.ptr 0 0,.d (i64 (a+1)),.d (w64 w)] (MX m (nxt r)) .top (MX m r')): zAW prog 22 [.ptr 0 0] (MX m r) .top (MX m r'):=zCo m r r' hc ((st_B m r r').2.2.2.1 ha hT hP)
theorem zWs(m:Img)(r r':Raw){a b:Int}(hc:InsAt m r ⟨13,a,b⟩){w:Nat}(hT:zAp prog 24 [.ptr 0 0,.d (i64 0)] (MX m (nxt r)) (w64 w))(hP:zAW prog 49 [.ptr 0 0,.d (w64 w)] (MX m (nxt r)) (.d (.tup [i64 0,bl false])) (MX m r')): zAW prog 22 [.ptr 0 0] (MX m r) .top (MX m r'):=zCo m r r' hc ((st_B m r r').2.2.2.2.1 hT hP)
theorem zWr(m:Img)(r r':Raw){a b:Int}(hc:InsAt m r ⟨16,a,b⟩){w:Nat}(hT:zAp prog 24 [.ptr 0 0,.d (i64 0)] (MX m (nxt r)) (w64 w))(hP:zAW prog 49 [.ptr 0 0,.d (w64 w)] (MX m (nxt r)) (.d (.tup [i64 0,bl false])) (MX m r')): zAW prog 22 [.ptr 0 0] (MX m r) .top (MX m r'):=zCo m r r' hc ((st_B m r r').2.2.2.2.2.1 hT hP)
theorem zWp(m:Img)(r r':Raw){a b:Int}(hc:InsAt m r ⟨20,a,b⟩){w:Nat}(hT:zAp prog 24 [.ptr 0 0,.d (i64 0)] (MX m (nxt r)) (w64 w))(hP:zAW prog 49 [.ptr 0 0,.d (w64 w)] (MX m (nxt r)) (.d (.tup [i64 0,bl false])) (MX m r')): zAW prog 22 [.ptr 0 0] (MX m r) .top (MX m r'):=zCo m r r' hc ((st_B m r r').2.2.2.2.2.2.1 hT hP)
theorem zWq(m:Img)(r r':Raw){a b:Int}(hc:InsAt m r ⟨19,a,b⟩){w:Nat}(hT:zAp prog 24 [.ptr 0 0,.d (i64 0)] (MX m (nxt r)) (w64 w))(hP:zAW prog 52 [.ptr 0 0,.d (w64 w),.d (i64 1)] (MX m (nxt r)) (.d (bl false)) (MX m r')): zAW prog 22 [.ptr 0 0] (MX m r) .top (MX m r'):=zCo m r r' hc ((st_B m r r').2.2.2.2.2.2.2.1 hT hP)
theorem zaB(m:Img)(r r':Raw){a b:Int}(hc:InsAt m r ⟨13,a,b⟩){w:Nat}{x:Int}(hT:zAp prog 24 [.ptr 0 0,.d (i64 0)] (MX m (nxt r)) (w64 w))(hN:zAp prog 49 [.ptr 0 0,.d (w64 w)] (MX m (nxt r)) (.tup [i64 x,bl true]))(hP:zAW prog 50 [.ptr 0 0,.d (i64 x)] (MX m (nxt r)) .top (MX m r')): zAW prog 22 [.ptr 0 0] (MX m r) .top (MX m r'):=zCo m r r' hc ((st_B m r r').2.2.2.2.2.2.2.2 hT hN hP)

/- Parts of the proof. -/
import Derived.Test.YtcagoomibpcdlaaGreatDoorMAO
set_option maxHeartbeats 16000000
namespace Go.Proofs.YtcagoomibpcdlaaGreatDoor
open _root_.Go.Proofs.Tryz
open Go.Sx Go.Vm
def nW(n:Int): Nat:=wdN [] [] (numR n)
theorem zZs(all:List Thing)(ly:List Nat)(n:Int): wdN all ly (numR n)=nW n:=rfl
theorem zDq: (zA2 prog 61).isSome=true:=by rw[zES];rfl
theorem zDp: (zA2 prog 62).isSome=true:=by rw[zD9];rfl
theorem zBz{α:Type}{f:α->D}{l:List α}{i:Nat}{x:α}(h:l[i]?=some x): (l.map f)[i]?=some (f x):=by rw[qAL,h];rfl
theorem zMj(l:List Nat)(n:Nat): WOb (Ob.buf true 58 1 (w64s (l.take n))) (Ob.buf true 58 1 (w64s l)):=by rw[zI1];exact zJr _ _
theorem zP3(l:List RCl)(n:Nat): WOb (Ob.buf true 60 3 ((l.take n).map enCl)) (Ob.buf true 60 3 (l.map enCl)):=by rw[qBX];exact zJr _ _
theorem zVd(l:List RTy)(n:Nat): WOb (Ob.buf true 114 5 ((l.take n).map enTy)) (Ob.buf true 114 5 (l.map enTy)):=by rw[qBX];exact zJr _ _
theorem zSb(l:List RCl): WOb (Ob.buf true 60 3 (l.dropLast.map enCl)) (Ob.buf true 60 3 (l.map enCl)):=by rw[qBe];exact zP3 _ _
theorem zNZ(l:List RTy): WOb (Ob.buf true 114 5 (l.dropLast.map enTy)) (Ob.buf true 114 5 (l.map enTy)):=by rw[qBe];exact zVd _ _
theorem zXl{fx:Nat->Option Nat}{m:Img}{r:Raw}{η:List Ob}{o0 o1 o2 o3 o4 o5 o6 o7 o8 o9 o:Ob}{q:List Ob}{n7:Nat}(e:η=o0::o1::o2::o3::o4::o5::o6::o7::o8::o9::q)
  (e0:Ob.bx (fx 0) none [.d (.slice (m.pool.map enCn)),.d (.slice (m.code.map enIn)),.ptr 1 0,.buf 5 r.stk.length,.d (i64 r.c.at_),.d (i64 r.c.base),.d (w64 r.c.fn),.buf 6 r.cls.length,.buf 7 n7,.d (i64 r.fin),.nil,.d (i64 r.num),.buf 8 r.out.length,.d (i64 r.steps)]=o0)
  (h7:r.trs.length=n7)
  (e1:Ob.bx (fx 1) none [.buf 2 r.now.length,.buf 3 r.oth.length,.d (i64 r.size),.buf 4 r.beg.length]=o1)
  (e2:Ob.buf true 58 1 (w64s r.now)=o2) (e3:Ob.buf true 58 1 (w64s r.oth)=o3) (e4:Ob.buf true 4 1 (bls r.beg)=o4)
  (e5:Ob.buf true 58 1 (w64s r.stk)=o5) (e6:Ob.buf true 60 3 (r.cls.map enCl)=o6) (e7:WOb (Ob.buf true 114 5 (r.trs.map enTy)) o7) (e8:Ob.buf true 9 1 (r.out.map str)=o8) (e9:o=o9) :
  Pre (MA fx m r++[o]) η:=by
 subst e;subst h7;subst e9
 exact zAO rfl e0 (zAO rfl e1 (zAO rfl e2 (zAO rfl e3 (zAO rfl e4 (zAO rfl e5 (zAO rfl e6 (zII rfl e7 (zAO rfl e8 (zAO rfl rfl zAt)))))))))
attribute [local irreducible] zAN Program.underlying Ylds zA9 alex zB3 zBf awp zAi zCC zCB zAU zBl zAz zBq zBj zBB zBr zB2 zB8 zBi zBd zBg
theorem zGW(m:Img)(r:Raw){n:Nat}(x:Int)(hl:r.stk.length<=1048576)(h:n<=r.stk.length): zAU prog 81 [.ptr 0 0,.d (i64 (n:Int)),.d (i64 x)] (MX m r) .top (MX m { r with stk:=r.stk.take (r.stk.length-n)++[nW x] }):=by
 have hN:=zOq [] [] x
 have hB:=zE4 m r (w:=nW x) hl h
 refine zAx func81 rfl ntmps81 results81 rfl ?_
 intro wb St0 X fx
 repeat' first|apply zAA|apply zAD|apply w0|(refine zAb zGA hN (zAY rfl zAM))|(refine aVM zD4 (hB) (SArgs_all rfl) rfl rfl ?_)|apply ay (hd:=rfl)|exact zAF rfl|exact zAG rfl
 all_goals exact zEE rfl
theorem zTV(m:Img)(r:Raw)(n:Int)(h:r.trs=[]): zAU prog 50 [.ptr 0 0,.d (i64 n)] (MX m r) .top (MX m { r with num:=n,fin:=2 }):=by
 have hS:=zEq m { r with num:=n } 2
 have hl:(r.trs.length:Int)=0:=by rw[h];rfl
 refine zAx func50 rfl ntmps50 results50 rfl ?_
 intro wb St0 X fx
 repeat' first|apply en_n|apply zAH|apply zAA|apply zAD|apply w0|exact zAk rfl rfl|exact zAK rfl|(refine aVM zDK (hS) (SArgs_all rfl) rfl rfl ?_)|apply ay (hd:=rfl)|exact zAF rfl|exact zA5 rfl zGk|exact zAG rfl|(apply zAC;exact rfl;(with_reducible first|exact zLK|exact zC6|exact zB1))|exact zAE rfl zB4 rfl rfl|(refine w0' ?_)|refine zAh rfl rfl rfl zD1 rfl rfl rfl rfl ?_|refine zAI rfl ?_|apply zAQ|apply en_r
 all_goals first|omega|skip
 all_goals exact zDT rfl
theorem zUV(m:Img)(r:Raw){w:Nat}{cl:RCl}(hc:r.cls.getLast? = some cl)(hw:r.stk.getLast? = some w)(hb:0<=r.c.base/\r.c.base<=r.stk.length)(hl:r.stk.length<=1048576)(hl2:r.cls.length<=1048576):
  zAU prog 45 [.ptr 0 0] (MX m r) .top (MX m { r with stk:=r.stk.take r.c.base.toNat++[w],c:=cl,cls:=r.cls.dropLast }):=by
 have h0:0<r.stk.length:=by cases hs:r.stk with|nil=>rw[hs]at hw;cases hw|cons _ _=>exact Nat.succ_pos _
 have hT:=zBt m r (k:=0) (w:=w) h0 (by rw[Nat.sub_zero,<-qBc];exact hw) hl
 have h1:0<r.cls.length:=by cases hs:r.cls with|nil=>rw[hs]at hc;cases hc|cons _ _=>exact Nat.succ_pos _
 have hP:=zHD m { r with stk:=r.stk.take r.c.base.toNat,c:=cl,cls:=r.cls.dropLast } (w:=w) (by show (List.take _ _).length<=_;rw[qAJ];omega)
 have hld:(r.cls.map enCl)[((r.cls.length:Int)-1).toNat]?=some (enCl cl):=by
  refine zBz ?_
  rw[show ((r.cls.length:Int)-1).toNat=r.cls.length-1 by omega,<-qBc];exact hc
 have l5:(r.stk.take r.c.base.toNat).length=r.c.base.toNat:=by rw[qAJ];omega
 have l6:r.cls.dropLast.length=((r.cls.length:Int)-1).toNat:=by rw[qAt];omega
 refine zAx func45 rfl ntmps45 results45 rfl ?_
 intro wb St0 X fx
 repeat' first|(refine zFV (id:=4) (s:=[(0,.ptr 0 0),(2,.d (w64 w))]) (h:=MA fx m { r with stk:=r.stk.take r.c.base.toNat,c:=cl,cls:=r.cls.dropLast }) (zAT (Le_all rfl) (zEi rfl rfl l5 l6 rfl rfl rfl rfl rfl rfl rfl rfl (zMj _ _) (zSb _) (zBU rfl) rfl) rfl rfl) ?_)|apply en_n|apply zAH|apply zAA|apply zAD|apply w0|exact zAK rfl|(refine zBv (by kernel_rfl) ?_;apply zAh;exact rfl;exact rfl;exact rfl;(first|with_reducible exact zBC|with_reducible exact zCO|with_reducible exact zB7|with_reducible exact zB4|with_reducible exact zCR|with_reducible exact zBO|with_reducible exact zAP);exact rfl;exact rfl;exact rfl;exact rfl)|(apply zFv;exact rfl;(first|with_reducible exact zDw|with_reducible exact zDq|with_reducible exact zDp);exact rfl;omega;exact⟨_,_,_,_,rfl,(by first|exact qA0 (zAl _).symm|exact qA0 (qAC _).symm)⟩)|(apply zBZ;exact rfl;exact rfl;exact rfl;(first|with_reducible exact zBQ|with_reducible exact zES|with_reducible exact zD9);omega;(first|(rw[zAl];omega)|(rw[qAC];omega)))|(refine zFw rfl (by with_reducible exact zCO) rfl hld rfl rfl rfl)|(refine zAW [0,1,2,3,4,5,6,7,8] [] rfl rfl zAr (hT) rfl (SArgs_all rfl) rfl (by decide) rfl rfl rfl rfl)|(refine aVM zEF (hP) (SArgs_all rfl) rfl rfl ?_)|apply ay (hd:=rfl)|exact zAF rfl|exact zAB rfl|refine zDb rfl rfl ?_|exact zA5 rfl zGl|exact zAG rfl|(apply zAC;exact rfl;(with_reducible first|exact zH1|exact zCn|exact zAZ|exact zDf))|(apply zAE;exact rfl;(with_reducible first|exact zBC|exact zB7|exact zAP);exact rfl;exact rfl)|(refine w0' ?_)|refine zAj (by kernel_rfl) (by kernel_rfl) ?_
 all_goals first|omega|skip
 all_goals exact zEE rfl
end Go.Proofs.YtcagoomibpcdlaaGreatDoor

/- Texts of this claim, merged: VmBB. -/
import Derived.Test.YtcagoomibpcdlaaGreatDoorMAB
import Derived.Test.YtcagoomibpcdlaaGreatDoorMAN
namespace Go.Proofs.YtcagoomibpcdlaaGreatDoor
open Go.Sx Go.Vm
def nW(n:Int): Nat:=wdN [] [] (numR n)
theorem zY7(all:List Thing)(ly:List Nat)(n:Int): wdN all ly (numR n)=nW n:=rfl
theorem zDf: (zA3 Tryz.prog 61).isSome=true:=by rw[zEI];rfl
theorem zDe: (zA3 Tryz.prog 62).isSome=true:=by rw[zDu];rfl
theorem zBx{α:Type}{f:α→D}{l:List α}{i:Nat}{x:α}(h:l[i]?=some x): (l.map f)[i]?=some (f x):=by rw[List.getElem?_map,h];rfl
theorem zMG(l:List Nat)(n:Nat): WOb (Ob.buf true 58 1 (w64s (l.take n))) (Ob.buf true 58 1 (w64s l)):=by rw[zIi];exact zJX _ _
theorem zPQ(l:List RCl)(n:Nat): WOb (Ob.buf true 60 3 ((l.take n).map enCl)) (Ob.buf true 60 3 (l.map enCl)):=by rw[List.map_take];exact zJX _ _
theorem zUp(l:List RTy)(n:Nat): WOb (Ob.buf true 114 5 ((l.take n).map enTy)) (Ob.buf true 114 5 (l.map enTy)):=by rw[List.map_take];exact zJX _ _
theorem zRx(l:List RCl): WOb (Ob.buf true 60 3 (l.dropLast.map enCl)) (Ob.buf true 60 3 (l.map enCl)):=by rw[List.dropLast_eq_take];exact zPQ _ _
theorem zM4(l:List RTy): WOb (Ob.buf true 114 5 (l.dropLast.map enTy)) (Ob.buf true 114 5 (l.map enTy)):=by rw[List.dropLast_eq_take];exact zUp _ _
theorem zWu{fx:Nat→Option Nat}{m:Img}{r:Raw}{η:List Ob}{o0 o1 o2 o3 o4 o5 o6 o7 o8 o9 o:Ob}{q:List Ob}{n7:Nat}(e:η=o0::o1::o2::o3::o4::o5::o6::o7::o8::o9::q)
  (e0:Ob.bx (fx 0) none [.d (.slice (m.pool.map enCn)),.d (.slice (m.code.map enIn)),.ptr 1 0,.buf 5 r.stk.length,.d (i64 r.c.at_),.d (i64 r.c.base),.d (w64 r.c.fn),.buf 6 r.cls.length,.buf 7 n7,.d (i64 r.fin),.nil,.d (i64 r.num),.buf 8 r.out.length,.d (i64 r.steps)]=o0)
  (h7:r.trs.length=n7)
  (e1:Ob.bx (fx 1) none [.buf 2 r.now.length,.buf 3 r.oth.length,.d (i64 r.size),.buf 4 r.beg.length]=o1)
  (e2:Ob.buf true 58 1 (w64s r.now)=o2) (e3:Ob.buf true 58 1 (w64s r.oth)=o3) (e4:Ob.buf true 4 1 (bls r.beg)=o4)
  (e5:Ob.buf true 58 1 (w64s r.stk)=o5) (e6:Ob.buf true 60 3 (r.cls.map enCl)=o6) (e7:WOb (Ob.buf true 114 5 (r.trs.map enTy)) o7) (e8:Ob.buf true 9 1 (r.out.map str)=o8) (e9:o=o9) :
  Pre (MA fx m r++[o]) η:=by
 subst e;subst h7;subst e9
 exact zAP rfl e0 (zAP rfl e1 (zAP rfl e2 (zAP rfl e3 (zAP rfl e4 (zAP rfl e5 (zAP rfl e6 (zH1 rfl e7 (zAP rfl e8 (zAP rfl rfl zA7)))))))))
attribute [local irreducible] zAQ Program.underlying Ylds zBD alex zCA zBi awp zAp zCI zCH zAW zBw zA5 zB0 zBp zBF zBv zB9 zCE zBn zBm zBs
theorem zGB(m:Img)(r:Raw){n:Nat}(x:Int)(hl:r.stk.length≤1048576)(h:n≤r.stk.length): zAW Tryz.prog 81 [.ptr 0 0,.d (i64 (n:Int)),.d (i64 x)] (MX m r) .top (MX m { r with stk:=r.stk.take (r.stk.length-n)++[nW x] }):=by
 have hN:=zOF [] [] x
 have hB:=zEp m r (w:=nW x) hl h
 refine zAy Tryz.func81 rfl Tryz.ntmps81 Tryz.results81 rfl ?_
 intro wb St0 X fx
 repeat' first|apply zAA|apply zAF|apply w0|(refine zAh zFr hN (zAa rfl zAR))|(refine aVM zDq (hB) ?_ rfl rfl ?_;(repeat (refine zAB rfl ?_));exact zAE)|apply ay (hd:=rfl)|exact zAJ rfl|exact zAH rfl
 all_goals exact zDz rfl
theorem zSs(m:Img)(r:Raw)(n:Int)(h:r.trs=[]): zAW Tryz.prog 50 [.ptr 0 0,.d (i64 n)] (MX m r) .top (MX m { r with num:=n,fin:=2 }):=by
 have hS:=zEf m { r with num:=n } 2
 have hl:(r.trs.length:Int)=0:=by rw[h];rfl
 refine zAy Tryz.func50 rfl Tryz.ntmps50 Tryz.results50 rfl ?_
 intro wb St0 X fx
 repeat' first|apply en_n|apply zAK|apply zAA|apply zAF|apply w0|(apply zAn;exact rfl;exact rfl;first|assumption|omega)|exact zAN rfl|(refine aVM zDB (hS) ?_ rfl rfl ?_;(repeat (refine zAB rfl ?_));exact zAE)|apply ay (hd:=rfl)|exact zAJ rfl|(apply zA4;exact rfl;(with_reducible exact zGT))|exact zAH rfl|(apply zAC;exact rfl;(with_reducible first|exact zKx|exact zC0|exact zBz))|(apply zAG;exact rfl;(with_reducible exact zB1);exact rfl;exact rfl)|(refine w0' ?_)|(apply zAl;exact rfl;exact rfl;exact rfl;(with_reducible exact zFh);exact rfl;exact rfl;exact rfl;exact rfl)|(apply zAL;exact rfl)|apply zAT|apply en_r
 all_goals first|omega|skip
 all_goals exact zDJ rfl
theorem zTn(m:Img)(r:Raw){w:Nat}{cl:RCl}(hc:r.cls.getLast? = some cl)(hw:r.stk.getLast? = some w)(hb:0≤r.c.base∧r.c.base≤r.stk.length)(hl:r.stk.length≤1048576)(hl2:r.cls.length≤1048576):
  zAW Tryz.prog 45 [.ptr 0 0] (MX m r) .top (MX m { r with stk:=r.stk.take r.c.base.toNat++[w],c:=cl,cls:=r.cls.dropLast }):=by
 have h0:0<r.stk.length:=by cases hs:r.stk with|nil=>rw[hs]at hw;cases hw|cons _ _=>exact Nat.succ_pos _
 have hT:=zBl m r (k:=0) (w:=w) h0 (by rw[Nat.sub_zero,←List.getLast?_eq_getElem?];exact hw) hl
 have h1:0<r.cls.length:=by cases hs:r.cls with|nil=>rw[hs]at hc;cases hc|cons _ _=>exact Nat.succ_pos _
 have hP:=zGy m { r with stk:=r.stk.take r.c.base.toNat,c:=cl,cls:=r.cls.dropLast } (w:=w) (by show (List.take _ _).length≤_;rw[List.length_take];omega)
 have hld:(r.cls.map enCl)[((r.cls.length:Int)-1).toNat]?=some (enCl cl):=by
  refine zBx ?_
  rw[show ((r.cls.length:Int)-1).toNat=r.cls.length-1 by omega,←List.getLast?_eq_getElem?];exact hc
 have l5:(r.stk.take r.c.base.toNat).length=r.c.base.toNat:=by rw[List.length_take];omega
 have l6:r.cls.dropLast.length=((r.cls.length:Int)-1).toNat:=by rw[List.length_dropLast];omega
 refine zAy Tryz.func45 rfl Tryz.ntmps45 Tryz.results45 rfl ?_
 intro wb St0 X fx
 repeat' first|(refine zFE (id:=4) (s:=[(0,.ptr 0 0),(2,.d (w64 w))]) (h:=MA fx m { r with stk:=r.stk.take r.c.base.toNat,c:=cl,cls:=r.cls.dropLast }) (zAV (zAI rfl (zAI rfl zAd)) (zEb rfl rfl l5 l6 rfl rfl rfl rfl rfl rfl rfl rfl (zMG _ _) (zRx _) (zBW rfl) rfl) rfl rfl) ?_)|apply en_n|apply zAK|apply zAA|apply zAF|apply w0|exact zAN rfl|(refine zBr (by kernel_rfl) ?_;apply zAl;exact rfl;exact rfl;exact rfl;(first|with_reducible exact zBC|with_reducible exact zCP|with_reducible exact zB5|with_reducible exact zB1|with_reducible exact zCS|with_reducible exact zBQ|with_reducible exact zAS);exact rfl;exact rfl;exact rfl;exact rfl)|(apply zFb;exact rfl;(first|with_reducible exact zDk|with_reducible exact zDf|with_reducible exact zDe);exact rfl;omega;exact⟨_,_,_,_,rfl,(by first|exact Nat.le_of_eq (zAk _).symm|exact Nat.le_of_eq (List.length_map _).symm)⟩)|(apply zBY;exact rfl;exact rfl;exact rfl;(first|with_reducible exact zBS|with_reducible exact zEI|with_reducible exact zDu);omega;(first|(rw[zAk];omega)|(rw[List.length_map];omega)))|(refine zFc rfl (by with_reducible exact zCP) rfl hld rfl rfl rfl)|(refine zAZ [0,1,2,3,4,5,6,7,8] [] rfl rfl zAv (hT) rfl ?_ rfl (by decide) rfl rfl rfl rfl;(repeat (refine zAB rfl ?_));exact zAE)|(refine aVM zD1 (hP) ?_ rfl rfl ?_;(repeat (refine zAB rfl ?_));exact zAE)|apply ay (hd:=rfl)|exact zAJ rfl|exact zAD rfl|(apply zDX;exact rfl;exact rfl)|(apply zA4;exact rfl;(with_reducible exact zGU))|exact zAH rfl|(apply zAC;exact rfl;(with_reducible first|exact zHk|exact zCh|exact zAb|exact zDT))|(apply zAG;exact rfl;(with_reducible first|exact zBC|exact zB5|exact zAS);exact rfl;exact rfl)|(refine w0' ?_)|refine zAr (by kernel_rfl) (by kernel_rfl) ?_
 all_goals first|omega|skip
 all_goals exact zDz rfl
end Go.Proofs.YtcagoomibpcdlaaGreatDoor

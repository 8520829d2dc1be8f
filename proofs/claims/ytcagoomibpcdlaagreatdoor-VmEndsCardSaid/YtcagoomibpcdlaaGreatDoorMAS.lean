/- Parts of the proof. -/
import Derived.Test.YtcagoomibpcdlaaGreatDoorMAR
set_option maxHeartbeats 16000000
namespace Go.Proofs.YtcagoomibpcdlaaGreatDoor
open _root_.Go.Proofs.Tryz
open Go.Sx Go.Vm
def rt1(r:Raw)(j:Nat): List Nat:=r.stk++[r.c.fn]++(r.cls.take j).map (·.fn)
def rt2(r:Raw)(j:Nat): List Nat:=r.stk++[r.c.fn]++r.cls.map (·.fn)++(r.trs.take j).map (·.c.fn)
theorem zZI(r:Raw): rt1 r 0=r.stk++[r.c.fn]:=by simp[rt1]
theorem zT2{r:Raw}{j:Nat}{c:RCl}(h:r.cls[j]?=some c): rt1 r (j+1)=rt1 r j++[c.fn]:=by
 unfold rt1;rw[qBQ,h,qAl,<-qAg];rfl
theorem zW1(r:Raw): rt1 r r.cls.length=rt2 r 0:=by simp[rt1,rt2]
theorem zT1{r:Raw}{j:Nat}{c:RTy}(h:r.trs[j]?=some c): rt2 r (j+1)=rt2 r j++[c.c.fn]:=by
 unfold rt2;rw[qBQ,h,qAl,<-qAg];rfl
theorem zRH(r:Raw): rt2 r r.trs.length=rtsR r:=by simp[rt2,rtsR]
theorem zW0(r:Raw){j:Nat}(h:j<=r.cls.length): (rt1 r j).length=r.stk.length+1+j:=by simp only[rt1,qAD,qAC,qAK,qAP,qAp];omega
theorem zRG(r:Raw){j:Nat}(h:j<=r.trs.length): (rt2 r j).length=r.stk.length+1+r.cls.length+j:=by simp only[rt2,qAD,qAC,qAK,qAP,qAp];omega
abbrev rowW(l:List Nat): Ob:=.buf true 58 1 (w64s l)
theorem zYV{fx:Nat->Option Nat}{m:Img}{r:Raw}{o:Ob}{η:List Ob}{o1 o2 o':Ob}{q:List Ob}(e:η=MA fx m r++o1::o2::o'::q)(w:WOb o o'): Pre (MA fx m r++[.gone,.gone,o]) η:=by
 subst e
 have:∀l:List Ob,Pre (l++[.gone,.gone,o]) (l++o1::o2::o'::q):=fun l=>by
  induction l with
  |nil=>exact⟨fun _ _ _ _=>trivial,fun _ _ _ _=>trivial,w,trivial⟩
  |cons a t ih=>exact⟨fun _ _ _ h=>h,ih⟩
 exact this _
theorem zKK{fx:Nat->Option Nat}{m:Img}{r:Raw}{η:List Ob}{o0 o1 o2 o3 o4 o5 o6 o7 o8:Ob}{q t:List Ob}{n5 n6 n7:Nat}(e:η=o0::o1::o2::o3::o4::o5::o6::o7::o8::q)
  (e0:Ob.bx (fx 0) none [.d (.slice (m.pool.map enCn)),.d (.slice (m.code.map enIn)),.ptr 1 0,.buf 5 n5,.d (i64 r.c.at_),.d (i64 r.c.base),.d (w64 r.c.fn),.buf 6 n6,.buf 7 n7,.d (i64 r.fin),.nil,.d (i64 r.num),.buf 8 r.out.length,.d (i64 r.steps)]=o0)
  (h5:r.stk.length=n5) (h6:r.cls.length=n6) (h7:r.trs.length=n7)
  (e1:Ob.bx (fx 1) none [.buf 2 r.now.length,.buf 3 r.oth.length,.d (i64 r.size),.buf 4 r.beg.length]=o1)
  (e2:Ob.buf true 58 1 (w64s r.now)=o2) (e3:Ob.buf true 58 1 (w64s r.oth)=o3) (e4:Ob.buf true 4 1 (bls r.beg)=o4)
  (e5:Ob.buf true 58 1 (w64s r.stk)=o5) (e6:Ob.buf true 60 3 (r.cls.map enCl)=o6) (e7:Ob.buf true 114 5 (r.trs.map enTy)=o7) (e8:Ob.buf true 9 1 (r.out.map str)=o8) (ht:Pre t q) :
  Pre (MA fx m r++t) η:=by
 subst e;subst h5 h6 h7
 exact zAN rfl e0 (zAN rfl e1 (zAN rfl e2 (zAN rfl e3 (zAN rfl e4 (zAN rfl e5 (zAN rfl e6 (zAN rfl e7 (zAN rfl e8 ht))))))))
theorem zM7{η:List Ob}{o o1 o2 o':Ob}{q:List Ob}(e:η=o1::o2::o'::q)(w:o=o'): Pre [.gone,.gone,o] η:=by
 subst e;subst w;exact⟨fun _ _ _ _=>trivial,fun _ _ _ _=>trivial,fun _ _ _ h=>h,trivial⟩
theorem cp_row(new:List Nat){k:Nat}(h:k<=new.length){l:List Nat}(hk:l.length=k): Ob.buf true 58 1 (w64s (new.take k))=Ob.buf true 58 1 ((w64s new).take (w64s l).length++(w64s l).drop (w64s new).length):=by
 congr 1
 rw[zAm,zAm,hk,List.drop_eq_nil_of_le (by rw[zAm];omega),qBC,zJH]
attribute [local irreducible] zAO Program.underlying Ylds zBE alex zB0 zBk awp zAg zB9 zB8 zAU zBj zA6 zDJ zBl zBn zBC zBq zBz zB7 zDQ zBm zBc zBe
theorem zW4(m:Img)(r r':Raw)(n:Int)(b:Bool){now oth:List Nat}{beg:List Bool}{new:List Nat}(hs:0<=r.size/\r.size<=1048576)(hn:r.now.length<=1048576)(hn2:now.length<=1048576)(h:¬n<=r.size-(r.now.length:Int))(hl:r.stk.length<=200000/\r.cls.length<=200000/\r.trs.length<=200000)
  (hC:zAU prog 130 [.ptr 0 0,.buf 4 (rtsR r).length] (HO r.size r.now r.oth r.beg++[rowW (rtsR r)]) (.buf 6 (rtsR r).length) (HO r.size now oth beg++[rowW (rtsR r),Ob.gone,rowW new])) (hnew:new.length=(rtsR r).length)
  (hr':(n<=r.size-(now.length:Int)/\b=true/\r'=gcR r now oth beg new)\/(¬n<=r.size-(now.length:Int)/\b=false/\r' = { gcR r now oth beg new with fin:=5 })) :
  zAU prog 76 [.ptr 0 0,.d (i64 n)] (MX m r) (.d (bl b)) (MX m r'):=by
 have hL:=zKN r.size r.now r.oth r.beg ⟨hs.1,hs.2,hn⟩
 have hCl:=zVY r.stk (by omega)
 have hge:¬r.size-(r.now.length:Int)>=n:=by omega
 have hrl:(rtsR r).length=r.stk.length+1+r.cls.length+r.trs.length:=by rw[<-zRH,zRG r (qAN _)]
 refine zA7 func76 rfl ntmps76 results76 rfl ?_
 intro wb St0 X fx
 repeat' first|(refine zBT (id:=4) (s:=[(0,.ptr 0 0),(1,.d (i64 n)),(5,.buf 9 r.stk.length)]) (h:=MA fx m r++[rowW r.stk]) (zAS (Le_cons rfl (Le_cons rfl (Le_cons rfl (Le_nil)))) (zKL rfl (zBf rfl)) rfl rfl) ?_)|apply en_n|apply zAG|apply zAA|apply zAD|apply w0|exact zAL rfl|exact zGm rfl rfl|(apply aApp (id:=9) (hd:=rfl) (hro:=rfl);exact rfl;exact rfl;exact zCQ rfl;exact(zAm _).symm;exact rfl;(with_reducible exact zCW);(with_reducible exact zBY);(with_reducible exact zFD);(with_reducible exact zD5);exact zDS rfl)|(refine zV3 [5] zGD hCl (SArgs_all rfl) rfl rfl (by decide) rfl rfl rfl rfl rfl ?_)|(refine zAX [1,2,3,4] [] rfl rfl zFB (hL) rfl (SArgs_all rfl) rfl (by decide) rfl rfl rfl rfl)|apply ay (hd:=rfl)|exact zAF rfl|exact zAB rfl|exact zAz rfl|exact zAp rfl|exact zA3 rfl zGt|exact zAH rfl|(apply zAC;exact rfl;(with_reducible first|exact zC9|exact zBb|exact zCn|exact zAc|exact zDg))|(apply zAE;exact rfl;(with_reducible first|exact zBw|exact zBJ|exact zBU|exact zCG);exact rfl;exact rfl)|(apply zCC;(with_reducible exact zCW);(with_reducible exact zBY);(with_reducible exact zGQ);exact rfl;exact rfl;(first|exact zAY rfl zAM|exact CoL_b rfl rfl rfl zAM|exact CoL_n rfl zAM);exact rfl)|refine zAJ rfl ?_|apply zAK|apply zAR
 all_goals first|omega|(simp only[qAP,qAp];omega)|skip
 clear hL hCl hge
 refine zBV (α:=Nat) (fun j=>j<=r.cls.length) (fun j=>[(0,.ptr 0 0),(1,.d (i64 n)),(5,.buf 9 (rt1 r j).length),(36,.buf 6 r.cls.length),(37,.d (i64 (r.cls.length:Int))),(38,.d (i64 (j:Int)))]) (fun j=>MA fx m r++[rowW (rt1 r j)]) (fun j=>r.cls.length-j) 0 (qAV _)
  (zAS (Le_cons rfl (Le_cons rfl (zPQ rfl (by rw[zZI,qAD];rfl) (Le_all rfl)))) (zKL rfl (zBf (congrArg (Ob.buf true _ 1) (by rw[zZI];exact(zIo r.stk [r.c.fn]).symm)))) rfl rfl) ?_
 intro j hj
 have hrj:=zW0 r hj
 rcases qAQ j r.cls.length with hlt|hge
 ·obtain⟨c,hc⟩:∃c,r.cls[j]?=some c:=⟨_,qAB hlt⟩
  have hld:(r.cls.map enCl)[((j:Nat):Int).toNat]?=some (enCl c):=by rw[qAj];exact zB6 hc
  have hnx:=zT2 hc
  have hjl:(j:Int)<(r.cls.length:Int):=by omega
  clear hC
  skip
  repeat' first|apply en_n|apply zAG|apply zAA|apply zAD|apply w0|(apply zBM;exact rfl;exact rfl;exact rfl;(first|with_reducible exact zBY|with_reducible exact zEa|with_reducible exact zEC);omega;(first|(rw[zAm];omega)|(rw[qAC];omega)))|exact zCf rfl rfl|(refine zDw rfl (by with_reducible exact zCT) rfl hld rfl rfl rfl)|refine zAj rfl rfl rfl zCT rfl rfl rfl rfl ?_|(apply aApp (id:=9) (hd:=rfl) (hro:=rfl);exact rfl;exact rfl;exact zCQ rfl;exact(zAm _).symm;exact rfl;(with_reducible exact zCW);(with_reducible exact zBY);(with_reducible exact zFD);(with_reducible exact zD5);exact zDS rfl)|(apply zDv (hd:=rfl) (hro:=rfl);(with_reducible exact zTT))|apply ay (hd:=rfl)|exact zAF rfl|refine zBG rfl rfl ?_|exact zAz rfl|exact zAp rfl|exact zAC rfl zC9|exact zAE rfl zBU rfl rfl|(apply zCC;(with_reducible exact zCW);(with_reducible exact zBY);(with_reducible exact zGQ);exact rfl;exact rfl;(first|exact zAY rfl zAM|exact CoL_b rfl rfl rfl zAM|exact CoL_n rfl zAM);exact rfl)|(refine w0' ?_)|refine zAI rfl ?_|apply zAK|apply zAR|apply eb_n
  all_goals first|omega|(simp only[qAP,qAp];omega)|skip
  refine⟨j+1,by omega,by omega,?_⟩
  exact zAS (Le_cons rfl (Le_cons rfl (zPQ rfl (by rw[hnx,qAD];rfl) (Le_all rfl)))) (zKL rfl (zBf (congrArg (Ob.buf true _ 1) (by rw[hnx];exact(zIo _ [c.fn]).symm)))) rfl rfl
 have hjl:¬(j:Int)<(r.cls.length:Int):=by omega
 have hje:j=r.cls.length:=by omega
 subst hje
 rw[zW1]
 skip
 repeat' first|apply en_n|apply zAG|apply zAA|apply zAD|apply w0|exact zAL rfl|exact zCY rfl rfl|apply ay (hd:=rfl)|exact zAF rfl|exact zA3 rfl zGs|exact zAH rfl|exact zAC rfl zC8|exact zAE rfl zCD rfl rfl|refine zAJ rfl ?_|apply zAK|apply zBX|apply en_e|apply eb_e
 all_goals first|omega|skip
 clear hrj hjl hge hj
 refine zBV (α:=Nat) (fun j=>j<=r.trs.length) (fun j=>[(0,.ptr 0 0),(1,.d (i64 n)),(5,.buf 9 (rt2 r j).length),(51,.buf 7 r.trs.length),(52,.d (i64 (r.trs.length:Int))),(53,.d (i64 (j:Int)))]) (fun j=>MA fx m r++[rowW (rt2 r j)]) (fun j=>r.trs.length-j) 0 (qAV _)
  (zAS (Le_all rfl) (zKL rfl (zBf rfl)) rfl rfl) ?_
 intro j hj
 have hrj:=zRG r hj
 rcases qAQ j r.trs.length with hlt|hge
 ·obtain⟨c,hc⟩:∃c,r.trs[j]?=some c:=⟨_,qAB hlt⟩
  have hld:(r.trs.map enTy)[((j:Nat):Int).toNat]?=some (enTy c):=by rw[qAj];exact zB6 hc
  have hnx:=zT1 hc
  have hjl:(j:Int)<(r.trs.length:Int):=by omega
  clear hC
  skip
  repeat' first|apply en_n|apply zAG|apply zAA|apply zAD|apply w0|(apply zBM;exact rfl;exact rfl;exact rfl;(first|with_reducible exact zBY|with_reducible exact zEa|with_reducible exact zEC);omega;(first|(rw[zAm];omega)|(rw[qAC];omega)))|exact zCf rfl rfl|(refine zDw rfl (by with_reducible exact zCV) rfl hld rfl rfl rfl)|refine zAj rfl rfl rfl zCV rfl rfl rfl rfl ?_|(apply aApp (id:=9) (hd:=rfl) (hro:=rfl);exact rfl;exact rfl;exact zCQ rfl;exact(zAm _).symm;exact rfl;(with_reducible exact zCW);(with_reducible exact zBY);(with_reducible exact zFD);(with_reducible exact zD5);exact zDS rfl)|(apply zDv (hd:=rfl) (hro:=rfl);(with_reducible exact zIp))|apply ay (hd:=rfl)|exact zAF rfl|refine zBG rfl rfl ?_|exact zAz rfl|exact zAp rfl|(apply zAC;exact rfl;(with_reducible first|exact zC9|exact zFq))|exact zAE rfl zBU rfl rfl|(apply zCC;(with_reducible exact zCW);(with_reducible exact zBY);(with_reducible exact zGQ);exact rfl;exact rfl;(first|exact zAY rfl zAM|exact CoL_b rfl rfl rfl zAM|exact CoL_n rfl zAM);exact rfl)|(refine w0' ?_)|refine zAI rfl ?_|apply zAK|apply zAR|apply eb_n
  all_goals first|omega|(simp only[qAP,qAp];omega)|skip
  refine⟨j+1,by omega,by omega,?_⟩
  exact zAS (Le_cons rfl (Le_cons rfl (zPQ rfl (by rw[hnx,qAD];rfl) (Le_all rfl)))) (zKL rfl (zBf (congrArg (Ob.buf true _ 1) (by rw[hnx];exact(zIo _ [c.c.fn]).symm)))) rfl rfl
 have hjl:¬(j:Int)<(r.trs.length:Int):=by omega
 have hje:j=r.trs.length:=by omega
 subst hje
 rw[zRH]
 have hkn:r.stk.length<=new.length:=by omega
 have l5:(new.take r.stk.length).length=r.stk.length:=by rw[qAK];omega
 have hmin:D.val (.int .i64 (r.stk.length:Int))=D.val (.int .i64 ((min (w64s new).length (w64s r.stk).length:Nat):Int)):=by rw[zAm,zAm,Nat.min_eq_right hkn]
 have hld17:(w64s new)[((r.stk.length:Nat):Int).toNat]?=some (w64 (new.getD r.stk.length 0)):=by
  rw[qAj]
  refine zDe ?_
  rw[qAE,qAB (by omega)];rfl
 have hnl:(w64s new).length=new.length:=zAm new
 clear hjl hge hj hrj
 skip
 repeat' first|(refine zBT (id:=16) (s:=[(0,.ptr 0 0),(1,.d (i64 n)),(5,.buf 11 (rtsR r).length)]) (h:=MA fx m { r with now:=now,oth:=oth,beg:=beg }++[.gone,.gone,rowW new]) (zAS (Le_cons rfl (Le_cons rfl (Le_cons rfl (Le_nil)))) (zYV rfl (zBf rfl)) rfl rfl) ?_)|(refine zBT (id:=17) (s:=[(0,.ptr 0 0),(1,.d (i64 n)),(5,.buf 11 (rtsR r).length),(10,.d (i64 (r.stk.length:Int)))]) (h:=MA fx m { r with now:=now,oth:=oth,beg:=beg,stk:=new.take r.stk.length }++[.gone,.gone,rowW new]) (zAS (Le_cons rfl (Le_cons rfl (Le_cons rfl (Le_d rfl hmin Le_nil)))) (zKK rfl rfl l5 rfl rfl rfl rfl rfl rfl (cp_row new hkn rfl) rfl rfl rfl (zM7 rfl rfl)) rfl rfl) ?_)|apply en_n|apply zAG|apply zAA|apply zAD|apply w0|exact zAL rfl|(apply zBM;exact rfl;exact rfl;exact rfl;(first|with_reducible exact zBY|with_reducible exact zEa|with_reducible exact zEC);omega;(first|(rw[zAm];omega)|(rw[qAC];omega)))|exact zCY rfl rfl|(refine zPH [1,2,3,4,9] zLY hC (SArgs_all rfl) rfl rfl (by decide) rfl rfl rfl rfl rfl rfl ?_)|(refine zV4 (sz:=1) (ys:=w64s new) rfl rfl (zAm _).symm rfl rfl (by rw[zAm,hnew,qAU];exact qAN _) (by rw[List.drop_zero,qAi (by rw[zAm,hnew];exact qAN _)]) (by with_reducible exact zBY) (zHN _) rfl rfl ?_)|exact zCR rfl zBU rfl hld17 rfl|apply ay (hd:=rfl)|exact zAF rfl|exact zAB rfl|refine zBG rfl rfl ?_|exact zAz rfl|exact zAp rfl|exact zA3 rfl zGt|exact zAH rfl|(apply zAC;exact rfl;(with_reducible first|exact zC9|exact zBb|exact zCn|exact zAc|exact zDg))|(apply zAE;exact rfl;(with_reducible first|exact zBw|exact zBJ|exact zCG);exact rfl;exact rfl)|(refine w0' ?_)|refine zAj rfl rfl rfl zBU rfl rfl rfl rfl ?_|refine zAJ rfl ?_|apply zAK|apply zBX|apply en_e|apply eb_e
 all_goals first|omega|skip
 clear hld17 hmin hC
 refine zBV (α:=Nat) (fun j=>j<=r.cls.length) (fun j=>[(0,.ptr 0 0),(1,.d (i64 n)),(5,.buf 11 (rtsR r).length),(10,.d (i64 ((r.stk.length:Int)+1+(j:Int)))),(90,.d (i64 (r.cls.length:Int))),(91,.d (i64 (j:Int)))]) (fun j=>MA fx m { r with now:=now,oth:=oth,beg:=beg,stk:=new.take r.stk.length,c:={ r.c with fn:=new.getD r.stk.length 0 },cls:=mixC r.cls (new.drop (r.stk.length+1)) j }++[.gone,.gone,rowW new]) (fun j=>r.cls.length-j) 0 (qAV _) ?_ ?_
 ·show Fits _ (MA fx m { r with now:=now,oth:=oth,beg:=beg,stk:=new.take r.stk.length,c:={ r.c with fn:=new.getD r.stk.length 0 },cls:=mixC r.cls (new.drop (r.stk.length+1)) 0 }++[.gone,.gone,rowW new]) _ _
  rw[zZZ]
  exact zAS (Le_cons rfl (Le_cons rfl (Le_cons rfl (Le_d rfl (congrArg (fun x=>D.val (.int .i64 x)) (Int.add_zero _)) (Le_all rfl))))) (zKK rfl rfl rfl rfl rfl rfl rfl rfl rfl rfl rfl rfl rfl (zM7 rfl rfl)) rfl rfl
 intro j hj
 have hml:=zOj r.cls (new.drop (r.stk.length+1)) j (by rw[qAb];omega)
 rcases qAQ j r.cls.length with hlt|hge
 ·obtain⟨c,hc⟩:∃c,r.cls[j]?=some c:=⟨_,qAB hlt⟩
  obtain⟨f,hf⟩:∃f,(new.drop (r.stk.length+1))[j]?=some f:=⟨_,qAB (by rw[qAb];omega)⟩
  have hwl:r.cls.length<=(new.drop (r.stk.length+1)).length:=by rw[qAb];omega
  have hml2:=zOj r.cls (new.drop (r.stk.length+1)) (j+1) hwl
  have hmc:((mixC r.cls (new.drop (r.stk.length+1)) j).map enCl)[((j:Nat):Int).toNat]?=some (enCl c):=by rw[qAj];exact zB6 (zXV hc hwl)
  have hset:=zUi hc hf hwl
  have hld:(w64s new)[((r.stk.length:Int)+1+(j:Int)).toNat]?=some (w64 f):=by
   rw[show ((r.stk.length:Int)+1+(j:Int)).toNat=r.stk.length+1+j by omega]
   rw[qAh]at hf
   exact zDe hf
  have hjl:(j:Int)<(r.cls.length:Int):=by omega
  have hnl:(w64s new).length=new.length:=zAm new
  skip
  repeat' first|apply en_n|apply zAG|apply zAA|apply zAD|apply w0|(refine zDM rfl (by first|with_reducible exact zC9|with_reducible exact zFq))|(refine zBM (m:=(mixC r.cls (new.drop (r.stk.length+1)) j).length) rfl rfl rfl (by with_reducible exact zEa) (by omega) (by rw[qAC];exact qAN _))|exact zAL rfl|(apply zBM;exact rfl;exact rfl;exact rfl;(first|with_reducible exact zBY|with_reducible exact zEa|with_reducible exact zEC);omega;(first|(rw[zAm];omega)|(rw[qAC];omega)))|exact zCf rfl rfl|exact zCR rfl zBU rfl hld rfl|(refine zBs (by kernel_rfl) ?_;refine zPG rfl rfl rfl zBU rfl rfl hmc rfl rfl ?_)|apply ay (hd:=rfl)|exact zAF rfl|exact zAB rfl|refine zBG rfl rfl ?_|exact zAz rfl|exact zAH rfl|exact zAC rfl zDg|exact zAE rfl zCG rfl rfl|(refine w0' ?_)|refine zAI rfl ?_|apply zAK|apply zAR|refine zAf (by kernel_rfl) (by kernel_rfl) ?_|apply eb_n
  all_goals first|omega|skip
  refine⟨j+1,by omega,by omega,?_⟩
  exact zAS (Le_cons rfl (Le_cons rfl (Le_cons rfl (Le_d rfl (congrArg (fun x=>D.val (.int .i64 x)) (by omega)) (Le_all rfl))))) (zKK rfl rfl rfl (hml2.trans hml.symm) rfl rfl rfl rfl rfl rfl (congrArg (Ob.buf true _ 3) hset.symm) rfl rfl (zM7 rfl rfl)) rfl rfl
 have hjl:¬(j:Int)<(r.cls.length:Int):=by omega
 have hje:j=r.cls.length:=by omega
 subst hje
 rw[zUj]at hml ⊢
 skip
 repeat' first|apply en_n|apply zAG|apply zAA|apply zAD|apply w0|exact zAL rfl|exact zCY rfl rfl|apply ay (hd:=rfl)|exact zAF rfl|exact zA3 rfl zGs|exact zAH rfl|exact zAC rfl zC8|exact zAE rfl zCD rfl rfl|refine zAJ rfl ?_|apply zAK|apply zBX|apply en_e|apply eb_e
 all_goals first|omega|skip
 clear hjl hge hj
 refine zBV (α:=Nat) (fun j=>j<=r.trs.length) (fun j=>[(0,.ptr 0 0),(1,.d (i64 n)),(5,.buf 11 (rtsR r).length),(10,.d (i64 ((r.stk.length:Int)+1+(r.cls.length:Int)+(j:Int)))),(112,.d (i64 (r.trs.length:Int))),(113,.d (i64 (j:Int)))]) (fun j=>MA fx m { r with now:=now,oth:=oth,beg:=beg,stk:=new.take r.stk.length,c:={ r.c with fn:=new.getD r.stk.length 0 },cls:=setC r.cls (new.drop (r.stk.length+1)),trs:=mixT r.trs (new.drop (r.stk.length+1+r.cls.length)) j }++[.gone,.gone,rowW new]) (fun j=>r.trs.length-j) 0 (qAV _) ?_ ?_
 ·show Fits _ (MA fx m { r with now:=now,oth:=oth,beg:=beg,stk:=new.take r.stk.length,c:={ r.c with fn:=new.getD r.stk.length 0 },cls:=setC r.cls (new.drop (r.stk.length+1)),trs:=mixT r.trs (new.drop (r.stk.length+1+r.cls.length)) 0 }++[.gone,.gone,rowW new]) _ _
  rw[zZY]
  exact zAS (Le_cons rfl (Le_cons rfl (Le_cons rfl (Le_d rfl (congrArg (fun x=>D.val (.int .i64 x)) (Int.add_zero _)) (Le_all rfl))))) (zKK rfl rfl rfl rfl rfl rfl rfl rfl rfl rfl rfl rfl rfl (zM7 rfl rfl)) rfl rfl
 intro j hj
 have hmt:=zOi r.trs (new.drop (r.stk.length+1+r.cls.length)) j (by rw[qAb];omega)
 rcases qAQ j r.trs.length with hlt|hge
 ·obtain⟨c,hc⟩:∃c,r.trs[j]?=some c:=⟨_,qAB hlt⟩
  obtain⟨f,hf⟩:∃f,(new.drop (r.stk.length+1+r.cls.length))[j]?=some f:=⟨_,qAB (by rw[qAb];omega)⟩
  have hwl:r.trs.length<=(new.drop (r.stk.length+1+r.cls.length)).length:=by rw[qAb];omega
  have hml2:=zOi r.trs (new.drop (r.stk.length+1+r.cls.length)) (j+1) hwl
  have hmc:((mixT r.trs (new.drop (r.stk.length+1+r.cls.length)) j).map enTy)[((j:Nat):Int).toNat]?=some (enTy c):=by rw[qAj];exact zB6 (zXU hc hwl)
  have hset:=zUg hc hf hwl
  have hld:(w64s new)[((r.stk.length:Int)+1+(r.cls.length:Int)+(j:Int)).toNat]?=some (w64 f):=by
   rw[show ((r.stk.length:Int)+1+(r.cls.length:Int)+(j:Int)).toNat=r.stk.length+1+r.cls.length+j by omega]
   rw[qAh]at hf
   exact zDe hf
  have hjl:(j:Int)<(r.trs.length:Int):=by omega
  have hnl:(w64s new).length=new.length:=zAm new
  skip
  repeat' first|apply en_n|apply zAG|apply zAA|apply zAD|apply w0|(refine zDM rfl (by first|with_reducible exact zC9|with_reducible exact zFq))|(refine zBM (m:=(mixT r.trs (new.drop (r.stk.length+1+r.cls.length)) j).length) rfl rfl rfl (by with_reducible exact zEC) (by omega) (by rw[qAC];exact qAN _))|exact zAL rfl|(apply zBM;exact rfl;exact rfl;exact rfl;(first|with_reducible exact zBY|with_reducible exact zEa|with_reducible exact zEC);omega;(first|(rw[zAm];omega)|(rw[qAC];omega)))|exact zCf rfl rfl|exact zCR rfl zBU rfl hld rfl|(refine zBs (by kernel_rfl) ?_;refine zPG rfl rfl rfl zBU rfl rfl hmc rfl rfl ?_)|apply ay (hd:=rfl)|exact zAF rfl|exact zAB rfl|refine zBG rfl rfl ?_|exact zAz rfl|exact zAH rfl|exact zAC rfl zC8|exact zAE rfl zCD rfl rfl|(refine w0' ?_)|refine zAI rfl ?_|apply zAK|apply zAR|refine zAf (by kernel_rfl) (by kernel_rfl) ?_|apply eb_n
  all_goals first|omega|skip
  refine⟨j+1,by omega,by omega,?_⟩
  exact zAS (Le_cons rfl (Le_cons rfl (Le_cons rfl (Le_d rfl (congrArg (fun x=>D.val (.int .i64 x)) (by omega)) (Le_all rfl))))) (zKK rfl rfl rfl rfl (hml2.trans hmt.symm) rfl rfl rfl rfl rfl rfl (congrArg (Ob.buf true _ 5) hset.symm) rfl (zM7 rfl rfl)) rfl rfl
 have hjl:¬(j:Int)<(r.trs.length:Int):=by omega
 have hje:j=r.trs.length:=by omega
 subst hje
 rw[zUh]at hmt ⊢
 have hL2:=zKN r.size now oth beg ⟨hs.1,hs.2,hn2⟩
 refine zCI (s:=[(0,.ptr 0 0),(1,.d (i64 n)),(112,.d (i64 (r.trs.length:Int))),(113,.d (i64 (r.trs.length:Int)))]) (h:=MA fx m (gcR r now oth beg new)) (zAS (Le_all rfl) (zEp rfl rfl rfl rfl rfl rfl rfl rfl rfl rfl rfl rfl (zBf rfl) (zBf rfl) (zBf rfl) rfl) rfl rfl) ?_
 rcases hr' with⟨q1,rfl,rfl⟩|⟨q1,rfl,rfl⟩
 ·have q2:¬r.size-(now.length:Int)<n:=by omega
  skip
  repeat' first|apply en_n|apply zAG|apply zAA|apply zAD|apply w0|exact zAL rfl|exact zCY rfl rfl|(refine zAX [1,2,3,4] [] rfl rfl zFB (hL2) rfl (SArgs_all rfl) rfl (by decide) rfl rfl rfl rfl)|apply ay (hd:=rfl)|exact zAF rfl|exact zAB rfl|exact zAH rfl|exact zAC rfl zBb|exact zAE rfl zBw rfl rfl|refine zAJ rfl ?_|apply zAR|apply zAQ|apply zBX|apply en_e|apply eb_e
  all_goals first|omega|skip
  all_goals exact zHx rfl rfl rfl
 ·have q2:r.size-(now.length:Int)<n:=by omega
  have hS:=zEx m (gcR r now oth beg new) 5
  skip
  repeat' first|apply en_n|apply zAG|apply zAA|apply zAD|apply w0|exact zAL rfl|exact zCf rfl rfl|exact zCY rfl rfl|(refine zAX [1,2,3,4] [] rfl rfl zFB (hL2) rfl (SArgs_all rfl) rfl (by decide) rfl rfl rfl rfl)|(refine aVM zDL (hS) (SArgs_all rfl) rfl rfl ?_)|apply ay (hd:=rfl)|exact zAF rfl|exact zAB rfl|exact zAH rfl|exact zAC rfl zBb|exact zAE rfl zBw rfl rfl|refine zAI rfl ?_|refine zAJ rfl ?_|apply zAQ|apply zBX|apply en_r|apply en_e|apply eb_e
  all_goals first|omega|skip
  all_goals exact zHx rfl rfl rfl
end Go.Proofs.YtcagoomibpcdlaaGreatDoor

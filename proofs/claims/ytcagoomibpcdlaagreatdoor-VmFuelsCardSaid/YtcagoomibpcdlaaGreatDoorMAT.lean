/- Texts of this claim, merged: VmBH. -/
import Derived.Test.YtcagoomibpcdlaaGreatDoorMAS
namespace Go.Proofs.YtcagoomibpcdlaaGreatDoor
open Go.Sx Go.Vm
def rt1(r:Raw)(j:Nat): List Nat:=r.stk++[r.c.fn]++(r.cls.take j).map (·.fn)
def rt2(r:Raw)(j:Nat): List Nat:=r.stk++[r.c.fn]++r.cls.map (·.fn)++(r.trs.take j).map (·.c.fn)
theorem zXl(r:Raw): rt1 r 0=r.stk++[r.c.fn]:=by simp[rt1]
theorem zSe{r:Raw}{j:Nat}{c:RCl}(h:r.cls[j]?=some c): rt1 r (j+1)=rt1 r j++[c.fn]:=by
 unfold rt1;rw[List.take_add_one,h,List.map_append,←List.append_assoc];rfl
theorem zVV(r:Raw): rt1 r r.cls.length=rt2 r 0:=by simp[rt1,rt2]
theorem zSd{r:Raw}{j:Nat}{c:RTy}(h:r.trs[j]?=some c): rt2 r (j+1)=rt2 r j++[c.c.fn]:=by
 unfold rt2;rw[List.take_add_one,h,List.map_append,←List.append_assoc];rfl
theorem zPy(r:Raw): rt2 r r.trs.length=rtsR r:=by simp[rt2,rtsR]
theorem zVU(r:Raw){j:Nat}(h:j≤r.cls.length): (rt1 r j).length=r.stk.length+1+j:=by simp only[rt1,List.length_append,List.length_map,List.length_take,List.length_cons,List.length_nil];omega
theorem zPx(r:Raw){j:Nat}(h:j≤r.trs.length): (rt2 r j).length=r.stk.length+1+r.cls.length+j:=by simp only[rt2,List.length_append,List.length_map,List.length_take,List.length_cons,List.length_nil];omega
abbrev rowW(l:List Nat): Ob:=.buf true 58 1 (w64s l)
theorem zWv{fx:Nat→Option Nat}{m:Img}{r:Raw}{o:Ob}{η:List Ob}{o1 o2 o':Ob}{q:List Ob}(e:η=MA fx m r++o1::o2::o'::q)(w:WOb o o'): Pre (MA fx m r++[.gone,.gone,o]) η:=by
 subst e
 have:∀l:List Ob,Pre (l++[.gone,.gone,o]) (l++o1::o2::o'::q):=fun l=>by
  induction l with
  |nil=>exact⟨fun _ _ _ _=>trivial,fun _ _ _ _=>trivial,w,trivial⟩
  |cons a t ih=>exact⟨fun _ _ _ h=>h,ih⟩
 exact this _
theorem zJZ{fx:Nat→Option Nat}{m:Img}{r:Raw}{η:List Ob}{o0 o1 o2 o3 o4 o5 o6 o7 o8:Ob}{q t:List Ob}{n5 n6 n7:Nat}(e:η=o0::o1::o2::o3::o4::o5::o6::o7::o8::q)
  (e0:Ob.bx (fx 0) none [.d (.slice (m.pool.map enCn)),.d (.slice (m.code.map enIn)),.ptr 1 0,.buf 5 n5,.d (i64 r.c.at_),.d (i64 r.c.base),.d (w64 r.c.fn),.buf 6 n6,.buf 7 n7,.d (i64 r.fin),.nil,.d (i64 r.num),.buf 8 r.out.length,.d (i64 r.steps)]=o0)
  (h5:r.stk.length=n5) (h6:r.cls.length=n6) (h7:r.trs.length=n7)
  (e1:Ob.bx (fx 1) none [.buf 2 r.now.length,.buf 3 r.oth.length,.d (i64 r.size),.buf 4 r.beg.length]=o1)
  (e2:Ob.buf true 58 1 (w64s r.now)=o2) (e3:Ob.buf true 58 1 (w64s r.oth)=o3) (e4:Ob.buf true 4 1 (bls r.beg)=o4)
  (e5:Ob.buf true 58 1 (w64s r.stk)=o5) (e6:Ob.buf true 60 3 (r.cls.map enCl)=o6) (e7:Ob.buf true 114 5 (r.trs.map enTy)=o7) (e8:Ob.buf true 9 1 (r.out.map str)=o8) (ht:Pre t q) :
  Pre (MA fx m r++t) η:=by
 subst e;subst h5 h6 h7
 exact zAP rfl e0 (zAP rfl e1 (zAP rfl e2 (zAP rfl e3 (zAP rfl e4 (zAP rfl e5 (zAP rfl e6 (zAP rfl e7 (zAP rfl e8 ht))))))))
theorem zL6{η:List Ob}{o o1 o2 o':Ob}{q:List Ob}(e:η=o1::o2::o'::q)(w:o=o'): Pre [.gone,.gone,o] η:=by
 subst e;subst w;exact⟨fun _ _ _ _=>trivial,fun _ _ _ _=>trivial,fun _ _ _ h=>h,trivial⟩
theorem cp_row(new:List Nat){k:Nat}(h:k≤new.length){l:List Nat}(hk:l.length=k): Ob.buf true 58 1 (w64s (new.take k))=Ob.buf true 58 1 ((w64s new).take (w64s l).length++(w64s l).drop (w64s new).length):=by
 congr 1
 rw[zAk,zAk,hk,List.drop_eq_nil_of_le (by rw[zAk];omega),List.append_nil,zIi]
attribute [local irreducible] zAQ Program.underlying Ylds zBD alex zCA zBi awp zAp zCI zCH zAW zBw zA5 zD4 zB0 zBp zBF zBv zB9 zCE zES zBn zBm zBs
set_option maxHeartbeats 16000000 in
theorem zVY(m:Img)(r r':Raw)(n:Int)(b:Bool){now oth:List Nat}{beg:List Bool}{new:List Nat}(hs:0≤r.size∧r.size≤1048576)(hn:r.now.length≤1048576)(hn2:now.length≤1048576)(h:¬n≤r.size-(r.now.length:Int))(hl:r.stk.length≤200000∧r.cls.length≤200000∧r.trs.length≤200000)
  (hC:zAW Tryz.prog 130 [.ptr 0 0,.buf 4 (rtsR r).length] (HO r.size r.now r.oth r.beg++[rowW (rtsR r)]) (.buf 6 (rtsR r).length) (HO r.size now oth beg++[rowW (rtsR r),Ob.gone,rowW new])) (hnew:new.length=(rtsR r).length)
  (hr':(n≤r.size-(now.length:Int)∧b=true∧r'=gcR r now oth beg new)∨(¬n≤r.size-(now.length:Int)∧b=false∧r' = { gcR r now oth beg new with fin:=5 })) :
  zAW Tryz.prog 76 [.ptr 0 0,.d (i64 n)] (MX m r) (.d (bl b)) (MX m r'):=by
 have hL:=zJc r.size r.now r.oth r.beg ⟨hs.1,hs.2,hn⟩
 have hCl:=zUA r.stk (by omega)
 have hge:¬r.size-(r.now.length:Int)≥n:=by omega
 have hrl:(rtsR r).length=r.stk.length+1+r.cls.length+r.trs.length:=by rw[←zPy,zPx r (Nat.le_refl _)]
 refine zAy Tryz.func76 rfl Tryz.ntmps76 Tryz.results76 rfl ?_
 intro wb St0 X fx
 repeat' first|(refine zBP (id:=4) (s:=[(0,.ptr 0 0),(1,.d (i64 n)),(5,.buf 9 r.stk.length)]) (h:=MA fx m r++[rowW r.stk]) (zAV (zAI rfl (zAI rfl (zAI rfl (zAd)))) (zJa rfl (zBW rfl)) rfl rfl) ?_)|apply en_n|apply zAK|apply zAA|apply zAF|apply w0|exact zAN rfl|(apply zH8;exact rfl;exact rfl;first|assumption|omega)|(apply aApp (id:=9) (hd:=rfl) (hro:=rfl);exact rfl;exact rfl;exact zCw rfl;exact(zAk _).symm;exact rfl;(with_reducible exact zCT);(with_reducible exact zBS);(with_reducible exact zEr);(with_reducible exact zDm);exact zDv rfl)|(refine zUd [5] zFq hCl ?_ rfl rfl (by decide) rfl rfl rfl rfl rfl ?_;(repeat (refine zAB rfl ?_));exact zAE)|(refine zAZ [1,2,3,4] [] rfl rfl zEo (hL) rfl ?_ rfl (by decide) rfl rfl rfl rfl;(repeat (refine zAB rfl ?_));exact zAE)|apply ay (hd:=rfl)|exact zAJ rfl|exact zAD rfl|exact zBR rfl|exact zAz rfl|(apply zA4;exact rfl;(with_reducible exact zGU))|exact zAH rfl|(apply zAC;exact rfl;(with_reducible first|exact zC1|exact zBV|exact zCh|exact zAb|exact zDT))|(apply zAG;exact rfl;(with_reducible first|exact zBg|exact zBC|exact zBQ|exact zB5);exact rfl;exact rfl)|(apply zCG;(with_reducible exact zCT);(with_reducible exact zBS);(with_reducible exact zF0);exact rfl;exact rfl;(first|exact zAa rfl zAR|exact CoL_b rfl rfl rfl zAR|exact CoL_n rfl zAR);exact rfl)|(apply zAM;exact rfl)|apply zAO|apply zAU
 all_goals first|omega|(simp only[List.length_cons,List.length_nil];omega)|skip
 clear hL hCl hge
 refine zBo (α:=Nat) (fun j=>j≤r.cls.length) (fun j=>[(0,.ptr 0 0),(1,.d (i64 n)),(5,.buf 9 (rt1 r j).length),(36,.buf 6 r.cls.length),(37,.d (i64 (r.cls.length:Int))),(38,.d (i64 (j:Int)))]) (fun j=>MA fx m r++[rowW (rt1 r j)]) (fun j=>r.cls.length-j) 0 (Nat.zero_le _)
  (zAV (zAI rfl (zAI rfl (zOH rfl (by rw[zXl,List.length_append];rfl) (zAI rfl (zAI rfl (zAI rfl zAd)))))) (zJa rfl (zBW (congrArg (Ob.buf true _ 1) (by rw[zXl];exact(zIG r.stk [r.c.fn]).symm)))) rfl rfl) ?_
 intro j hj
 have hrj:=zVU r hj
 rcases Nat.lt_or_ge j r.cls.length with hlt|hge
 ·obtain⟨c,hc⟩:∃c,r.cls[j]?=some c:=⟨_,List.getElem?_eq_getElem hlt⟩
  have hld:(r.cls.map enCl)[((j:Nat):Int).toNat]?=some (enCl c):=by rw[Int.toNat_natCast];exact zBx hc
  have hnx:=zSe hc
  have hjl:(j:Int)<(r.cls.length:Int):=by omega
  clear hC
  skip
  repeat' first|apply en_n|apply zAK|apply zAA|apply zAF|apply w0|(apply zBY;exact rfl;exact rfl;exact rfl;(first|with_reducible exact zBS|with_reducible exact zEI|with_reducible exact zDu);omega;(first|(rw[zAk];omega)|(rw[List.length_map];omega)))|(apply zC9;exact rfl;exact rfl;first|assumption|omega)|(refine zFc rfl (by with_reducible exact zCP) rfl hld rfl rfl rfl)|(apply zAl;exact rfl;exact rfl;exact rfl;(with_reducible exact zCP);exact rfl;exact rfl;exact rfl;exact rfl)|(apply aApp (id:=9) (hd:=rfl) (hro:=rfl);exact rfl;exact rfl;exact zCw rfl;exact(zAk _).symm;exact rfl;(with_reducible exact zCT);(with_reducible exact zBS);(with_reducible exact zEr);(with_reducible exact zDm);exact zDv rfl)|(apply zDs (hd:=rfl) (hro:=rfl);(with_reducible exact zR4))|apply ay (hd:=rfl)|exact zAJ rfl|(apply zBL;exact rfl;exact rfl)|exact zBR rfl|exact zAz rfl|(apply zAC;exact rfl;(with_reducible exact zC1))|(apply zAG;exact rfl;(with_reducible exact zBQ);exact rfl;exact rfl)|(apply zCG;(with_reducible exact zCT);(with_reducible exact zBS);(with_reducible exact zF0);exact rfl;exact rfl;(first|exact zAa rfl zAR|exact CoL_b rfl rfl rfl zAR|exact CoL_n rfl zAR);exact rfl)|(refine w0' ?_)|(apply zAL;exact rfl)|apply zAO|apply zAU|apply eb_n
  all_goals first|omega|(simp only[List.length_cons,List.length_nil];omega)|skip
  refine⟨j+1,by omega,by omega,?_⟩
  exact zAV (zAI rfl (zAI rfl (zOH rfl (by rw[hnx,List.length_append];rfl) (zAI rfl (zAI rfl (zAI rfl zAd)))))) (zJa rfl (zBW (congrArg (Ob.buf true _ 1) (by rw[hnx];exact(zIG _ [c.fn]).symm)))) rfl rfl
 have hjl:¬(j:Int)<(r.cls.length:Int):=by omega
 have hje:j=r.cls.length:=by omega
 subst hje
 rw[zVV]
 skip
 repeat' first|apply en_n|apply zAK|apply zAA|apply zAF|apply w0|exact zAN rfl|(apply zCk;exact rfl;exact rfl;first|assumption|omega)|apply ay (hd:=rfl)|exact zAJ rfl|(apply zA4;exact rfl;(with_reducible exact zGT))|exact zAH rfl|(apply zAC;exact rfl;(with_reducible exact zC0))|(apply zAG;exact rfl;(with_reducible exact zB1);exact rfl;exact rfl)|(apply zAM;exact rfl)|apply zAO|apply zBu|apply en_e|apply eb_e
 all_goals first|omega|skip
 clear hrj hjl hge hj
 refine zBo (α:=Nat) (fun j=>j≤r.trs.length) (fun j=>[(0,.ptr 0 0),(1,.d (i64 n)),(5,.buf 9 (rt2 r j).length),(51,.buf 7 r.trs.length),(52,.d (i64 (r.trs.length:Int))),(53,.d (i64 (j:Int)))]) (fun j=>MA fx m r++[rowW (rt2 r j)]) (fun j=>r.trs.length-j) 0 (Nat.zero_le _)
  (zAV (zAI rfl (zAI rfl (zAI rfl (zAI rfl (zAI rfl (zAI rfl zAd)))))) (zJa rfl (zBW rfl)) rfl rfl) ?_
 intro j hj
 have hrj:=zPx r hj
 rcases Nat.lt_or_ge j r.trs.length with hlt|hge
 ·obtain⟨c,hc⟩:∃c,r.trs[j]?=some c:=⟨_,List.getElem?_eq_getElem hlt⟩
  have hld:(r.trs.map enTy)[((j:Nat):Int).toNat]?=some (enTy c):=by rw[Int.toNat_natCast];exact zBx hc
  have hnx:=zSd hc
  have hjl:(j:Int)<(r.trs.length:Int):=by omega
  clear hC
  skip
  repeat' first|apply en_n|apply zAK|apply zAA|apply zAF|apply w0|(apply zBY;exact rfl;exact rfl;exact rfl;(first|with_reducible exact zBS|with_reducible exact zEI|with_reducible exact zDu);omega;(first|(rw[zAk];omega)|(rw[List.length_map];omega)))|(apply zC9;exact rfl;exact rfl;first|assumption|omega)|(refine zFc rfl (by with_reducible exact zCS) rfl hld rfl rfl rfl)|(apply zAl;exact rfl;exact rfl;exact rfl;(with_reducible exact zCS);exact rfl;exact rfl;exact rfl;exact rfl)|(apply aApp (id:=9) (hd:=rfl) (hro:=rfl);exact rfl;exact rfl;exact zCw rfl;exact(zAk _).symm;exact rfl;(with_reducible exact zCT);(with_reducible exact zBS);(with_reducible exact zEr);(with_reducible exact zDm);exact zDv rfl)|(apply zDs (hd:=rfl) (hro:=rfl);(with_reducible exact zIH))|apply ay (hd:=rfl)|exact zAJ rfl|(apply zBL;exact rfl;exact rfl)|exact zBR rfl|exact zAz rfl|(apply zAC;exact rfl;(with_reducible first|exact zC1|exact zFS))|(apply zAG;exact rfl;(with_reducible exact zBQ);exact rfl;exact rfl)|(apply zCG;(with_reducible exact zCT);(with_reducible exact zBS);(with_reducible exact zF0);exact rfl;exact rfl;(first|exact zAa rfl zAR|exact CoL_b rfl rfl rfl zAR|exact CoL_n rfl zAR);exact rfl)|(refine w0' ?_)|(apply zAL;exact rfl)|apply zAO|apply zAU|apply eb_n
  all_goals first|omega|(simp only[List.length_cons,List.length_nil];omega)|skip
  refine⟨j+1,by omega,by omega,?_⟩
  exact zAV (zAI rfl (zAI rfl (zOH rfl (by rw[hnx,List.length_append];rfl) (zAI rfl (zAI rfl (zAI rfl zAd)))))) (zJa rfl (zBW (congrArg (Ob.buf true _ 1) (by rw[hnx];exact(zIG _ [c.c.fn]).symm)))) rfl rfl
 have hjl:¬(j:Int)<(r.trs.length:Int):=by omega
 have hje:j=r.trs.length:=by omega
 subst hje
 rw[zPy]
 have hkn:r.stk.length≤new.length:=by omega
 have l5:(new.take r.stk.length).length=r.stk.length:=by rw[List.length_take];omega
 have hmin:D.val (.int .i64 (r.stk.length:Int))=D.val (.int .i64 ((min (w64s new).length (w64s r.stk).length:Nat):Int)):=by rw[zAk,zAk,Nat.min_eq_right hkn]
 have hld17:(w64s new)[((r.stk.length:Nat):Int).toNat]?=some (w64 (new.getD r.stk.length 0)):=by
  rw[Int.toNat_natCast]
  refine zDS ?_
  rw[List.getD_eq_getElem?_getD,List.getElem?_eq_getElem (by omega)];rfl
 have hnl:(w64s new).length=new.length:=zAk new
 clear hjl hge hj hrj
 skip
 repeat' first|(refine zBP (id:=16) (s:=[(0,.ptr 0 0),(1,.d (i64 n)),(5,.buf 11 (rtsR r).length)]) (h:=MA fx m { r with now:=now,oth:=oth,beg:=beg }++[.gone,.gone,rowW new]) (zAV (zAI rfl (zAI rfl (zAI rfl (zAd)))) (zWv rfl (zBW rfl)) rfl rfl) ?_)|(refine zBP (id:=17) (s:=[(0,.ptr 0 0),(1,.d (i64 n)),(5,.buf 11 (rtsR r).length),(10,.d (i64 (r.stk.length:Int)))]) (h:=MA fx m { r with now:=now,oth:=oth,beg:=beg,stk:=new.take r.stk.length }++[.gone,.gone,rowW new]) (zAV (zAI rfl (zAI rfl (zAI rfl (Le_d rfl hmin zAd)))) (zJZ rfl rfl l5 rfl rfl rfl rfl rfl rfl (cp_row new hkn rfl) rfl rfl rfl (zL6 rfl rfl)) rfl rfl) ?_)|apply en_n|apply zAK|apply zAA|apply zAF|apply w0|exact zAN rfl|(apply zBY;exact rfl;exact rfl;exact rfl;(first|with_reducible exact zBS|with_reducible exact zEI|with_reducible exact zDu);omega;(first|(rw[zAk];omega)|(rw[List.length_map];omega)))|(apply zCk;exact rfl;exact rfl;first|assumption|omega)|(refine zN6 [1,2,3,4,9] zKi hC ?_ rfl rfl (by decide) rfl rfl rfl rfl rfl rfl ?_;(repeat (refine zAB rfl ?_));exact zAE)|(refine zUe (sz:=1) (ys:=w64s new) rfl rfl (zAk _).symm rfl rfl (by rw[zAk,hnew,Nat.zero_add];exact Nat.le_refl _) (by rw[List.drop_zero,List.take_of_length_le (by rw[zAk,hnew];exact Nat.le_refl _)]) (by with_reducible exact zBS) (zGv _) rfl rfl ?_)|(apply zCg;exact rfl;(with_reducible exact zBQ);exact rfl;exact hld17;exact rfl)|apply ay (hd:=rfl)|exact zAJ rfl|exact zAD rfl|(apply zBL;exact rfl;exact rfl)|exact zBR rfl|exact zAz rfl|(apply zA4;exact rfl;(with_reducible exact zGU))|exact zAH rfl|(apply zAC;exact rfl;(with_reducible first|exact zC1|exact zBV|exact zCh|exact zAb|exact zDT))|(apply zAG;exact rfl;(with_reducible first|exact zBg|exact zBC|exact zB5);exact rfl;exact rfl)|(refine w0' ?_)|(apply zAl;exact rfl;exact rfl;exact rfl;(with_reducible exact zBQ);exact rfl;exact rfl;exact rfl;exact rfl)|(apply zAM;exact rfl)|apply zAO|apply zBu|apply en_e|apply eb_e
 all_goals first|omega|skip
 clear hld17 hmin hC
 refine zBo (α:=Nat) (fun j=>j≤r.cls.length) (fun j=>[(0,.ptr 0 0),(1,.d (i64 n)),(5,.buf 11 (rtsR r).length),(10,.d (i64 ((r.stk.length:Int)+1+(j:Int)))),(90,.d (i64 (r.cls.length:Int))),(91,.d (i64 (j:Int)))]) (fun j=>MA fx m { r with now:=now,oth:=oth,beg:=beg,stk:=new.take r.stk.length,c:={ r.c with fn:=new.getD r.stk.length 0 },cls:=mixC r.cls (new.drop (r.stk.length+1)) j }++[.gone,.gone,rowW new]) (fun j=>r.cls.length-j) 0 (Nat.zero_le _) ?_ ?_
 ·show Fits _ (MA fx m { r with now:=now,oth:=oth,beg:=beg,stk:=new.take r.stk.length,c:={ r.c with fn:=new.getD r.stk.length 0 },cls:=mixC r.cls (new.drop (r.stk.length+1)) 0 }++[.gone,.gone,rowW new]) _ _
  rw[zXy]
  exact zAV (zAI rfl (zAI rfl (zAI rfl (Le_d rfl (congrArg (fun x=>D.val (.int .i64 x)) (Int.add_zero _)) (zAI rfl (zAI rfl zAd)))))) (zJZ rfl rfl rfl rfl rfl rfl rfl rfl rfl rfl rfl rfl rfl (zL6 rfl rfl)) rfl rfl
 intro j hj
 have hml:=zNb r.cls (new.drop (r.stk.length+1)) j (by rw[List.length_drop];omega)
 rcases Nat.lt_or_ge j r.cls.length with hlt|hge
 ·obtain⟨c,hc⟩:∃c,r.cls[j]?=some c:=⟨_,List.getElem?_eq_getElem hlt⟩
  obtain⟨f,hf⟩:∃f,(new.drop (r.stk.length+1))[j]?=some f:=⟨_,List.getElem?_eq_getElem (by rw[List.length_drop];omega)⟩
  have hwl:r.cls.length≤(new.drop (r.stk.length+1)).length:=by rw[List.length_drop];omega
  have hml2:=zNb r.cls (new.drop (r.stk.length+1)) (j+1) hwl
  have hmc:((mixC r.cls (new.drop (r.stk.length+1)) j).map enCl)[((j:Nat):Int).toNat]?=some (enCl c):=by rw[Int.toNat_natCast];exact zBx (zVu hc hwl)
  have hset:=zTG hc hf hwl
  have hld:(w64s new)[((r.stk.length:Int)+1+(j:Int)).toNat]?=some (w64 f):=by
   rw[show ((r.stk.length:Int)+1+(j:Int)).toNat=r.stk.length+1+j by omega]
   rw[List.getElem?_drop]at hf
   exact zDS hf
  have hjl:(j:Int)<(r.cls.length:Int):=by omega
  have hnl:(w64s new).length=new.length:=zAk new
  skip
  repeat' first|apply en_n|apply zAK|apply zAA|apply zAF|apply w0|(refine zGj rfl (by first|with_reducible exact zC1|with_reducible exact zFS))|(refine zBY (m:=(mixC r.cls (new.drop (r.stk.length+1)) j).length) rfl rfl rfl (by with_reducible exact zEI) (by omega) (by rw[List.length_map];exact Nat.le_refl _))|exact zAN rfl|(apply zBY;exact rfl;exact rfl;exact rfl;(first|with_reducible exact zBS|with_reducible exact zEI|with_reducible exact zDu);omega;(first|(rw[zAk];omega)|(rw[List.length_map];omega)))|(apply zC9;exact rfl;exact rfl;first|assumption|omega)|(apply zCg;exact rfl;(with_reducible exact zBQ);exact rfl;exact hld;exact rfl)|(refine zBr (by kernel_rfl) ?_;refine zN5 rfl rfl rfl zBQ rfl rfl hmc rfl rfl ?_)|apply ay (hd:=rfl)|exact zAJ rfl|exact zAD rfl|(apply zBL;exact rfl;exact rfl)|exact zBR rfl|exact zAH rfl|(apply zAC;exact rfl;(with_reducible exact zDT))|(apply zAG;exact rfl;(with_reducible exact zB5);exact rfl;exact rfl)|(refine w0' ?_)|(apply zAL;exact rfl)|apply zAO|apply zAU|refine zAr (by kernel_rfl) (by kernel_rfl) ?_|apply eb_n
  all_goals first|omega|skip
  refine⟨j+1,by omega,by omega,?_⟩
  exact zAV (zAI rfl (zAI rfl (zAI rfl (Le_d rfl (congrArg (fun x=>D.val (.int .i64 x)) (by omega)) (zAI rfl (zAI rfl zAd)))))) (zJZ rfl rfl rfl (hml2.trans hml.symm) rfl rfl rfl rfl rfl rfl (congrArg (Ob.buf true _ 3) hset.symm) rfl rfl (zL6 rfl rfl)) rfl rfl
 have hjl:¬(j:Int)<(r.cls.length:Int):=by omega
 have hje:j=r.cls.length:=by omega
 subst hje
 rw[zTH]at hml ⊢
 skip
 repeat' first|apply en_n|apply zAK|apply zAA|apply zAF|apply w0|exact zAN rfl|(apply zCk;exact rfl;exact rfl;first|assumption|omega)|apply ay (hd:=rfl)|exact zAJ rfl|(apply zA4;exact rfl;(with_reducible exact zGT))|exact zAH rfl|(apply zAC;exact rfl;(with_reducible exact zC0))|(apply zAG;exact rfl;(with_reducible exact zB1);exact rfl;exact rfl)|(apply zAM;exact rfl)|apply zAO|apply zBu|apply en_e|apply eb_e
 all_goals first|omega|skip
 clear hjl hge hj
 refine zBo (α:=Nat) (fun j=>j≤r.trs.length) (fun j=>[(0,.ptr 0 0),(1,.d (i64 n)),(5,.buf 11 (rtsR r).length),(10,.d (i64 ((r.stk.length:Int)+1+(r.cls.length:Int)+(j:Int)))),(112,.d (i64 (r.trs.length:Int))),(113,.d (i64 (j:Int)))]) (fun j=>MA fx m { r with now:=now,oth:=oth,beg:=beg,stk:=new.take r.stk.length,c:={ r.c with fn:=new.getD r.stk.length 0 },cls:=setC r.cls (new.drop (r.stk.length+1)),trs:=mixT r.trs (new.drop (r.stk.length+1+r.cls.length)) j }++[.gone,.gone,rowW new]) (fun j=>r.trs.length-j) 0 (Nat.zero_le _) ?_ ?_
 ·show Fits _ (MA fx m { r with now:=now,oth:=oth,beg:=beg,stk:=new.take r.stk.length,c:={ r.c with fn:=new.getD r.stk.length 0 },cls:=setC r.cls (new.drop (r.stk.length+1)),trs:=mixT r.trs (new.drop (r.stk.length+1+r.cls.length)) 0 }++[.gone,.gone,rowW new]) _ _
  rw[zXx]
  exact zAV (zAI rfl (zAI rfl (zAI rfl (Le_d rfl (congrArg (fun x=>D.val (.int .i64 x)) (Int.add_zero _)) (zAI rfl (zAI rfl zAd)))))) (zJZ rfl rfl rfl rfl rfl rfl rfl rfl rfl rfl rfl rfl rfl (zL6 rfl rfl)) rfl rfl
 intro j hj
 have hmt:=zNa r.trs (new.drop (r.stk.length+1+r.cls.length)) j (by rw[List.length_drop];omega)
 rcases Nat.lt_or_ge j r.trs.length with hlt|hge
 ·obtain⟨c,hc⟩:∃c,r.trs[j]?=some c:=⟨_,List.getElem?_eq_getElem hlt⟩
  obtain⟨f,hf⟩:∃f,(new.drop (r.stk.length+1+r.cls.length))[j]?=some f:=⟨_,List.getElem?_eq_getElem (by rw[List.length_drop];omega)⟩
  have hwl:r.trs.length≤(new.drop (r.stk.length+1+r.cls.length)).length:=by rw[List.length_drop];omega
  have hml2:=zNa r.trs (new.drop (r.stk.length+1+r.cls.length)) (j+1) hwl
  have hmc:((mixT r.trs (new.drop (r.stk.length+1+r.cls.length)) j).map enTy)[((j:Nat):Int).toNat]?=some (enTy c):=by rw[Int.toNat_natCast];exact zBx (zVt hc hwl)
  have hset:=zTE hc hf hwl
  have hld:(w64s new)[((r.stk.length:Int)+1+(r.cls.length:Int)+(j:Int)).toNat]?=some (w64 f):=by
   rw[show ((r.stk.length:Int)+1+(r.cls.length:Int)+(j:Int)).toNat=r.stk.length+1+r.cls.length+j by omega]
   rw[List.getElem?_drop]at hf
   exact zDS hf
  have hjl:(j:Int)<(r.trs.length:Int):=by omega
  have hnl:(w64s new).length=new.length:=zAk new
  skip
  repeat' first|apply en_n|apply zAK|apply zAA|apply zAF|apply w0|(refine zGj rfl (by first|with_reducible exact zC1|with_reducible exact zFS))|(refine zBY (m:=(mixT r.trs (new.drop (r.stk.length+1+r.cls.length)) j).length) rfl rfl rfl (by with_reducible exact zDu) (by omega) (by rw[List.length_map];exact Nat.le_refl _))|exact zAN rfl|(apply zBY;exact rfl;exact rfl;exact rfl;(first|with_reducible exact zBS|with_reducible exact zEI|with_reducible exact zDu);omega;(first|(rw[zAk];omega)|(rw[List.length_map];omega)))|(apply zC9;exact rfl;exact rfl;first|assumption|omega)|(apply zCg;exact rfl;(with_reducible exact zBQ);exact rfl;exact hld;exact rfl)|(refine zBr (by kernel_rfl) ?_;refine zN5 rfl rfl rfl zBQ rfl rfl hmc rfl rfl ?_)|apply ay (hd:=rfl)|exact zAJ rfl|exact zAD rfl|(apply zBL;exact rfl;exact rfl)|exact zBR rfl|exact zAH rfl|(apply zAC;exact rfl;(with_reducible exact zC0))|(apply zAG;exact rfl;(with_reducible exact zB1);exact rfl;exact rfl)|(refine w0' ?_)|(apply zAL;exact rfl)|apply zAO|apply zAU|refine zAr (by kernel_rfl) (by kernel_rfl) ?_|apply eb_n
  all_goals first|omega|skip
  refine⟨j+1,by omega,by omega,?_⟩
  exact zAV (zAI rfl (zAI rfl (zAI rfl (Le_d rfl (congrArg (fun x=>D.val (.int .i64 x)) (by omega)) (zAI rfl (zAI rfl zAd)))))) (zJZ rfl rfl rfl rfl (hml2.trans hmt.symm) rfl rfl rfl rfl rfl rfl (congrArg (Ob.buf true _ 5) hset.symm) rfl (zL6 rfl rfl)) rfl rfl
 have hjl:¬(j:Int)<(r.trs.length:Int):=by omega
 have hje:j=r.trs.length:=by omega
 subst hje
 rw[zTF]at hmt ⊢
 have hL2:=zJc r.size now oth beg ⟨hs.1,hs.2,hn2⟩
 refine zDQ (s:=[(0,.ptr 0 0),(1,.d (i64 n)),(112,.d (i64 (r.trs.length:Int))),(113,.d (i64 (r.trs.length:Int)))]) (h:=MA fx m (gcR r now oth beg new)) (zAV (zAI rfl (zAI rfl (zAI rfl (zAI rfl zAd)))) (zEb rfl rfl rfl rfl rfl rfl rfl rfl rfl rfl rfl rfl (zBW rfl) (zBW rfl) (zBW rfl) rfl) rfl rfl) ?_
 rcases hr' with⟨q1,rfl,rfl⟩|⟨q1,rfl,rfl⟩
 ·have q2:¬r.size-(now.length:Int)<n:=by omega
  skip
  repeat' first|apply en_n|apply zAK|apply zAA|apply zAF|apply w0|exact zAN rfl|(apply zCk;exact rfl;exact rfl;first|assumption|omega)|(refine zAZ [1,2,3,4] [] rfl rfl zEo (hL2) rfl ?_ rfl (by decide) rfl rfl rfl rfl;(repeat (refine zAB rfl ?_));exact zAE)|apply ay (hd:=rfl)|exact zAJ rfl|exact zAD rfl|exact zAH rfl|(apply zAC;exact rfl;(with_reducible exact zBV))|(apply zAG;exact rfl;(with_reducible exact zBg);exact rfl;exact rfl)|(apply zAM;exact rfl)|apply zAU|apply zAT|apply zBu|apply en_e|apply eb_e
  all_goals first|omega|skip
  all_goals exact zHW rfl rfl rfl
 ·have q2:r.size-(now.length:Int)<n:=by omega
  have hS:=zEf m (gcR r now oth beg new) 5
  skip
  repeat' first|apply en_n|apply zAK|apply zAA|apply zAF|apply w0|exact zAN rfl|(apply zC9;exact rfl;exact rfl;first|assumption|omega)|(apply zCk;exact rfl;exact rfl;first|assumption|omega)|(refine zAZ [1,2,3,4] [] rfl rfl zEo (hL2) rfl ?_ rfl (by decide) rfl rfl rfl rfl;(repeat (refine zAB rfl ?_));exact zAE)|(refine aVM zDB (hS) ?_ rfl rfl ?_;(repeat (refine zAB rfl ?_));exact zAE)|apply ay (hd:=rfl)|exact zAJ rfl|exact zAD rfl|exact zAH rfl|(apply zAC;exact rfl;(with_reducible exact zBV))|(apply zAG;exact rfl;(with_reducible exact zBg);exact rfl;exact rfl)|(apply zAL;exact rfl)|(apply zAM;exact rfl)|apply zAT|apply zBu|apply en_r|apply en_e|apply eb_e
  all_goals first|omega|skip
  all_goals exact zHW rfl rfl rfl
end Go.Proofs.YtcagoomibpcdlaaGreatDoor

import Derived.Test.YtcagoomibpcdlaaGreatDoorMAO
set_option maxHeartbeats 16000000
namespace Go.Proofs.YtcagoomibpcdlaaGreatDoor
open _root_.Go.Proofs.Tryz
open Go.Sx Go.Vm
def rt1(r:Raw)(j:Nat): List Nat:=r.stk++[r.c.fn]++(r.cls.take j).map (·.fn)
def rt2(r:Raw)(j:Nat): List Nat:=r.stk++[r.c.fn]++r.cls.map (·.fn)++(r.trs.take j).map (·.c.fn)
theorem zcs(r:Raw): rt1 r 0=r.stk++[r.c.fn]:=by simp[rt1]
theorem zW4{r:Raw}{j:Nat}{c:RCl}(h:r.cls[j]?=some c): rt1 r (j+1)=rt1 r j++[c.fn]:=by
 unfold rt1;rw[qA7,h,qAU,<-qAg];rfl
theorem zaK(r:Raw): rt1 r r.cls.length=rt2 r 0:=by simp[rt1,rt2]
theorem zW3{r:Raw}{j:Nat}{c:RTy}(h:r.trs[j]?=some c): rt2 r (j+1)=rt2 r j++[c.c.fn]:=by
 unfold rt2;rw[qA7,h,qAU,<-qAg];rfl
theorem zTx(r:Raw): rt2 r r.trs.length=rtsR r:=by simp[rt2,rtsR]
theorem zaJ(r:Raw){j:Nat}(h:j<=r.cls.length): (rt1 r j).length=r.stk.length+1+j:=by simp only[rt1,qAE,qAC,qAG,qAN,qAj];omega
theorem zTw(r:Raw){j:Nat}(h:j<=r.trs.length): (rt2 r j).length=r.stk.length+1+r.cls.length+j:=by simp only[rt2,qAE,qAC,qAG,qAN,qAj];omega
abbrev rowW(l:List Nat): Ob:=.buf true 58 1 (w64s l)
theorem zb3{fx:Nat->Option Nat}{m:Img}{r:Raw}{o:Ob}{η:List Ob}{o1 o2 o':Ob}{q:List Ob}(e:η=MA fx m r++o1::o2::o'::q)(w:WOb o o'): Pre (MA fx m r++[.gone,.gone,o]) η:=by
 subst e
 have:∀l:List Ob,Pre (l++[.gone,.gone,o]) (l++o1::o2::o'::q):=fun l=>by
  induction l with
  |nil=>exact⟨fun _ _ _ _=>trivial,fun _ _ _ _=>trivial,w,trivial⟩
  |cons a t ih=>exact⟨fun _ _ _ h=>h,ih⟩
 exact this _
theorem zL1{fx:Nat->Option Nat}{m:Img}{r:Raw}{η:List Ob}{o0 o1 o2 o3 o4 o5 o6 o7 o8:Ob}{q t:List Ob}{n5 n6 n7:Nat}(e:η=o0::o1::o2::o3::o4::o5::o6::o7::o8::q)
  (e0:Ob.bx (fx 0) none [.d (.slice (m.pool.map enCn)),.d (.slice (m.code.map enIn)),.ptr 1 0,.buf 5 n5,.d (i64 r.c.at_),.d (i64 r.c.base),.d (w64 r.c.fn),.buf 6 n6,.buf 7 n7,.d (i64 r.fin),.nil,.d (i64 r.num),.buf 8 r.out.length,.d (i64 r.steps)]=o0)
  (h5:r.stk.length=n5) (h6:r.cls.length=n6) (h7:r.trs.length=n7)
  (e1:Ob.bx (fx 1) none [.buf 2 r.now.length,.buf 3 r.oth.length,.d (i64 r.size),.buf 4 r.beg.length]=o1)
  (e2:Ob.buf true 58 1 (w64s r.now)=o2) (e3:Ob.buf true 58 1 (w64s r.oth)=o3) (e4:Ob.buf true 4 1 (bls r.beg)=o4)
  (e5:Ob.buf true 58 1 (w64s r.stk)=o5) (e6:Ob.buf true 60 3 (r.cls.map enCl)=o6) (e7:Ob.buf true 114 5 (r.trs.map enTy)=o7) (e8:Ob.buf true 9 1 (r.out.map str)=o8) (ht:Pre t q) :
  Pre (MA fx m r++t) η:=by
 subst e;subst h5 h6 h7
 exact zAK rfl e0 (zAK rfl e1 (zAK rfl e2 (zAK rfl e3 (zAK rfl e4 (zAK rfl e5 (zAK rfl e6 (zAK rfl e7 (zAK rfl e8 ht))))))))
theorem zPM{η:List Ob}{o o1 o2 o':Ob}{q:List Ob}(e:η=o1::o2::o'::q)(w:o=o'): Pre [.gone,.gone,o] η:=by
 subst e;subst w;exact⟨fun _ _ _ _=>trivial,fun _ _ _ _=>trivial,fun _ _ _ h=>h,trivial⟩
theorem cp_row(new:List Nat){k:Nat}(h:k<=new.length){l:List Nat}(hk:l.length=k): Ob.buf true 58 1 (w64s (new.take k))=Ob.buf true 58 1 ((w64s new).take (w64s l).length++(w64s l).drop (w64s new).length):=by
 congr 1
 rw[zAq,zAq,hk,List.drop_eq_nil_of_le (by rw[zAq];omega),qBC,zKm]
attribute [local irreducible] zAL Program.underlying Ylds zA2 alex zBZ zBP awp zAb zBh zBg zAW zBF zAp zCO zBG zBR zAr zBV zBY zBe zCQ zBM zA8 zBE
theorem zaN(m:Img)(r r':Raw)(n:Int)(b:Bool){now oth:List Nat}{beg:List Bool}{new:List Nat}(hs:0<=r.size/\r.size<=1048576)(hn:r.now.length<=1048576)(hn2:now.length<=1048576)(h:¬n<=r.size-(r.now.length:Int))(hl:r.stk.length<=200000/\r.cls.length<=200000/\r.trs.length<=200000)
  (hC:zAW prog 130 [.ptr 0 0,.buf 4 (rtsR r).length] (HO r.size r.now r.oth r.beg++[rowW (rtsR r)]) (.buf 6 (rtsR r).length) (HO r.size now oth beg++[rowW (rtsR r),Ob.gone,rowW new])) (hnew:new.length=(rtsR r).length)
  (hr':(n<=r.size-(now.length:Int)/\b=true/\r'=gcR r now oth beg new)\/(¬n<=r.size-(now.length:Int)/\b=false/\r' = { gcR r now oth beg new with fin:=5 })) :
  zAW prog 76 [.ptr 0 0,.d (i64 n)] (MX m r) (.d (bl b)) (MX m r'):=by
 have hL:=zL4 r.size r.now r.oth r.beg ⟨hs.1,hs.2,hn⟩
 have hCl:=zYj r.stk (by omega)
 have hge:¬r.size-(r.now.length:Int)>=n:=by omega
 have hrl:(rtsR r).length=r.stk.length+1+r.cls.length+r.trs.length:=by rw[<-zTx,zTw r (qAP _)]
 refine zBr func76 rfl ntmps76 results76 rfl ?_
 intro wb St0 X fx
 repeat' first|(refine zEk (id:=4) (s:=[(0,.ptr 0 0),(1,.d (i64 n)),(5,.buf 9 r.stk.length)]) (h:=MA fx m r++[rowW r.stk]) (zAU (Le_cons rfl (Le_cons rfl (Le_cons rfl (Le_nil)))) (zL2 rfl (zBs rfl)) rfl rfl) ?_)|apply en_n|apply zAE|apply zAA|apply zAB|apply w0|(apply aApp (id:=9) (hd:=rfl) (hro:=rfl);exact rfl;exact rfl;exact zA0 rfl;exact(zAq _).symm;exact rfl;(with_reducible exact zCh);(with_reducible exact zBk);(with_reducible exact zGE);(with_reducible exact zEm);exact zCu rfl)|(refine zZF [5] zHV hCl (SArgs_all rfl) rfl rfl (by decide) rfl rfl rfl rfl rfl ?_)|exact qcA [1,2,3,4] [] zF9 (hL)|refine ayA rfl ?_|refine ayQ rfl ?_|refine ayL rfl ?_|apply ay (hd:=rfl)|refine zAI rfl ?_|apply zAO|apply zAP
 all_goals first|omega|(simp only[qAN,qAj];omega)|skip
 clear hL hCl hge
 refine zBA (α:=Nat) (fun j=>j<=r.cls.length) (fun j=>[(0,.ptr 0 0),(1,.d (i64 n)),(5,.buf 9 (rt1 r j).length),(36,.buf 6 r.cls.length),(37,.d (i64 (r.cls.length:Int))),(38,.d (i64 (j:Int)))]) (fun j=>MA fx m r++[rowW (rt1 r j)]) (fun j=>r.cls.length-j) 0 (qAQ _)
  (zAU (Le_cons rfl (Le_cons rfl (zRs rfl (by rw[zcs,qAE];rfl) (Le_all rfl)))) (zL2 rfl (zBs (congrArg (Ob.buf true _ 1) (by rw[zcs];exact(zKL r.stk [r.c.fn]).symm)))) rfl rfl) ?_
 intro j hj
 have hrj:=zaJ r hj
 rcases qAR j r.cls.length with hlt|hge
 ·obtain⟨c,hc⟩:∃c,r.cls[j]?=some c:=⟨_,qAB hlt⟩
  have hld:(r.cls.map enCl)[((j:Nat):Int).toNat]?=some (enCl c):=by rw[qAn];exact zGL hc
  have hnx:=zW4 hc
  have hjl:(j:Int)<(r.cls.length:Int):=by omega
  clear hC
  skip
  repeat' first|apply en_n|apply zAE|apply zAA|apply zAB|apply w0|(apply zBQ;exact rfl;exact rfl;exact rfl;(first|with_reducible exact zBk|with_reducible exact zFP|with_reducible exact zEz);omega;(first|(rw[zAq];omega)|(rw[qAC];omega)))|(refine zEf rfl (by with_reducible exact zCc) rfl hld rfl rfl rfl)|refine aStA ?_|(apply aApp (id:=9) (hd:=rfl) (hro:=rfl);exact rfl;exact rfl;exact zA0 rfl;exact(zAq _).symm;exact rfl;(with_reducible exact zCh);(with_reducible exact zBk);(with_reducible exact zGE);(with_reducible exact zEm);exact zCu rfl)|refine aAlA ?_|refine ayA rfl ?_|refine ayQ rfl ?_|refine ayL rfl ?_|apply ay (hd:=rfl)|refine zBp rfl rfl ?_|(refine w0' ?_)|refine zAJ rfl ?_|apply zAO|apply zAP|apply eb_n
  all_goals first|omega|(simp only[qAN,qAj];omega)|skip
  refine⟨j+1,by omega,by omega,?_⟩
  exact zAU (Le_cons rfl (Le_cons rfl (zRs rfl (by rw[hnx,qAE];rfl) (Le_all rfl)))) (zL2 rfl (zBs (congrArg (Ob.buf true _ 1) (by rw[hnx];exact(zKL _ [c.fn]).symm)))) rfl rfl
 have hjl:¬(j:Int)<(r.cls.length:Int):=by omega
 have hje:j=r.cls.length:=by omega
 subst hje
 rw[zaK]
 skip
 repeat' first|apply en_n|apply zAE|apply zAA|apply zAB|apply w0|refine ayA rfl ?_|refine ayQ rfl ?_|refine zAI rfl ?_|apply zAO|apply zBH|apply en_e|apply eb_e
 all_goals first|omega|skip
 clear hrj hjl hge hj
 refine zBA (α:=Nat) (fun j=>j<=r.trs.length) (fun j=>[(0,.ptr 0 0),(1,.d (i64 n)),(5,.buf 9 (rt2 r j).length),(51,.buf 7 r.trs.length),(52,.d (i64 (r.trs.length:Int))),(53,.d (i64 (j:Int)))]) (fun j=>MA fx m r++[rowW (rt2 r j)]) (fun j=>r.trs.length-j) 0 (qAQ _)
  (zAU (Le_all rfl) (zL2 rfl (zBs rfl)) rfl rfl) ?_
 intro j hj
 have hrj:=zTw r hj
 rcases qAR j r.trs.length with hlt|hge
 ·obtain⟨c,hc⟩:∃c,r.trs[j]?=some c:=⟨_,qAB hlt⟩
  have hld:(r.trs.map enTy)[((j:Nat):Int).toNat]?=some (enTy c):=by rw[qAn];exact zGL hc
  have hnx:=zW3 hc
  have hjl:(j:Int)<(r.trs.length:Int):=by omega
  clear hC
  skip
  repeat' first|apply en_n|apply zAE|apply zAA|apply zAB|apply w0|(apply zBQ;exact rfl;exact rfl;exact rfl;(first|with_reducible exact zBk|with_reducible exact zFP|with_reducible exact zEz);omega;(first|(rw[zAq];omega)|(rw[qAC];omega)))|(refine zEf rfl (by with_reducible exact zCf) rfl hld rfl rfl rfl)|refine aStA ?_|(apply aApp (id:=9) (hd:=rfl) (hro:=rfl);exact rfl;exact rfl;exact zA0 rfl;exact(zAq _).symm;exact rfl;(with_reducible exact zCh);(with_reducible exact zBk);(with_reducible exact zGE);(with_reducible exact zEm);exact zCu rfl)|refine aAlA ?_|refine ayA rfl ?_|refine ayQ rfl ?_|refine ayL rfl ?_|apply ay (hd:=rfl)|refine zBp rfl rfl ?_|(refine w0' ?_)|refine zAJ rfl ?_|apply zAO|apply zAP|apply eb_n
  all_goals first|omega|(simp only[qAN,qAj];omega)|skip
  refine⟨j+1,by omega,by omega,?_⟩
  exact zAU (Le_cons rfl (Le_cons rfl (zRs rfl (by rw[hnx,qAE];rfl) (Le_all rfl)))) (zL2 rfl (zBs (congrArg (Ob.buf true _ 1) (by rw[hnx];exact(zKL _ [c.c.fn]).symm)))) rfl rfl
 have hjl:¬(j:Int)<(r.trs.length:Int):=by omega
 have hje:j=r.trs.length:=by omega
 subst hje
 rw[zTx]
 have hkn:r.stk.length<=new.length:=by omega
 have l5:(new.take r.stk.length).length=r.stk.length:=by rw[qAG];omega
 have hmin:D.val (.int .i64 (r.stk.length:Int))=D.val (.int .i64 ((min (w64s new).length (w64s r.stk).length:Nat):Int)):=by rw[zAq,zAq,Nat.min_eq_right hkn]
 have hld17:(w64s new)[((r.stk.length:Nat):Int).toNat]?=some (w64 (new.getD r.stk.length 0)):=by
  rw[qAn]
  refine zEI ?_
  rw[qAD,qAB (by omega)];rfl
 have hnl:(w64s new).length=new.length:=zAq new
 clear hjl hge hj hrj
 skip
 repeat' first|(refine zEk (id:=16) (s:=[(0,.ptr 0 0),(1,.d (i64 n)),(5,.buf 11 (rtsR r).length)]) (h:=MA fx m { r with now:=now,oth:=oth,beg:=beg }++[.gone,.gone,rowW new]) (zAU (Le_cons rfl (Le_cons rfl (Le_cons rfl (Le_nil)))) (zb3 rfl (zBs rfl)) rfl rfl) ?_)|(refine zEk (id:=17) (s:=[(0,.ptr 0 0),(1,.d (i64 n)),(5,.buf 11 (rtsR r).length),(10,.d (i64 (r.stk.length:Int)))]) (h:=MA fx m { r with now:=now,oth:=oth,beg:=beg,stk:=new.take r.stk.length }++[.gone,.gone,rowW new]) (zAU (Le_cons rfl (Le_cons rfl (Le_cons rfl (Le_d rfl hmin Le_nil)))) (zL1 rfl rfl l5 rfl rfl rfl rfl rfl rfl (cp_row new hkn rfl) rfl rfl rfl (zPM rfl rfl)) rfl rfl) ?_)|apply en_n|apply zAE|apply zAA|apply zAB|apply w0|(apply zBQ;exact rfl;exact rfl;exact rfl;(first|with_reducible exact zBk|with_reducible exact zFP|with_reducible exact zEz);omega;(first|(rw[zAq];omega)|(rw[qAC];omega)))|(refine zPF [1,2,3,4,9] zNO hC (SArgs_all rfl) rfl rfl (by decide) rfl rfl rfl rfl rfl rfl ?_)|(refine zZG (sz:=1) (ys:=w64s new) rfl rfl (zAq _).symm rfl rfl (by rw[zAq,hnew,qAY];exact qAP _) (by rw[List.drop_zero,qAe (by rw[zAq,hnew];exact qAP _)]) (by with_reducible exact zBk) (zIp _) rfl rfl ?_)|exact zCT rfl zBj rfl hld17 rfl|refine ayA rfl ?_|refine ayQ rfl ?_|apply ay (hd:=rfl)|refine zBp rfl rfl ?_|(refine w0' ?_)|refine aStA ?_|refine zAI rfl ?_|apply zAO|apply zBH|apply en_e|apply eb_e
 all_goals first|omega|skip
 clear hld17 hmin hC
 refine zBA (α:=Nat) (fun j=>j<=r.cls.length) (fun j=>[(0,.ptr 0 0),(1,.d (i64 n)),(5,.buf 11 (rtsR r).length),(10,.d (i64 ((r.stk.length:Int)+1+(j:Int)))),(90,.d (i64 (r.cls.length:Int))),(91,.d (i64 (j:Int)))]) (fun j=>MA fx m { r with now:=now,oth:=oth,beg:=beg,stk:=new.take r.stk.length,c:={ r.c with fn:=new.getD r.stk.length 0 },cls:=mixC r.cls (new.drop (r.stk.length+1)) j }++[.gone,.gone,rowW new]) (fun j=>r.cls.length-j) 0 (qAQ _) ?_ ?_
 ·show Fits _ (MA fx m { r with now:=now,oth:=oth,beg:=beg,stk:=new.take r.stk.length,c:={ r.c with fn:=new.getD r.stk.length 0 },cls:=mixC r.cls (new.drop (r.stk.length+1)) 0 }++[.gone,.gone,rowW new]) _ _
  rw[zdJ]
  exact zAU (Le_cons rfl (Le_cons rfl (Le_cons rfl (Le_d rfl (congrArg (fun x=>D.val (.int .i64 x)) (Int.add_zero _)) (Le_all rfl))))) (zL1 rfl rfl rfl rfl rfl rfl rfl rfl rfl rfl rfl rfl rfl (zPM rfl rfl)) rfl rfl
 intro j hj
 have hml:=zQ6 r.cls (new.drop (r.stk.length+1)) j (by rw[qAd];omega)
 rcases qAR j r.cls.length with hlt|hge
 ·obtain⟨c,hc⟩:∃c,r.cls[j]?=some c:=⟨_,qAB hlt⟩
  obtain⟨f,hf⟩:∃f,(new.drop (r.stk.length+1))[j]?=some f:=⟨_,qAB (by rw[qAd];omega)⟩
  have hwl:r.cls.length<=(new.drop (r.stk.length+1)).length:=by rw[qAd];omega
  have hml2:=zQ6 r.cls (new.drop (r.stk.length+1)) (j+1) hwl
  have hmc:((mixC r.cls (new.drop (r.stk.length+1)) j).map enCl)[((j:Nat):Int).toNat]?=some (enCl c):=by rw[qAn];exact zGL (za0 hc hwl)
  have hset:=zXj hc hf hwl
  have hld:(w64s new)[((r.stk.length:Int)+1+(j:Int)).toNat]?=some (w64 f):=by
   rw[show ((r.stk.length:Int)+1+(j:Int)).toNat=r.stk.length+1+j by omega]
   rw[qAl]at hf
   exact zEI hf
  have hjl:(j:Int)<(r.cls.length:Int):=by omega
  have hnl:(w64s new).length=new.length:=zAq new
  skip
  repeat' first|apply en_n|apply zAE|apply zAA|apply zAB|apply w0|(refine zDv rfl (by first|with_reducible exact zDs|with_reducible exact zG6))|(refine zBQ (m:=(mixC r.cls (new.drop (r.stk.length+1)) j).length) rfl rfl rfl (by with_reducible exact zFP) (by omega) (by rw[qAC];exact qAP _))|(apply zBQ;exact rfl;exact rfl;exact rfl;(first|with_reducible exact zBk|with_reducible exact zFP|with_reducible exact zEz);omega;(first|(rw[zAq];omega)|(rw[qAC];omega)))|exact zCT rfl zBj rfl hld rfl|(refine zCJ (by kernel_rfl) ?_;refine zRg rfl rfl rfl zBj rfl rfl hmc rfl rfl ?_)|refine ayA rfl ?_|refine ayQ rfl ?_|apply ay (hd:=rfl)|refine zBp rfl rfl ?_|(refine w0' ?_)|refine zAJ rfl ?_|apply zAO|apply zAP|refine awDA ?_|apply eb_n
  all_goals first|omega|skip
  refine⟨j+1,by omega,by omega,?_⟩
  exact zAU (Le_cons rfl (Le_cons rfl (Le_cons rfl (Le_d rfl (congrArg (fun x=>D.val (.int .i64 x)) (by omega)) (Le_all rfl))))) (zL1 rfl rfl rfl (hml2.trans hml.symm) rfl rfl rfl rfl rfl rfl (congrArg (Ob.buf true _ 3) hset.symm) rfl rfl (zPM rfl rfl)) rfl rfl
 have hjl:¬(j:Int)<(r.cls.length:Int):=by omega
 have hje:j=r.cls.length:=by omega
 subst hje
 rw[zXk]at hml ⊢
 skip
 repeat' first|apply en_n|apply zAE|apply zAA|apply zAB|apply w0|refine ayA rfl ?_|refine ayQ rfl ?_|refine zAI rfl ?_|apply zAO|apply zBH|apply en_e|apply eb_e
 all_goals first|omega|skip
 clear hjl hge hj
 refine zBA (α:=Nat) (fun j=>j<=r.trs.length) (fun j=>[(0,.ptr 0 0),(1,.d (i64 n)),(5,.buf 11 (rtsR r).length),(10,.d (i64 ((r.stk.length:Int)+1+(r.cls.length:Int)+(j:Int)))),(112,.d (i64 (r.trs.length:Int))),(113,.d (i64 (j:Int)))]) (fun j=>MA fx m { r with now:=now,oth:=oth,beg:=beg,stk:=new.take r.stk.length,c:={ r.c with fn:=new.getD r.stk.length 0 },cls:=setC r.cls (new.drop (r.stk.length+1)),trs:=mixT r.trs (new.drop (r.stk.length+1+r.cls.length)) j }++[.gone,.gone,rowW new]) (fun j=>r.trs.length-j) 0 (qAQ _) ?_ ?_
 ·show Fits _ (MA fx m { r with now:=now,oth:=oth,beg:=beg,stk:=new.take r.stk.length,c:={ r.c with fn:=new.getD r.stk.length 0 },cls:=setC r.cls (new.drop (r.stk.length+1)),trs:=mixT r.trs (new.drop (r.stk.length+1+r.cls.length)) 0 }++[.gone,.gone,rowW new]) _ _
  rw[zdI]
  exact zAU (Le_cons rfl (Le_cons rfl (Le_cons rfl (Le_d rfl (congrArg (fun x=>D.val (.int .i64 x)) (Int.add_zero _)) (Le_all rfl))))) (zL1 rfl rfl rfl rfl rfl rfl rfl rfl rfl rfl rfl rfl rfl (zPM rfl rfl)) rfl rfl
 intro j hj
 have hmt:=zQ5 r.trs (new.drop (r.stk.length+1+r.cls.length)) j (by rw[qAd];omega)
 rcases qAR j r.trs.length with hlt|hge
 ·obtain⟨c,hc⟩:∃c,r.trs[j]?=some c:=⟨_,qAB hlt⟩
  obtain⟨f,hf⟩:∃f,(new.drop (r.stk.length+1+r.cls.length))[j]?=some f:=⟨_,qAB (by rw[qAd];omega)⟩
  have hwl:r.trs.length<=(new.drop (r.stk.length+1+r.cls.length)).length:=by rw[qAd];omega
  have hml2:=zQ5 r.trs (new.drop (r.stk.length+1+r.cls.length)) (j+1) hwl
  have hmc:((mixT r.trs (new.drop (r.stk.length+1+r.cls.length)) j).map enTy)[((j:Nat):Int).toNat]?=some (enTy c):=by rw[qAn];exact zGL (zaz hc hwl)
  have hset:=zXh hc hf hwl
  have hld:(w64s new)[((r.stk.length:Int)+1+(r.cls.length:Int)+(j:Int)).toNat]?=some (w64 f):=by
   rw[show ((r.stk.length:Int)+1+(r.cls.length:Int)+(j:Int)).toNat=r.stk.length+1+r.cls.length+j by omega]
   rw[qAl]at hf
   exact zEI hf
  have hjl:(j:Int)<(r.trs.length:Int):=by omega
  have hnl:(w64s new).length=new.length:=zAq new
  skip
  repeat' first|apply en_n|apply zAE|apply zAA|apply zAB|apply w0|(refine zDv rfl (by first|with_reducible exact zDs|with_reducible exact zG6))|(refine zBQ (m:=(mixT r.trs (new.drop (r.stk.length+1+r.cls.length)) j).length) rfl rfl rfl (by with_reducible exact zEz) (by omega) (by rw[qAC];exact qAP _))|(apply zBQ;exact rfl;exact rfl;exact rfl;(first|with_reducible exact zBk|with_reducible exact zFP|with_reducible exact zEz);omega;(first|(rw[zAq];omega)|(rw[qAC];omega)))|exact zCT rfl zBj rfl hld rfl|(refine zCJ (by kernel_rfl) ?_;refine zRg rfl rfl rfl zBj rfl rfl hmc rfl rfl ?_)|refine ayA rfl ?_|refine ayQ rfl ?_|apply ay (hd:=rfl)|refine zBp rfl rfl ?_|(refine w0' ?_)|refine zAJ rfl ?_|apply zAO|apply zAP|refine awDA ?_|apply eb_n
  all_goals first|omega|skip
  refine⟨j+1,by omega,by omega,?_⟩
  exact zAU (Le_cons rfl (Le_cons rfl (Le_cons rfl (Le_d rfl (congrArg (fun x=>D.val (.int .i64 x)) (by omega)) (Le_all rfl))))) (zL1 rfl rfl rfl rfl (hml2.trans hmt.symm) rfl rfl rfl rfl rfl rfl (congrArg (Ob.buf true _ 5) hset.symm) rfl (zPM rfl rfl)) rfl rfl
 have hjl:¬(j:Int)<(r.trs.length:Int):=by omega
 have hje:j=r.trs.length:=by omega
 subst hje
 rw[zXi]at hmt ⊢
 have hL2:=zL4 r.size now oth beg ⟨hs.1,hs.2,hn2⟩
 refine zBW (s:=[(0,.ptr 0 0),(1,.d (i64 n)),(112,.d (i64 (r.trs.length:Int))),(113,.d (i64 (r.trs.length:Int)))]) (h:=MA fx m (gcR r now oth beg new)) (zAU (Le_all rfl) (zFl rfl rfl rfl rfl rfl rfl rfl rfl rfl rfl rfl rfl (zBs rfl) (zBs rfl) (zBs rfl) rfl) rfl rfl) ?_
 rcases hr' with⟨q1,rfl,rfl⟩|⟨q1,rfl,rfl⟩
 ·have q2:¬r.size-(now.length:Int)<n:=by omega
  skip
  exact yN
 ·have q2:r.size-(now.length:Int)<n:=by omega
  have hS:=zFv m (gcR r now oth beg new) 5
  skip
  exact yN

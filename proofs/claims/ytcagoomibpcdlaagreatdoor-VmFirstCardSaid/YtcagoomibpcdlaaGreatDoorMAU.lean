/- Parts of the proof. -/
import Derived.Test.YtcagoomibpcdlaaGreatDoorMAT
set_option maxHeartbeats 16000000
namespace Go.Proofs.YtcagoomibpcdlaaGreatDoor
open _root_.Go.Proofs.Tryz
open Go.Sx Go.Vm
def rt1(r:Raw)(j:Nat): List Nat:=r.stk++[r.c.fn]++(r.cls.take j).map (·.fn)
def rt2(r:Raw)(j:Nat): List Nat:=r.stk++[r.c.fn]++r.cls.map (·.fn)++(r.trs.take j).map (·.c.fn)
theorem zYa(r:Raw): rt1 r 0=r.stk++[r.c.fn]:=by simp[rt1]
theorem zTH{r:Raw}{j:Nat}{c:RCl}(h:r.cls[j]?=some c): rt1 r (j+1)=rt1 r j++[c.fn]:=by
 unfold rt1;rw[qBO,h,qAk,<-qAg];rfl
theorem zWJ(r:Raw): rt1 r r.cls.length=rt2 r 0:=by simp[rt1,rt2]
theorem zTG{r:Raw}{j:Nat}{c:RTy}(h:r.trs[j]?=some c): rt2 r (j+1)=rt2 r j++[c.c.fn]:=by
 unfold rt2;rw[qBO,h,qAk,<-qAg];rfl
theorem zQZ(r:Raw): rt2 r r.trs.length=rtsR r:=by simp[rt2,rtsR]
theorem zWI(r:Raw){j:Nat}(h:j<=r.cls.length): (rt1 r j).length=r.stk.length+1+j:=by simp only[rt1,qAE,qAC,qAJ,qAS,qAv];omega
theorem zQY(r:Raw){j:Nat}(h:j<=r.trs.length): (rt2 r j).length=r.stk.length+1+r.cls.length+j:=by simp only[rt2,qAE,qAC,qAJ,qAS,qAv];omega
abbrev rowW(l:List Nat): Ob:=.buf true 58 1 (w64s l)
theorem zXm{fx:Nat->Option Nat}{m:Img}{r:Raw}{o:Ob}{η:List Ob}{o1 o2 o':Ob}{q:List Ob}(e:η=MA fx m r++o1::o2::o'::q)(w:WOb o o'): Pre (MA fx m r++[.gone,.gone,o]) η:=by
 subst e
 have:∀l:List Ob,Pre (l++[.gone,.gone,o]) (l++o1::o2::o'::q):=fun l=>by
  induction l with
  |nil=>exact⟨fun _ _ _ _=>trivial,fun _ _ _ _=>trivial,w,trivial⟩
  |cons a t ih=>exact⟨fun _ _ _ h=>h,ih⟩
 exact this _
theorem zJs{fx:Nat->Option Nat}{m:Img}{r:Raw}{η:List Ob}{o0 o1 o2 o3 o4 o5 o6 o7 o8:Ob}{q t:List Ob}{n5 n6 n7:Nat}(e:η=o0::o1::o2::o3::o4::o5::o6::o7::o8::q)
  (e0:Ob.bx (fx 0) none [.d (.slice (m.pool.map enCn)),.d (.slice (m.code.map enIn)),.ptr 1 0,.buf 5 n5,.d (i64 r.c.at_),.d (i64 r.c.base),.d (w64 r.c.fn),.buf 6 n6,.buf 7 n7,.d (i64 r.fin),.nil,.d (i64 r.num),.buf 8 r.out.length,.d (i64 r.steps)]=o0)
  (h5:r.stk.length=n5) (h6:r.cls.length=n6) (h7:r.trs.length=n7)
  (e1:Ob.bx (fx 1) none [.buf 2 r.now.length,.buf 3 r.oth.length,.d (i64 r.size),.buf 4 r.beg.length]=o1)
  (e2:Ob.buf true 58 1 (w64s r.now)=o2) (e3:Ob.buf true 58 1 (w64s r.oth)=o3) (e4:Ob.buf true 4 1 (bls r.beg)=o4)
  (e5:Ob.buf true 58 1 (w64s r.stk)=o5) (e6:Ob.buf true 60 3 (r.cls.map enCl)=o6) (e7:Ob.buf true 114 5 (r.trs.map enTy)=o7) (e8:Ob.buf true 9 1 (r.out.map str)=o8) (ht:Pre t q) :
  Pre (MA fx m r++t) η:=by
 subst e;subst h5 h6 h7
 exact zAO rfl e0 (zAO rfl e1 (zAO rfl e2 (zAO rfl e3 (zAO rfl e4 (zAO rfl e5 (zAO rfl e6 (zAO rfl e7 (zAO rfl e8 ht))))))))
theorem zMY{η:List Ob}{o o1 o2 o':Ob}{q:List Ob}(e:η=o1::o2::o'::q)(w:o=o'): Pre [.gone,.gone,o] η:=by
 subst e;subst w;exact⟨fun _ _ _ _=>trivial,fun _ _ _ _=>trivial,fun _ _ _ h=>h,trivial⟩
theorem cp_row(new:List Nat){k:Nat}(h:k<=new.length){l:List Nat}(hk:l.length=k): Ob.buf true 58 1 (w64s (new.take k))=Ob.buf true 58 1 ((w64s new).take (w64s l).length++(w64s l).drop (w64s new).length):=by
 congr 1
 rw[zAl,zAl,hk,List.drop_eq_nil_of_le (by rw[zAl];omega),qBC,zI1]
attribute [local irreducible] zAN Program.underlying Ylds zA9 alex zB3 zBf awp zAi zCC zCB zAU zBl zAz zDt zBq zBj zBB zBr zB2 zB8 zD7 zBi zBd zBg
theorem zWM(m:Img)(r r':Raw)(n:Int)(b:Bool){now oth:List Nat}{beg:List Bool}{new:List Nat}(hs:0<=r.size/\r.size<=1048576)(hn:r.now.length<=1048576)(hn2:now.length<=1048576)(h:¬n<=r.size-(r.now.length:Int))(hl:r.stk.length<=200000/\r.cls.length<=200000/\r.trs.length<=200000)
  (hC:zAU prog 130 [.ptr 0 0,.buf 4 (rtsR r).length] (HO r.size r.now r.oth r.beg++[rowW (rtsR r)]) (.buf 6 (rtsR r).length) (HO r.size now oth beg++[rowW (rtsR r),Ob.gone,rowW new])) (hnew:new.length=(rtsR r).length)
  (hr':(n<=r.size-(now.length:Int)/\b=true/\r'=gcR r now oth beg new)\/(¬n<=r.size-(now.length:Int)/\b=false/\r' = { gcR r now oth beg new with fin:=5 })) :
  zAU prog 76 [.ptr 0 0,.d (i64 n)] (MX m r) (.d (bl b)) (MX m r'):=by
 have hL:=zJv r.size r.now r.oth r.beg ⟨hs.1,hs.2,hn⟩
 have hCl:=zUs r.stk (by omega)
 have hge:¬r.size-(r.now.length:Int)>=n:=by omega
 have hrl:(rtsR r).length=r.stk.length+1+r.cls.length+r.trs.length:=by rw[<-zQZ,zQY r (qAN _)]
 refine zAx func76 rfl ntmps76 results76 rfl ?_
 intro wb St0 X fx
 repeat' first|(refine zBN (id:=4) (s:=[(0,.ptr 0 0),(1,.d (i64 n)),(5,.buf 9 r.stk.length)]) (h:=MA fx m r++[rowW r.stk]) (zAT (Le_cons rfl (Le_cons rfl (Le_cons rfl (Le_nil)))) (zJt rfl (zBU rfl)) rfl rfl) ?_)|apply en_n|apply zAH|apply zAA|apply zAD|apply w0|exact zAK rfl|exact zIP rfl rfl|(apply aApp (id:=9) (hd:=rfl) (hro:=rfl);exact rfl;exact rfl;exact zCW rfl;exact(zAl _).symm;exact rfl;(with_reducible exact zCS);(with_reducible exact zBQ);(with_reducible exact zE6);(with_reducible exact zD0);exact zEA rfl)|(refine zVM [5] zF8 hCl (SArgs_all rfl) rfl rfl (by decide) rfl rfl rfl rfl rfl ?_)|(refine zAW [1,2,3,4] [] rfl rfl zE3 (hL) rfl (SArgs_all rfl) rfl (by decide) rfl rfl rfl rfl)|apply ay (hd:=rfl)|exact zAF rfl|exact zAB rfl|exact zBP rfl|exact zAy rfl|exact zA5 rfl zGl|exact zAG rfl|(apply zAC;exact rfl;(with_reducible first|exact zC7|exact zBS|exact zCn|exact zAZ|exact zDf))|(apply zAE;exact rfl;(with_reducible first|exact zBn|exact zBC|exact zBO|exact zB7);exact rfl;exact rfl)|(apply zCI;(with_reducible exact zCS);(with_reducible exact zBQ);(with_reducible exact zGM);exact rfl;exact rfl;(first|exact zAY rfl zAM|exact CoL_b rfl rfl rfl zAM|exact CoL_n rfl zAM);exact rfl)|refine zAJ rfl ?_|apply zAL|apply zAS
 all_goals first|omega|(simp only[qAS,qAv];omega)|skip
 clear hL hCl hge
 refine zBW (α:=Nat) (fun j=>j<=r.cls.length) (fun j=>[(0,.ptr 0 0),(1,.d (i64 n)),(5,.buf 9 (rt1 r j).length),(36,.buf 6 r.cls.length),(37,.d (i64 (r.cls.length:Int))),(38,.d (i64 (j:Int)))]) (fun j=>MA fx m r++[rowW (rt1 r j)]) (fun j=>r.cls.length-j) 0 (qAX _)
  (zAT (Le_cons rfl (Le_cons rfl (zOs rfl (by rw[zYa,qAE];rfl) (Le_all rfl)))) (zJt rfl (zBU (congrArg (Ob.buf true _ 1) (by rw[zYa];exact(zIZ r.stk [r.c.fn]).symm)))) rfl rfl) ?_
 intro j hj
 have hrj:=zWI r hj
 rcases qAR j r.cls.length with hlt|hge
 ·obtain⟨c,hc⟩:∃c,r.cls[j]?=some c:=⟨_,qAB hlt⟩
  have hld:(r.cls.map enCl)[((j:Nat):Int).toNat]?=some (enCl c):=by rw[qAj];exact zBz hc
  have hnx:=zTH hc
  have hjl:(j:Int)<(r.cls.length:Int):=by omega
  clear hC
  skip
  repeat' first|apply en_n|apply zAH|apply zAA|apply zAD|apply w0|(apply zBZ;exact rfl;exact rfl;exact rfl;(first|with_reducible exact zBQ|with_reducible exact zES|with_reducible exact zD9);omega;(first|(rw[zAl];omega)|(rw[qAC];omega)))|exact zC9 rfl rfl|(refine zFw rfl (by with_reducible exact zCO) rfl hld rfl rfl rfl)|refine zAh rfl rfl rfl zCO rfl rfl rfl rfl ?_|(apply aApp (id:=9) (hd:=rfl) (hro:=rfl);exact rfl;exact rfl;exact zCW rfl;exact(zAl _).symm;exact rfl;(with_reducible exact zCS);(with_reducible exact zBQ);(with_reducible exact zE6);(with_reducible exact zD0);exact zEA rfl)|(apply zDI (hd:=rfl) (hro:=rfl);(with_reducible exact zSi))|apply ay (hd:=rfl)|exact zAF rfl|refine zBE rfl rfl ?_|exact zBP rfl|exact zAy rfl|exact zAC rfl zC7|exact zAE rfl zBO rfl rfl|(apply zCI;(with_reducible exact zCS);(with_reducible exact zBQ);(with_reducible exact zGM);exact rfl;exact rfl;(first|exact zAY rfl zAM|exact CoL_b rfl rfl rfl zAM|exact CoL_n rfl zAM);exact rfl)|(refine w0' ?_)|refine zAI rfl ?_|apply zAL|apply zAS|apply eb_n
  all_goals first|omega|(simp only[qAS,qAv];omega)|skip
  refine⟨j+1,by omega,by omega,?_⟩
  exact zAT (Le_cons rfl (Le_cons rfl (zOs rfl (by rw[hnx,qAE];rfl) (Le_all rfl)))) (zJt rfl (zBU (congrArg (Ob.buf true _ 1) (by rw[hnx];exact(zIZ _ [c.fn]).symm)))) rfl rfl
 have hjl:¬(j:Int)<(r.cls.length:Int):=by omega
 have hje:j=r.cls.length:=by omega
 subst hje
 rw[zWJ]
 skip
 repeat' first|apply en_n|apply zAH|apply zAA|apply zAD|apply w0|exact zAK rfl|exact zCm rfl rfl|apply ay (hd:=rfl)|exact zAF rfl|exact zA5 rfl zGk|exact zAG rfl|exact zAC rfl zC6|exact zAE rfl zB4 rfl rfl|refine zAJ rfl ?_|apply zAL|apply zBc|apply en_e|apply eb_e
 all_goals first|omega|skip
 clear hrj hjl hge hj
 refine zBW (α:=Nat) (fun j=>j<=r.trs.length) (fun j=>[(0,.ptr 0 0),(1,.d (i64 n)),(5,.buf 9 (rt2 r j).length),(51,.buf 7 r.trs.length),(52,.d (i64 (r.trs.length:Int))),(53,.d (i64 (j:Int)))]) (fun j=>MA fx m r++[rowW (rt2 r j)]) (fun j=>r.trs.length-j) 0 (qAX _)
  (zAT (Le_all rfl) (zJt rfl (zBU rfl)) rfl rfl) ?_
 intro j hj
 have hrj:=zQY r hj
 rcases qAR j r.trs.length with hlt|hge
 ·obtain⟨c,hc⟩:∃c,r.trs[j]?=some c:=⟨_,qAB hlt⟩
  have hld:(r.trs.map enTy)[((j:Nat):Int).toNat]?=some (enTy c):=by rw[qAj];exact zBz hc
  have hnx:=zTG hc
  have hjl:(j:Int)<(r.trs.length:Int):=by omega
  clear hC
  skip
  repeat' first|apply en_n|apply zAH|apply zAA|apply zAD|apply w0|(apply zBZ;exact rfl;exact rfl;exact rfl;(first|with_reducible exact zBQ|with_reducible exact zES|with_reducible exact zD9);omega;(first|(rw[zAl];omega)|(rw[qAC];omega)))|exact zC9 rfl rfl|(refine zFw rfl (by with_reducible exact zCR) rfl hld rfl rfl rfl)|refine zAh rfl rfl rfl zCR rfl rfl rfl rfl ?_|(apply aApp (id:=9) (hd:=rfl) (hro:=rfl);exact rfl;exact rfl;exact zCW rfl;exact(zAl _).symm;exact rfl;(with_reducible exact zCS);(with_reducible exact zBQ);(with_reducible exact zE6);(with_reducible exact zD0);exact zEA rfl)|(apply zDI (hd:=rfl) (hro:=rfl);(with_reducible exact zIa))|apply ay (hd:=rfl)|exact zAF rfl|refine zBE rfl rfl ?_|exact zBP rfl|exact zAy rfl|(apply zAC;exact rfl;(with_reducible first|exact zC7|exact zFl))|exact zAE rfl zBO rfl rfl|(apply zCI;(with_reducible exact zCS);(with_reducible exact zBQ);(with_reducible exact zGM);exact rfl;exact rfl;(first|exact zAY rfl zAM|exact CoL_b rfl rfl rfl zAM|exact CoL_n rfl zAM);exact rfl)|(refine w0' ?_)|refine zAI rfl ?_|apply zAL|apply zAS|apply eb_n
  all_goals first|omega|(simp only[qAS,qAv];omega)|skip
  refine⟨j+1,by omega,by omega,?_⟩
  exact zAT (Le_cons rfl (Le_cons rfl (zOs rfl (by rw[hnx,qAE];rfl) (Le_all rfl)))) (zJt rfl (zBU (congrArg (Ob.buf true _ 1) (by rw[hnx];exact(zIZ _ [c.c.fn]).symm)))) rfl rfl
 have hjl:¬(j:Int)<(r.trs.length:Int):=by omega
 have hje:j=r.trs.length:=by omega
 subst hje
 rw[zQZ]
 have hkn:r.stk.length<=new.length:=by omega
 have l5:(new.take r.stk.length).length=r.stk.length:=by rw[qAJ];omega
 have hmin:D.val (.int .i64 (r.stk.length:Int))=D.val (.int .i64 ((min (w64s new).length (w64s r.stk).length:Nat):Int)):=by rw[zAl,zAl,Nat.min_eq_right hkn]
 have hld17:(w64s new)[((r.stk.length:Nat):Int).toNat]?=some (w64 (new.getD r.stk.length 0)):=by
  rw[qAj]
  refine zDe ?_
  rw[qAD,qAB (by omega)];rfl
 have hnl:(w64s new).length=new.length:=zAl new
 clear hjl hge hj hrj
 skip
 repeat' first|(refine zBN (id:=16) (s:=[(0,.ptr 0 0),(1,.d (i64 n)),(5,.buf 11 (rtsR r).length)]) (h:=MA fx m { r with now:=now,oth:=oth,beg:=beg }++[.gone,.gone,rowW new]) (zAT (Le_cons rfl (Le_cons rfl (Le_cons rfl (Le_nil)))) (zXm rfl (zBU rfl)) rfl rfl) ?_)|(refine zBN (id:=17) (s:=[(0,.ptr 0 0),(1,.d (i64 n)),(5,.buf 11 (rtsR r).length),(10,.d (i64 (r.stk.length:Int)))]) (h:=MA fx m { r with now:=now,oth:=oth,beg:=beg,stk:=new.take r.stk.length }++[.gone,.gone,rowW new]) (zAT (Le_cons rfl (Le_cons rfl (Le_cons rfl (Le_d rfl hmin Le_nil)))) (zJs rfl rfl l5 rfl rfl rfl rfl rfl rfl (cp_row new hkn rfl) rfl rfl rfl (zMY rfl rfl)) rfl rfl) ?_)|apply en_n|apply zAH|apply zAA|apply zAD|apply w0|exact zAK rfl|(apply zBZ;exact rfl;exact rfl;exact rfl;(first|with_reducible exact zBQ|with_reducible exact zES|with_reducible exact zD9);omega;(first|(rw[zAl];omega)|(rw[qAC];omega)))|exact zCm rfl rfl|(refine zOg [1,2,3,4,9] zK4 hC (SArgs_all rfl) rfl rfl (by decide) rfl rfl rfl rfl rfl rfl ?_)|(refine zVN (sz:=1) (ys:=w64s new) rfl rfl (zAl _).symm rfl rfl (by rw[zAl,hnew,qAU];exact qAN _) (by rw[List.drop_zero,qAi (by rw[zAl,hnew];exact qAN _)]) (by with_reducible exact zBQ) (zHA _) rfl rfl ?_)|exact zCl rfl zBO rfl hld17 rfl|apply ay (hd:=rfl)|exact zAF rfl|exact zAB rfl|refine zBE rfl rfl ?_|exact zBP rfl|exact zAy rfl|exact zA5 rfl zGl|exact zAG rfl|(apply zAC;exact rfl;(with_reducible first|exact zC7|exact zBS|exact zCn|exact zAZ|exact zDf))|(apply zAE;exact rfl;(with_reducible first|exact zBn|exact zBC|exact zB7);exact rfl;exact rfl)|(refine w0' ?_)|refine zAh rfl rfl rfl zBO rfl rfl rfl rfl ?_|refine zAJ rfl ?_|apply zAL|apply zBc|apply en_e|apply eb_e
 all_goals first|omega|skip
 clear hld17 hmin hC
 refine zBW (α:=Nat) (fun j=>j<=r.cls.length) (fun j=>[(0,.ptr 0 0),(1,.d (i64 n)),(5,.buf 11 (rtsR r).length),(10,.d (i64 ((r.stk.length:Int)+1+(j:Int)))),(90,.d (i64 (r.cls.length:Int))),(91,.d (i64 (j:Int)))]) (fun j=>MA fx m { r with now:=now,oth:=oth,beg:=beg,stk:=new.take r.stk.length,c:={ r.c with fn:=new.getD r.stk.length 0 },cls:=mixC r.cls (new.drop (r.stk.length+1)) j }++[.gone,.gone,rowW new]) (fun j=>r.cls.length-j) 0 (qAX _) ?_ ?_
 ·show Fits _ (MA fx m { r with now:=now,oth:=oth,beg:=beg,stk:=new.take r.stk.length,c:={ r.c with fn:=new.getD r.stk.length 0 },cls:=mixC r.cls (new.drop (r.stk.length+1)) 0 }++[.gone,.gone,rowW new]) _ _
  rw[zYn]
  exact zAT (Le_cons rfl (Le_cons rfl (Le_cons rfl (Le_d rfl (congrArg (fun x=>D.val (.int .i64 x)) (Int.add_zero _)) (Le_all rfl))))) (zJs rfl rfl rfl rfl rfl rfl rfl rfl rfl rfl rfl rfl rfl (zMY rfl rfl)) rfl rfl
 intro j hj
 have hml:=zN6 r.cls (new.drop (r.stk.length+1)) j (by rw[qAe];omega)
 rcases qAR j r.cls.length with hlt|hge
 ·obtain⟨c,hc⟩:∃c,r.cls[j]?=some c:=⟨_,qAB hlt⟩
  obtain⟨f,hf⟩:∃f,(new.drop (r.stk.length+1))[j]?=some f:=⟨_,qAB (by rw[qAe];omega)⟩
  have hwl:r.cls.length<=(new.drop (r.stk.length+1)).length:=by rw[qAe];omega
  have hml2:=zN6 r.cls (new.drop (r.stk.length+1)) (j+1) hwl
  have hmc:((mixC r.cls (new.drop (r.stk.length+1)) j).map enCl)[((j:Nat):Int).toNat]?=some (enCl c):=by rw[qAj];exact zBz (zWm hc hwl)
  have hset:=zTw hc hf hwl
  have hld:(w64s new)[((r.stk.length:Int)+1+(j:Int)).toNat]?=some (w64 f):=by
   rw[show ((r.stk.length:Int)+1+(j:Int)).toNat=r.stk.length+1+j by omega]
   rw[qAh]at hf
   exact zDe hf
  have hjl:(j:Int)<(r.cls.length:Int):=by omega
  have hnl:(w64s new).length=new.length:=zAl new
  skip
  repeat' first|apply en_n|apply zAH|apply zAA|apply zAD|apply w0|(refine zG2 rfl (by first|with_reducible exact zC7|with_reducible exact zFl))|(refine zBZ (m:=(mixC r.cls (new.drop (r.stk.length+1)) j).length) rfl rfl rfl (by with_reducible exact zES) (by omega) (by rw[qAC];exact qAN _))|exact zAK rfl|(apply zBZ;exact rfl;exact rfl;exact rfl;(first|with_reducible exact zBQ|with_reducible exact zES|with_reducible exact zD9);omega;(first|(rw[zAl];omega)|(rw[qAC];omega)))|exact zC9 rfl rfl|exact zCl rfl zBO rfl hld rfl|(refine zBv (by kernel_rfl) ?_;refine zOf rfl rfl rfl zBO rfl rfl hmc rfl rfl ?_)|apply ay (hd:=rfl)|exact zAF rfl|exact zAB rfl|refine zBE rfl rfl ?_|exact zBP rfl|exact zAG rfl|exact zAC rfl zDf|exact zAE rfl zB7 rfl rfl|(refine w0' ?_)|refine zAI rfl ?_|apply zAL|apply zAS|refine zAj (by kernel_rfl) (by kernel_rfl) ?_|apply eb_n
  all_goals first|omega|skip
  refine⟨j+1,by omega,by omega,?_⟩
  exact zAT (Le_cons rfl (Le_cons rfl (Le_cons rfl (Le_d rfl (congrArg (fun x=>D.val (.int .i64 x)) (by omega)) (Le_all rfl))))) (zJs rfl rfl rfl (hml2.trans hml.symm) rfl rfl rfl rfl rfl rfl (congrArg (Ob.buf true _ 3) hset.symm) rfl rfl (zMY rfl rfl)) rfl rfl
 have hjl:¬(j:Int)<(r.cls.length:Int):=by omega
 have hje:j=r.cls.length:=by omega
 subst hje
 rw[zTx]at hml ⊢
 skip
 repeat' first|apply en_n|apply zAH|apply zAA|apply zAD|apply w0|exact zAK rfl|exact zCm rfl rfl|apply ay (hd:=rfl)|exact zAF rfl|exact zA5 rfl zGk|exact zAG rfl|exact zAC rfl zC6|exact zAE rfl zB4 rfl rfl|refine zAJ rfl ?_|apply zAL|apply zBc|apply en_e|apply eb_e
 all_goals first|omega|skip
 clear hjl hge hj
 refine zBW (α:=Nat) (fun j=>j<=r.trs.length) (fun j=>[(0,.ptr 0 0),(1,.d (i64 n)),(5,.buf 11 (rtsR r).length),(10,.d (i64 ((r.stk.length:Int)+1+(r.cls.length:Int)+(j:Int)))),(112,.d (i64 (r.trs.length:Int))),(113,.d (i64 (j:Int)))]) (fun j=>MA fx m { r with now:=now,oth:=oth,beg:=beg,stk:=new.take r.stk.length,c:={ r.c with fn:=new.getD r.stk.length 0 },cls:=setC r.cls (new.drop (r.stk.length+1)),trs:=mixT r.trs (new.drop (r.stk.length+1+r.cls.length)) j }++[.gone,.gone,rowW new]) (fun j=>r.trs.length-j) 0 (qAX _) ?_ ?_
 ·show Fits _ (MA fx m { r with now:=now,oth:=oth,beg:=beg,stk:=new.take r.stk.length,c:={ r.c with fn:=new.getD r.stk.length 0 },cls:=setC r.cls (new.drop (r.stk.length+1)),trs:=mixT r.trs (new.drop (r.stk.length+1+r.cls.length)) 0 }++[.gone,.gone,rowW new]) _ _
  rw[zYm]
  exact zAT (Le_cons rfl (Le_cons rfl (Le_cons rfl (Le_d rfl (congrArg (fun x=>D.val (.int .i64 x)) (Int.add_zero _)) (Le_all rfl))))) (zJs rfl rfl rfl rfl rfl rfl rfl rfl rfl rfl rfl rfl rfl (zMY rfl rfl)) rfl rfl
 intro j hj
 have hmt:=zN5 r.trs (new.drop (r.stk.length+1+r.cls.length)) j (by rw[qAe];omega)
 rcases qAR j r.trs.length with hlt|hge
 ·obtain⟨c,hc⟩:∃c,r.trs[j]?=some c:=⟨_,qAB hlt⟩
  obtain⟨f,hf⟩:∃f,(new.drop (r.stk.length+1+r.cls.length))[j]?=some f:=⟨_,qAB (by rw[qAe];omega)⟩
  have hwl:r.trs.length<=(new.drop (r.stk.length+1+r.cls.length)).length:=by rw[qAe];omega
  have hml2:=zN5 r.trs (new.drop (r.stk.length+1+r.cls.length)) (j+1) hwl
  have hmc:((mixT r.trs (new.drop (r.stk.length+1+r.cls.length)) j).map enTy)[((j:Nat):Int).toNat]?=some (enTy c):=by rw[qAj];exact zBz (zWl hc hwl)
  have hset:=zTu hc hf hwl
  have hld:(w64s new)[((r.stk.length:Int)+1+(r.cls.length:Int)+(j:Int)).toNat]?=some (w64 f):=by
   rw[show ((r.stk.length:Int)+1+(r.cls.length:Int)+(j:Int)).toNat=r.stk.length+1+r.cls.length+j by omega]
   rw[qAh]at hf
   exact zDe hf
  have hjl:(j:Int)<(r.trs.length:Int):=by omega
  have hnl:(w64s new).length=new.length:=zAl new
  skip
  repeat' first|apply en_n|apply zAH|apply zAA|apply zAD|apply w0|(refine zG2 rfl (by first|with_reducible exact zC7|with_reducible exact zFl))|(refine zBZ (m:=(mixT r.trs (new.drop (r.stk.length+1+r.cls.length)) j).length) rfl rfl rfl (by with_reducible exact zD9) (by omega) (by rw[qAC];exact qAN _))|exact zAK rfl|(apply zBZ;exact rfl;exact rfl;exact rfl;(first|with_reducible exact zBQ|with_reducible exact zES|with_reducible exact zD9);omega;(first|(rw[zAl];omega)|(rw[qAC];omega)))|exact zC9 rfl rfl|exact zCl rfl zBO rfl hld rfl|(refine zBv (by kernel_rfl) ?_;refine zOf rfl rfl rfl zBO rfl rfl hmc rfl rfl ?_)|apply ay (hd:=rfl)|exact zAF rfl|exact zAB rfl|refine zBE rfl rfl ?_|exact zBP rfl|exact zAG rfl|exact zAC rfl zC6|exact zAE rfl zB4 rfl rfl|(refine w0' ?_)|refine zAI rfl ?_|apply zAL|apply zAS|refine zAj (by kernel_rfl) (by kernel_rfl) ?_|apply eb_n
  all_goals first|omega|skip
  refine⟨j+1,by omega,by omega,?_⟩
  exact zAT (Le_cons rfl (Le_cons rfl (Le_cons rfl (Le_d rfl (congrArg (fun x=>D.val (.int .i64 x)) (by omega)) (Le_all rfl))))) (zJs rfl rfl rfl rfl (hml2.trans hmt.symm) rfl rfl rfl rfl rfl rfl (congrArg (Ob.buf true _ 5) hset.symm) rfl (zMY rfl rfl)) rfl rfl
 have hjl:¬(j:Int)<(r.trs.length:Int):=by omega
 have hje:j=r.trs.length:=by omega
 subst hje
 rw[zTv]at hmt ⊢
 have hL2:=zJv r.size now oth beg ⟨hs.1,hs.2,hn2⟩
 refine zDa (s:=[(0,.ptr 0 0),(1,.d (i64 n)),(112,.d (i64 (r.trs.length:Int))),(113,.d (i64 (r.trs.length:Int)))]) (h:=MA fx m (gcR r now oth beg new)) (zAT (Le_all rfl) (zEi rfl rfl rfl rfl rfl rfl rfl rfl rfl rfl rfl rfl (zBU rfl) (zBU rfl) (zBU rfl) rfl) rfl rfl) ?_
 rcases hr' with⟨q1,rfl,rfl⟩|⟨q1,rfl,rfl⟩
 ·have q2:¬r.size-(now.length:Int)<n:=by omega
  skip
  repeat' first|apply en_n|apply zAH|apply zAA|apply zAD|apply w0|exact zAK rfl|exact zCm rfl rfl|(refine zAW [1,2,3,4] [] rfl rfl zE3 (hL2) rfl (SArgs_all rfl) rfl (by decide) rfl rfl rfl rfl)|apply ay (hd:=rfl)|exact zAF rfl|exact zAB rfl|exact zAG rfl|exact zAC rfl zBS|exact zAE rfl zBn rfl rfl|refine zAJ rfl ?_|apply zAS|apply zAQ|apply zBc|apply en_e|apply eb_e
  all_goals first|omega|skip
  all_goals exact zHk rfl rfl rfl
 ·have q2:r.size-(now.length:Int)<n:=by omega
  have hS:=zEq m (gcR r now oth beg new) 5
  skip
  repeat' first|apply en_n|apply zAH|apply zAA|apply zAD|apply w0|exact zAK rfl|exact zC9 rfl rfl|exact zCm rfl rfl|(refine zAW [1,2,3,4] [] rfl rfl zE3 (hL2) rfl (SArgs_all rfl) rfl (by decide) rfl rfl rfl rfl)|(refine aVM zDK (hS) (SArgs_all rfl) rfl rfl ?_)|apply ay (hd:=rfl)|exact zAF rfl|exact zAB rfl|exact zAG rfl|exact zAC rfl zBS|exact zAE rfl zBn rfl rfl|refine zAI rfl ?_|refine zAJ rfl ?_|apply zAQ|apply zBc|apply en_r|apply en_e|apply eb_e
  all_goals first|omega|skip
  all_goals exact zHk rfl rfl rfl
end Go.Proofs.YtcagoomibpcdlaaGreatDoor

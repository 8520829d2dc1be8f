import Derived.Test.YtcagoomibpcdlaaGreatDoorMAK
set_option maxHeartbeats 16000000
namespace Go.Proofs.YtcagoomibpcdlaaGreatDoor
open Go.Sx Go.Vm
open _root_.Go.Proofs.Tryz
section
def nW(n:Int): Nat:=wdN [] [] (numR n)
theorem zek(all:List Thing)(ly:List Nat)(n:Int): wdN all ly (numR n)=nW n:=rfl
theorem zEc: (zA3 prog 61).isSome=true:=by rw[zFP];rfl
theorem zEb: (zA3 prog 62).isSome=true:=by rw[zEz];rfl
theorem zGL{α:Type}{f:α->D}{l:List α}{i:Nat}{x:α}(h:l[i]?=some x): (l.map f)[i]?=some (f x):=by rw[qAH,h];rfl
theorem zPW(l:List Nat)(n:Nat): WOb (Ob.buf true 58 1 (w64s (l.take n))) (Ob.buf true 58 1 (w64s l)):=by rw[zKm];exact zL0 _ _
theorem zTE(l:List RCl)(n:Nat): WOb (Ob.buf true 60 3 ((l.take n).map enCl)) (Ob.buf true 60 3 (l.map enCl)):=by rw[qBh];exact zL0 _ _
theorem zZU(l:List RTy)(n:Nat): WOb (Ob.buf true 114 5 ((l.take n).map enTy)) (Ob.buf true 114 5 (l.map enTy)):=by rw[qBh];exact zL0 _ _
theorem zWJ(l:List RCl): WOb (Ob.buf true 60 3 (l.dropLast.map enCl)) (Ob.buf true 60 3 (l.map enCl)):=by rw[qBF];exact zTE _ _
theorem zQQ(l:List RTy): WOb (Ob.buf true 114 5 (l.dropLast.map enTy)) (Ob.buf true 114 5 (l.map enTy)):=by rw[qBF];exact zZU _ _
theorem zb1{fx:Nat->Option Nat}{m:Img}{r:Raw}{η:List Ob}{o0 o1 o2 o3 o4 o5 o6 o7 o8 o9 o:Ob}{q:List Ob}{n7:Nat}(e:η=o0::o1::o2::o3::o4::o5::o6::o7::o8::o9::q)
  (e0:Ob.bx (fx 0) none [.d (.slice (m.pool.map enCn)),.d (.slice (m.code.map enIn)),.ptr 1 0,.buf 5 r.stk.length,.d (i64 r.c.at_),.d (i64 r.c.base),.d (w64 r.c.fn),.buf 6 r.cls.length,.buf 7 n7,.d (i64 r.fin),.nil,.d (i64 r.num),.buf 8 r.out.length,.d (i64 r.steps)]=o0)
  (h7:r.trs.length=n7)
  (e1:Ob.bx (fx 1) none [.buf 2 r.now.length,.buf 3 r.oth.length,.d (i64 r.size),.buf 4 r.beg.length]=o1)
  (e2:Ob.buf true 58 1 (w64s r.now)=o2) (e3:Ob.buf true 58 1 (w64s r.oth)=o3) (e4:Ob.buf true 4 1 (bls r.beg)=o4)
  (e5:Ob.buf true 58 1 (w64s r.stk)=o5) (e6:Ob.buf true 60 3 (r.cls.map enCl)=o6) (e7:WOb (Ob.buf true 114 5 (r.trs.map enTy)) o7) (e8:Ob.buf true 9 1 (r.out.map str)=o8) (e9:o=o9) :
  Pre (MA fx m r++[o]) η:=by
 subst e;subst h7;subst e9
 exact zAK rfl e0 (zAK rfl e1 (zAK rfl e2 (zAK rfl e3 (zAK rfl e4 (zAK rfl e5 (zAK rfl e6 (zD5 rfl e7 (zAK rfl e8 (zAK rfl rfl zAe)))))))))
attribute [local irreducible] zAL Program.underlying Ylds zA2 alex zBZ zBP awp zAb zBh zBg zAW zBF zAp zBG zBR zAr zBV zBY zBe zBM zA8 zBE
theorem zH0(m:Img)(r:Raw){n:Nat}(x:Int)(hl:r.stk.length<=1048576)(h:n<=r.stk.length): zAW prog 81 [.ptr 0 0,.d (i64 (n:Int)),.d (i64 x)] (MX m r) .top (MX m { r with stk:=r.stk.take (r.stk.length-n)++[nW x] }):=by
 have hN:=zRq [] [] x
 have hB:=zGA m r (w:=nW x) hl h
 refine zBr func81 rfl ntmps81 results81 rfl ?_
 intro wb St0 X fx
 exact yR
theorem zXI(m:Img)(r:Raw)(n:Int)(h:r.trs=[]): zAW prog 50 [.ptr 0 0,.d (i64 n)] (MX m r) .top (MX m { r with num:=n,fin:=2 }):=by
 have hS:=zFv m { r with num:=n } 2
 have hl:(r.trs.length:Int)=0:=by rw[h];rfl
 refine zBr func50 rfl ntmps50 results50 rfl ?_
 intro wb St0 X fx
 exact yU
theorem zYK(m:Img)(r:Raw){w:Nat}{cl:RCl}(hc:r.cls.getLast? = some cl)(hw:r.stk.getLast? = some w)(hb:0<=r.c.base/\r.c.base<=r.stk.length)(hl:r.stk.length<=1048576)(hl2:r.cls.length<=1048576):
  zAW prog 45 [.ptr 0 0] (MX m r) .top (MX m { r with stk:=r.stk.take r.c.base.toNat++[w],c:=cl,cls:=r.cls.dropLast }):=by
 have h0:0<r.stk.length:=by cases hs:r.stk with|nil=>rw[hs]at hw;cases hw|cons _ _=>exact Nat.succ_pos _
 have hT:=zCH m r (k:=0) (w:=w) h0 (by rw[Nat.sub_zero,<-qBG];exact hw) hl
 have h1:0<r.cls.length:=by cases hs:r.cls with|nil=>rw[hs]at hc;cases hc|cons _ _=>exact Nat.succ_pos _
 have hP:=zIw m { r with stk:=r.stk.take r.c.base.toNat,c:=cl,cls:=r.cls.dropLast } (w:=w) (by show (List.take _ _).length<=_;rw[qAG];omega)
 have hld:(r.cls.map enCl)[((r.cls.length:Int)-1).toNat]?=some (enCl cl):=by
  refine zGL ?_
  rw[show ((r.cls.length:Int)-1).toNat=r.cls.length-1 by omega,<-qBG];exact hc
 have l5:(r.stk.take r.c.base.toNat).length=r.c.base.toNat:=by rw[qAG];omega
 have l6:r.cls.dropLast.length=((r.cls.length:Int)-1).toNat:=by rw[qAy];omega
 refine zBr func45 rfl ntmps45 results45 rfl ?_
 intro wb St0 X fx
 repeat' first|(refine zGk (id:=4) (s:=[(0,.ptr 0 0),(2,.d (w64 w))]) (h:=MA fx m { r with stk:=r.stk.take r.c.base.toNat,c:=cl,cls:=r.cls.dropLast }) (zAU (Le_all rfl) (zFl rfl rfl l5 l6 rfl rfl rfl rfl rfl rfl rfl rfl (zPW _ _) (zWJ _) (zBs rfl) rfl) rfl rfl) ?_)|apply en_n|apply zAE|apply zAA|apply zAB|apply w0|(refine zCJ (by kernel_rfl) ?_;refine aStA ?_)|(apply zHH;exact rfl;(first|with_reducible exact zEj|with_reducible exact zEc|with_reducible exact zEb);exact rfl;omega;exact⟨_,_,_,_,rfl,(by first|exact qA2 (zAq _).symm|exact qA2 (qAC _).symm)⟩)|(apply zBQ;exact rfl;exact rfl;exact rfl;(first|with_reducible exact zBk|with_reducible exact zFP|with_reducible exact zEz);omega;(first|(rw[zAq];omega)|(rw[qAC];omega)))|(refine zEf rfl (by with_reducible exact zCc) rfl hld rfl rfl rfl)|exact qcA [0,1,2,3,4,5,6,7,8] [] zBJ (hT)|(refine aVMA zGO (hP) ?_)|refine ayA rfl ?_|apply ay (hd:=rfl)|refine zCe rfl rfl ?_|(refine w0' ?_)|refine awDA ?_
 all_goals first|omega|skip
 all_goals exact zE5 rfl
end
section
def vD(s:CS)(b:Bool): D:=.agg [i64 s.of,i64 s.height,zBU s.tries,bl b]
def enCS: Option CS->D
 |none=>vD ⟨0,0,[]⟩ false
 |some s=>vD s true
def hasD(L:List (Int×Int)): List (Int×D):=L.map fun p=>(p.1,i64 p.2)
theorem zOW: ∀(L:List (Int×Int)) (k:Int),(zH3 (hasD L) k).getD (i64 0)=i64 (getI L k)
 |[],_=>rfl
 |(a,b)::r,k=>by
  show (zH3 ((a,i64 b)::hasD r) k).getD (i64 0)=_
  rw[zH3,getI]
  split
  ·rfl
  ·exact zOW r k
theorem zQt: ∀(L:List (Int×Int)) (k v:Int),putK (hasD L) k (i64 v)=hasD (putI L k v)
 |[],_,_=>rfl
 |(a,b)::r,k,v=>by
  show putK ((a,i64 b)::hasD r) k (i64 v)=_
  rw[putK,putI]
  split
  ·rfl
  ·rw[zQt r k v];rfl
abbrev cki(a:Int): Value:=.int .i64 a
abbrev CX(m:Img)(c:CK): List Ob :=
 [.box [.d (.slice (m.pool.map enCn)),.d (.slice (m.code.map enIn)),.buf 1 c.at_.length,.mp 2,.buf 3 c.work.length,.d (bl c.bad)],
  .buf true 151 4 (c.at_.map enCS),.map none (kvs cki (hasD c.has)),.buf true 3 1 (c.work.map ival)]
def CA(fx:Nat->Option Nat)(m:Img)(c:CK): List Ob :=
 [.bx (fx 0) none [.d (.slice (m.pool.map enCn)),.d (.slice (m.code.map enIn)),.buf 1 c.at_.length,.mp 2,.buf 3 c.work.length,.d (bl c.bad)],
  .buf true 151 4 (c.at_.map enCS),.map (fx 2) (kvs cki (hasD c.has)),.buf true 3 1 (c.work.map ival)]
abbrev ids4: List Nat:=[0,1,2,3]
theorem zbC: ids4.Nodup:=by decide
theorem zZS(fx:Nat->Option Nat)(m:Img)(c:CK): (CA fx m c).all (Ob.below (CA fx m c).length)=true:=rfl
theorem zZO{fx:Nat->Option Nat}{m:Img}{c:CK}{tl:List Ob}: Pre (CA fx m c) (CA fx m c++tl):=zAK rfl rfl (zAK rfl rfl (zAK rfl rfl (zAK rfl rfl zAe)))
theorem zH1{f:FuncId}{fn:Func}{c:Code}{avs:List SV}{m:Img}{r r':CK}{res:SV}{N:Nat}{rs:Array ResultVar}(hf:prog.funcs[f]?=some fn)(hb:fn.body=some c)(hN:fn.ntmps=N)(hrs:fn.results=rs)(hl:Nat.ble avs.length N=true)
  (h:∀(w0:World) (St0:Stab) (X:Nat->Prop) (fx:Nat->Option Nat),awp ⟨prog,N,w0,St0,X,0⟩ c (zBM rs res (CA fx m r')) (zHx avs 0) (CA fx m r)):zAW prog f avs (CX m r) res (CX m r') :=
 zEh hf hb hN hrs hl rfl rfl h
theorem zFi{fx:Nat->Option Nat}{m:Img}{r:CK}{σ:Sl}{η tl:List Ob}(he:η=CA fx m r++tl): zBM #[] .top (CA fx m r) .normal σ η:=by
 subst he
 exact zC5 ⟨rfl,zAU Le_nil zZO rfl (zZS fx m r)⟩
theorem za1{fx:Nat->Option Nat}{m:Img}{r:CK}{σ:Sl}{η tl:List Ob}(he:η=CA fx m r++tl): zBM #[] .top (CA fx m r) .ret σ η:=by
 subst he
 exact zDe ⟨rfl,zAU Le_nil zZO rfl (zZS fx m r)⟩
theorem CA_l{fx:Nat->Option Nat}{m:Img}{r:CK}{n1 n3:Nat}{b:Bool}{l1 l3:List D}{lh:List (Value×D)}(h1:r.at_.length=n1)(h3:r.work.length=n3)(hb:r.bad=b)(e1:r.at_.map enCS=l1)(eh:kvs cki (hasD r.has)=lh)(e3:r.work.map ival=l3):
  [.bx (fx 0) none [.d (.slice (m.pool.map enCn)),.d (.slice (m.code.map enIn)),.buf 1 n1,.mp 2,.buf 3 n3,.d (bl b)],.buf true 151 4 l1,.map (fx 2) lh,.buf true 3 1 l3]=CA fx m r:=by
 subst h1 h3 hb e1 eh e3;rfl
theorem zXl{fx:Nat->Option Nat}{m:Img}{r:CK}{σ:Sl}{η tl:List Ob}{n1 n3:Nat}{b:Bool}{l1 l3:List D}{lh:List (Value×D)}
  (he:η=[.bx (fx 0) none [.d (.slice (m.pool.map enCn)),.d (.slice (m.code.map enIn)),.buf 1 n1,.mp 2,.buf 3 n3,.d (bl b)],.buf true 151 4 l1,.map (fx 2) lh,.buf true 3 1 l3]++tl)
  (h1:r.at_.length=n1) (h3:r.work.length=n3) (hb:r.bad=b) (e1:r.at_.map enCS=l1) (eh:kvs cki (hasD r.has)=lh) (e3:r.work.map ival=l3):zBM #[] .top (CA fx m r) .normal σ η:=by
 rw[CA_l h1 h3 hb e1 eh e3]at he
 exact zFi he
attribute [local irreducible] zAL Program.underlying Ylds zA2 alex zBZ zBP awp zAb zBh zBg zAW zBF zAp zCO zBG zBR zAr zBV zBY zBe zCQ zBM zA8 zBE
theorem aCK{N d:Nat}{w0:World}{St0:Stab}{X:Nat->Prop}{ops:Array Oper}{rest:List Oper}{K:Sl->List Ob->Prop}{σ:Sl}{ty:TypeId}{pos:String}{after:Array Edge}{gd:Option (Nat×Bool)}{f:FuncId}{args:List Operand}{ts:Array TypeId}{avs:List SV}{m:Img}{r r':CK}{res:SV}{fx:Nat->Option Nat}{η tl tl':List Ob}(hb:zAL prog f=true)(hc:zAW prog f avs (CX m r) res (CX m r'))(ha:SArgs σ ids4 args avs)(hd:Nat.blt d N=true)(hba:avs.all (SV.bel 4)=true)
  (he:η=CA fx m r++tl) (hw:zFT (zB2 ids4 (CX m r)) ids4 tl=tl')
  (h:alex ⟨prog,N,w0,St0,X,0⟩ false ops rest K ((d,res.ren ids4)::zEl (zB2 ids4 (CX m r)) ids4 σ) (CA fx m r'++tl')) :
  zA2 ⟨prog,N,w0,St0,X,0⟩ false ops ⟨some d,.call ⟨.value (.func f),args.toArray,ts⟩,ty,pos,after,gd⟩ rest K σ η:=by
 subst he
 have e:zD6 (zFT (zB2 ids4 (CX m r)) ids4 (CA fx m r++tl)) ids4 ((CX m r').map (Ob.ren ids4))=CA fx m r'++tl':=by rw[<-hw];rfl
 have hh:=(congrArg (alex ⟨prog,N,w0,St0,X,0⟩ false ops rest K ((d,res.ren ids4)::zEl (zB2 ids4 (CX m r)) ids4 σ)) e).mpr h
 refine zHi (C:=⟨prog,N,w0,St0,X,0⟩) (η:=CA fx m r++tl) ids4 hb hc ha ?_ hd zbC ?_ ?_ ?_ hba ?_ ?_ hh
 ·rfl
 ·rfl
 ·rfl
 ·rfl
 ·rfl
 ·rfl
theorem zWC(A B:List Int)(hL:A.length<=2000000): zAb prog 151 [zBU A,zBU B] (bl (decide (A=B))):=by
 refine zAj func151 rfl ntmps151 results151 rfl ?_
 intro wb St0
 repeat' first|apply en_n|apply zAE|apply zAA|apply zAB|apply w0|refine ayA rfl ?_|apply ay (hd:=rfl)|exact zJf rfl rfl|(apply zBO;exact rfl;all_goals intro hb)|apply zAO|apply zAP|apply zAM|apply en_r|apply zAS|refine res1 rfl ?_
 ·have:A≠B:=fun e=>by subst e;omega
  rw[decide_eq_false this]
 ·have hlen:A.length=B.length:=by omega
  refine zBA (α:=Nat) (fun i=>i<=A.length/\A.take i=B.take i) (fun i=>[(0,.d (zBU A)),(1,.d (zBU B)),(12,.d (i64 (A.length:Int))),(13,.d (i64 (i:Int)))]) (fun _=>[]) (fun i=>A.length-i) 0 ⟨qAQ _,rfl⟩
   (zAU (Le_all rfl) zAe rfl rfl) ?_
  rintro i ⟨hi1,hi2⟩
  repeat' first|apply en_n|apply zAE|apply zAA|apply zAB|apply w0|(apply aI (hd:=rfl);(first|exact zA0 rfl|exact zBX rfl rfl rfl|exact Co_nn rfl);exact rfl;(with_reducible exact zBf);exact fun _=>rfl;rotate_left;intro v hv;rotate_right)|refine ayA rfl ?_|apply ay (hd:=rfl)|exact zES rfl rfl|exact zJf rfl rfl|refine zBp rfl rfl ?_|(apply zBO;exact rfl;all_goals intro hb)|apply zAO|apply zAP|apply zAM|apply zBH|refine awDA ?_|apply en_r|apply en_e|apply eb_n|apply eb_r|apply eb_e|apply zAS|refine res1 rfl ?_
  ·omega
  ·omega
  ·rename_i b1 b2 u hu
   have:A≠B:=by rintro rfl;rw[hu]at hv;exact hb (qBA hv)
   rw[decide_eq_false this]
  ·omega
  ·rename_i b1 b2 u hu
   obtain rfl:u=v:=Decidable.not_not.1 hb
   exact⟨i+1,⟨by omega,zGc (i:=i) hi2 hu hv⟩,by omega,zAU (Le_all rfl) zAe rfl rfl⟩
  ·have h1:=hi2
   rw[show i=A.length by omega,qAw,hlen,qAw]at h1
   rw[decide_eq_true h1]
theorem zWb(a b:CS)(x y:Bool)(hL:a.tries.length<=2000000): zAb prog 119 [vD a x,vD b y] (bl (decide (a=b))):=by
 have hE:=zWC a.tries b.tries hL
 obtain⟨o1,h1,t1⟩:=a
 obtain⟨o2,h2,t2⟩:=b
 refine zAj func119 rfl ntmps119 results119 rfl ?_
 intro wb St0
 unfold vD
 dsimp only at *
 repeat' first|apply en_n|apply zAE|apply zAA|apply zAB|apply w0|refine k1u (hd:=rfl) rfl rfl ?_|exact ycA zJ2 hE|refine aBoA ?_|refine ayA rfl ?_|apply ay (hd:=rfl)|exact zFC rfl rfl|refine w1 rfl rfl ?_|(apply gD;exact rfl;exact rfl;all_goals intro hb)|apply zAM|apply zAS|refine res1 rfl ?_
 ·rename_i e1
  exact congrArg bl (decide_eq_decide.2 ⟨fun e=>by rw[e1,hb,e],fun e=>(CS.mk.inj e).2.2⟩)
 ·exact congrArg bl (decide_eq_false fun e=>hb (CS.mk.inj e).2.1).symm
 ·exact congrArg bl (decide_eq_false fun e=>hb (CS.mk.inj e).1).symm
theorem zZq(s:List UInt8): zAb prog 152 [str s] (bl (conF s)):=by
 refine zAj func152 rfl ntmps152 results152 rfl ?_
 intro wb St0
 repeat' first|apply en_n|apply zAE|apply zAA|apply zAB|apply w0|exact zBI zUP zYk (PD_d rfl rfl (PD_d rfl rfl zCI)) rfl|exact ycA zXy (zYg ⟨2,s,0,0⟩)|refine ayA rfl ?_|apply ay (hd:=rfl)|apply zAM|apply zAS|refine res1 rfl ?_
 rfl
abbrev zJk(m:Img)(c c':CK)(k:Int)(s:CS): Prop:=zAW prog 73 [.ptr 0 0,.d (i64 k),.d (vD s false)] (CX m c) .top (CX m c')
theorem zRU(m:Img)(c:CK)(k:Int)(s:CS)(h:k>=(m.code.length:Int)): zJk m c { c with bad:=true } k s:=by
 have hk:¬k<(m.code.length:Int):=by omega
 refine zH1 func73 rfl ntmps73 results73 rfl ?_
 intro wb St0 X fx
 unfold vD
 exact yI
theorem zRW(m:Img)(c:CK)(k:Nat)(s:CS)(hl:c.at_.length=m.code.length)(h:c.at_[k]?=some none)(hw:c.work.length<=1048576)(_hcl:m.code.length<=1048576): zJk m c { c with at_:=c.at_.set k (some s),work:=c.work++[(k:Int)] } k s:=by
 have hlt:=(qAA.1 h).1
 have hk:¬(k:Int)>=(m.code.length:Int):=by omega
 have hat:(c.at_.map enCS)[k]?=some (vD ⟨0,0,[]⟩ false):=by rw[qAH,h];rfl
 refine zH1 func73 rfl ntmps73 results73 rfl ?_
 intro wb St0 X fx
 unfold vD at *
 repeat' first|exact zDv rfl zG5|apply en_n|apply zAE|apply zAA|apply zAB|apply w0|(apply zAG;exact rfl;(first|with_reducible exact zDz|with_reducible exact zFO|with_reducible exact zB1);exact rfl;exact rfl)|(apply zBQ;exact rfl;exact rfl;exact rfl;(with_reducible exact zKO);omega;(rw[qAC];omega))|exact zCT rfl zAm rfl hat rfl|(refine zCJ (by kernel_rfl) ?_;apply zIY;exact rfl;exact rfl;(with_reducible exact zFu);exact rfl;exact rfl;(rw[qAC];omega);exact rfl)|(refine zCA zBn zBf zET rfl rfl (zAN rfl zAH) rfl)|refine aApA (id:=3) ?_ ?_|refine aBoA ?_|refine ayA rfl ?_|refine ayQ rfl ?_|apply ay (hd:=rfl)|(refine w0' ?_)|refine aStA ?_|refine zAJ rfl ?_|refine zAI rfl ?_|apply zAO|refine awDA ?_|apply eb_n
 all_goals first|(rw[qAC];omega)|omega|(simp only[qAN,qAj];omega)|skip
 all_goals exact zXl rfl (qAZ ..) (by rw[qAE];rfl) rfl (by rw[qBr];rfl) rfl (by rw[qAU];rfl)
theorem zRV(m:Img)(c:CK)(k:Nat)(s s':CS)(hl:c.at_.length=m.code.length)(h:c.at_[k]?=some (some s'))(ht:s'.tries.length<=2000000)(_hcl:m.code.length<=1048576): zJk m c (if s'=s then c else { c with bad:=true }) k s:=by
 have hlt:=(qAA.1 h).1
 have hk:¬(k:Int)>=(m.code.length:Int):=by omega
 have hat:(c.at_.map enCS)[k]?=some (vD s' true):=by rw[qAH,h];rfl
 have hat2:(c.at_.map enCS)[((k:Nat):Int).toNat]?=some (vD s' true):=hat
 have hS:=zWb s' s true true ht
 refine zH1 func73 rfl ntmps73 results73 rfl ?_
 intro wb St0 X fx
 by_cases e:s'=s
 all_goals
  first|rw[if_pos e]|rw[if_neg e]
  first|rw[decide_eq_true e]at hS|rw[decide_eq_false e]at hS
  unfold vD at *
  skip
  exact yI
theorem zbc(m:Img)(c:CK)(k:Int)(s:CS)(hk:0<=k)(hc:CInv m c)(hw:c.work.length<=1048576)(hcl:m.code.length<=1048576)(ht:∀(q:Nat) (x:CS),c.at_[q]?=some (some x)->x.tries.length<=2000000): zJk m c (c.come k s) k s:=by
 have hl:=hc.len
 unfold CK.come
 have ek:k=(k.toNat:Int):=(qA0 hk).symm
 cases h:c.at_[k.toNat]? with
 |none =>
  have:=qBP.1 h
  exact zRU m c k s (by omega)
 |some o =>
  cases o with
  |none =>
   have:=zRW m c k.toNat s hl h hw hcl
   rw[<-ek]at this;exact this
  |some s' =>
   have:=zRV m c k.toNat s s' hl h (ht _ _ h) hcl
   rw[<-ek]at this;exact this

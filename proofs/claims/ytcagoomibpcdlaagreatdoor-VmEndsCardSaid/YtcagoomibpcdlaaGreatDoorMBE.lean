/- Parts of the proof. -/
import Derived.Test.YtcagoomibpcdlaaGreatDoorMAN
set_option maxHeartbeats 16000000
namespace Go.Proofs.YtcagoomibpcdlaaGreatDoor
open _root_.Go.Proofs.Tryz
open Go.Sx Go.Vm
def nW(n:Int): Nat:=wdN [] [] (numR n)
theorem zal(all:List Thing)(ly:List Nat)(n:Int): wdN all ly (numR n)=nW n:=rfl
theorem zDs: (zA2 prog 61).isSome=true:=by rw[zEa];rfl
theorem zDr: (zA2 prog 62).isSome=true:=by rw[zEC];rfl
theorem zB6{α:Type}{f:α->D}{l:List α}{i:Nat}{x:α}(h:l[i]?=some x): (l.map f)[i]?=some (f x):=by rw[qAL,h];rfl
theorem zNH(l:List Nat)(n:Nat): WOb (Ob.buf true 58 1 (w64s (l.take n))) (Ob.buf true 58 1 (w64s l)):=by rw[zJH];exact zKJ _ _
theorem zQf(l:List RCl)(n:Nat): WOb (Ob.buf true 60 3 ((l.take n).map enCl)) (Ob.buf true 60 3 (l.map enCl)):=by rw[qBb];exact zKJ _ _
theorem zWI(l:List RTy)(n:Nat): WOb (Ob.buf true 114 5 ((l.take n).map enTy)) (Ob.buf true 114 5 (l.map enTy)):=by rw[qBb];exact zKJ _ _
theorem zTM(l:List RCl): WOb (Ob.buf true 60 3 (l.dropLast.map enCl)) (Ob.buf true 60 3 (l.map enCl)):=by rw[qBY];exact zQf _ _
theorem zN7(l:List RTy): WOb (Ob.buf true 114 5 (l.dropLast.map enTy)) (Ob.buf true 114 5 (l.map enTy)):=by rw[qBY];exact zWI _ _
theorem zYU{fx:Nat->Option Nat}{m:Img}{r:Raw}{η:List Ob}{o0 o1 o2 o3 o4 o5 o6 o7 o8 o9 o:Ob}{q:List Ob}{n7:Nat}(e:η=o0::o1::o2::o3::o4::o5::o6::o7::o8::o9::q)
  (e0:Ob.bx (fx 0) none [.d (.slice (m.pool.map enCn)),.d (.slice (m.code.map enIn)),.ptr 1 0,.buf 5 r.stk.length,.d (i64 r.c.at_),.d (i64 r.c.base),.d (w64 r.c.fn),.buf 6 r.cls.length,.buf 7 n7,.d (i64 r.fin),.nil,.d (i64 r.num),.buf 8 r.out.length,.d (i64 r.steps)]=o0)
  (h7:r.trs.length=n7)
  (e1:Ob.bx (fx 1) none [.buf 2 r.now.length,.buf 3 r.oth.length,.d (i64 r.size),.buf 4 r.beg.length]=o1)
  (e2:Ob.buf true 58 1 (w64s r.now)=o2) (e3:Ob.buf true 58 1 (w64s r.oth)=o3) (e4:Ob.buf true 4 1 (bls r.beg)=o4)
  (e5:Ob.buf true 58 1 (w64s r.stk)=o5) (e6:Ob.buf true 60 3 (r.cls.map enCl)=o6) (e7:WOb (Ob.buf true 114 5 (r.trs.map enTy)) o7) (e8:Ob.buf true 9 1 (r.out.map str)=o8) (e9:o=o9) :
  Pre (MA fx m r++[o]) η:=by
 subst e;subst h7;subst e9
 exact zAN rfl e0 (zAN rfl e1 (zAN rfl e2 (zAN rfl e3 (zAN rfl e4 (zAN rfl e5 (zAN rfl e6 (zHC rfl e7 (zAN rfl e8 (zAN rfl rfl zAs)))))))))
attribute [local irreducible] zAO Program.underlying Ylds zBE alex zB0 zBk awp zAg zB9 zB8 zAU zBj zA6 zBl zBn zBC zBq zBz zB7 zBm zBc zBe
theorem zGX(m:Img)(r:Raw){n:Nat}(x:Int)(hl:r.stk.length<=1048576)(h:n<=r.stk.length): zAU prog 81 [.ptr 0 0,.d (i64 (n:Int)),.d (i64 x)] (MX m r) .top (MX m { r with stk:=r.stk.take (r.stk.length-n)++[nW x] }):=by
 have hN:=zPO [] [] x
 have hB:=zFC m r (w:=nW x) hl h
 refine zA7 func81 rfl ntmps81 results81 rfl ?_
 intro wb St0 X fx
 repeat' first|apply zAA|apply zAD|apply w0|(refine zAd zGF hN (CoLA rfl))|(refine aVM zD8 (hB) (SArgs_all rfl) rfl rfl ?_)|apply ay (hd:=rfl)|exact zAF rfl|exact zAH rfl
 all_goals exact zEG rfl
theorem zUH(m:Img)(r:Raw)(n:Int)(h:r.trs=[]): zAU prog 50 [.ptr 0 0,.d (i64 n)] (MX m r) .top (MX m { r with num:=n,fin:=2 }):=by
 have hS:=zEx m { r with num:=n } 2
 have hl:(r.trs.length:Int)=0:=by rw[h];rfl
 refine zA7 func50 rfl ntmps50 results50 rfl ?_
 intro wb St0 X fx
 repeat' first|apply en_n|apply zAG|apply zAA|apply zAD|apply w0|exact zAi rfl rfl|exact zAL rfl|(refine aVM zDL (hS) (SArgs_all rfl) rfl rfl ?_)|apply ay (hd:=rfl)|exact zAF rfl|exact zA3 rfl zGs|exact zAH rfl|(apply zAC;exact rfl;(with_reducible first|exact zLr|exact zC8|exact zCB))|exact zAE rfl zCD rfl rfl|(refine w0' ?_)|refine zAj rfl rfl rfl zEP rfl rfl rfl rfl ?_|refine zAI rfl ?_|apply zAQ|apply en_r
 all_goals first|omega|skip
 all_goals exact zDW rfl
theorem zVD(m:Img)(r:Raw){w:Nat}{cl:RCl}(hc:r.cls.getLast? = some cl)(hw:r.stk.getLast? = some w)(hb:0<=r.c.base/\r.c.base<=r.stk.length)(hl:r.stk.length<=1048576)(hl2:r.cls.length<=1048576):
  zAU prog 45 [.ptr 0 0] (MX m r) .top (MX m { r with stk:=r.stk.take r.c.base.toNat++[w],c:=cl,cls:=r.cls.dropLast }):=by
 have h0:0<r.stk.length:=by cases hs:r.stk with|nil=>rw[hs]at hw;cases hw|cons _ _=>exact Nat.succ_pos _
 have hT:=zB4 m r (k:=0) (w:=w) h0 (by rw[Nat.sub_zero,<-qBS];exact hw) hl
 have h1:0<r.cls.length:=by cases hs:r.cls with|nil=>rw[hs]at hc;cases hc|cons _ _=>exact Nat.succ_pos _
 have hP:=zHQ m { r with stk:=r.stk.take r.c.base.toNat,c:=cl,cls:=r.cls.dropLast } (w:=w) (by show (List.take _ _).length<=_;rw[qAK];omega)
 have hld:(r.cls.map enCl)[((r.cls.length:Int)-1).toNat]?=some (enCl cl):=by
  refine zB6 ?_
  rw[show ((r.cls.length:Int)-1).toNat=r.cls.length-1 by omega,<-qBS];exact hc
 have l5:(r.stk.take r.c.base.toNat).length=r.c.base.toNat:=by rw[qAK];omega
 have l6:r.cls.dropLast.length=((r.cls.length:Int)-1).toNat:=by rw[qAv];omega
 refine zA7 func45 rfl ntmps45 results45 rfl ?_
 intro wb St0 X fx
 repeat' first|(refine zFZ (id:=4) (s:=[(0,.ptr 0 0),(2,.d (w64 w))]) (h:=MA fx m { r with stk:=r.stk.take r.c.base.toNat,c:=cl,cls:=r.cls.dropLast }) (zAS (Le_all rfl) (zEp rfl rfl l5 l6 rfl rfl rfl rfl rfl rfl rfl rfl (zNH _ _) (zTM _) (zBf rfl) rfl) rfl rfl) ?_)|apply en_n|apply zAG|apply zAA|apply zAD|apply w0|exact zAL rfl|(refine zBs (by kernel_rfl) ?_;apply zAj;exact rfl;exact rfl;exact rfl;(first|with_reducible exact zBJ|with_reducible exact zCT|with_reducible exact zCG|with_reducible exact zCD|with_reducible exact zCV|with_reducible exact zBU|with_reducible exact zAP);exact rfl;exact rfl;exact rfl;exact rfl)|(apply zF1;exact rfl;(first|with_reducible exact zD1|with_reducible exact zDs|with_reducible exact zDr);exact rfl;omega;exact⟨_,_,_,_,rfl,(by first|exact qA1 (zAm _).symm|exact qA1 (qAC _).symm)⟩)|(apply zBM;exact rfl;exact rfl;exact rfl;(first|with_reducible exact zBY|with_reducible exact zEa|with_reducible exact zEC);omega;(first|(rw[zAm];omega)|(rw[qAC];omega)))|(refine zDw rfl (by with_reducible exact zCT) rfl hld rfl rfl rfl)|(refine zAX [0,1,2,3,4,5,6,7,8] [] rfl rfl zAw (hT) rfl (SArgs_all rfl) rfl (by decide) rfl rfl rfl rfl)|(refine aVM zEH (hP) (SArgs_all rfl) rfl rfl ?_)|apply ay (hd:=rfl)|exact zAF rfl|exact zAB rfl|refine zC2 rfl rfl ?_|exact zA3 rfl zGt|exact zAH rfl|(apply zAC;exact rfl;(with_reducible first|exact zIG|exact zCn|exact zAc|exact zDg))|(apply zAE;exact rfl;(with_reducible first|exact zBJ|exact zCG|exact zAP);exact rfl;exact rfl)|(refine w0' ?_)|refine zAf (by kernel_rfl) (by kernel_rfl) ?_
 all_goals first|omega|skip
 all_goals exact zEG rfl
end Go.Proofs.YtcagoomibpcdlaaGreatDoor
namespace Go.Proofs.YtcagoomibpcdlaaGreatDoor
open _root_.Go.Proofs.Tryz
open Go.Sx Go.Vm
def vD(s:CS)(b:Bool): D:=.agg [i64 s.of,i64 s.height,zBW s.tries,bl b]
def enCS: Option CS->D
 |none=>vD ⟨0,0,[]⟩ false
 |some s=>vD s true
def hasD(L:List (Int×Int)): List (Int×D):=L.map fun p=>(p.1,i64 p.2)
theorem zMQ: ∀(L:List (Int×Int)) (k:Int),(zGZ (hasD L) k).getD (i64 0)=i64 (getI L k)
 |[],_=>rfl
 |(a,b)::r,k=>by
  show (zGZ ((a,i64 b)::hasD r) k).getD (i64 0)=_
  rw[zGZ,getI]
  split
  ·rfl
  ·exact zMQ r k
theorem zOZ: ∀(L:List (Int×Int)) (k v:Int),putK (hasD L) k (i64 v)=hasD (putI L k v)
 |[],_,_=>rfl
 |(a,b)::r,k,v=>by
  show putK ((a,i64 b)::hasD r) k (i64 v)=_
  rw[putK,putI]
  split
  ·rfl
  ·rw[zOZ r k v];rfl
abbrev cki(a:Int): Value:=.int .i64 a
abbrev CX(m:Img)(c:CK): List Ob :=
 [.box [.d (.slice (m.pool.map enCn)),.d (.slice (m.code.map enIn)),.buf 1 c.at_.length,.mp 2,.buf 3 c.work.length,.d (bl c.bad)],
  .buf true 151 4 (c.at_.map enCS),.map none (kvs cki (hasD c.has)),.buf true 3 1 (c.work.map ival)]
def CA(fx:Nat->Option Nat)(m:Img)(c:CK): List Ob :=
 [.bx (fx 0) none [.d (.slice (m.pool.map enCn)),.d (.slice (m.code.map enIn)),.buf 1 c.at_.length,.mp 2,.buf 3 c.work.length,.d (bl c.bad)],
  .buf true 151 4 (c.at_.map enCS),.map (fx 2) (kvs cki (hasD c.has)),.buf true 3 1 (c.work.map ival)]
abbrev ids4: List Nat:=[0,1,2,3]
theorem zXi: ids4.Nodup:=by decide
theorem zWF(fx:Nat->Option Nat)(m:Img)(c:CK): (CA fx m c).all (Ob.below (CA fx m c).length)=true:=rfl
theorem zWB{fx:Nat->Option Nat}{m:Img}{c:CK}{tl:List Ob}: Pre (CA fx m c) (CA fx m c++tl):=zAN rfl rfl (zAN rfl rfl (zAN rfl rfl (zAN rfl rfl zAs)))
theorem zDC{f:FuncId}{fn:Func}{c:Code}{avs:List SV}{m:Img}{r r':CK}{res:SV}{N:Nat}{rs:Array ResultVar}(hf:prog.funcs[f]?=some fn)(hb:fn.body=some c)(hN:fn.ntmps=N)(hrs:fn.results=rs)(hl:Nat.ble avs.length N=true)
  (h:∀(w0:World) (St0:Stab) (X:Nat->Prop) (fx:Nat->Option Nat),awp ⟨prog,N,w0,St0,X,0⟩ c (zBm rs res (CA fx m r')) (zGU avs 0) (CA fx m r)):zAU prog f avs (CX m r) res (CX m r') :=
 zFV hf hb hN hrs hl rfl rfl h
theorem zBP{fx:Nat->Option Nat}{m:Img}{r:CK}{σ:Sl}{η tl:List Ob}(he:η=CA fx m r++tl): zBm #[] .top (CA fx m r) .normal σ η:=by
 subst he
 exact zCl ⟨rfl,zAS Le_nil zWB rfl (zWF fx m r)⟩
theorem zXW{fx:Nat->Option Nat}{m:Img}{r:CK}{σ:Sl}{η tl:List Ob}(he:η=CA fx m r++tl): zBm #[] .top (CA fx m r) .ret σ η:=by
 subst he
 exact zDI ⟨rfl,zAS Le_nil zWB rfl (zWF fx m r)⟩
theorem CA_l{fx:Nat->Option Nat}{m:Img}{r:CK}{n1 n3:Nat}{b:Bool}{l1 l3:List D}{lh:List (Value×D)}(h1:r.at_.length=n1)(h3:r.work.length=n3)(hb:r.bad=b)(e1:r.at_.map enCS=l1)(eh:kvs cki (hasD r.has)=lh)(e3:r.work.map ival=l3):
  [.bx (fx 0) none [.d (.slice (m.pool.map enCn)),.d (.slice (m.code.map enIn)),.buf 1 n1,.mp 2,.buf 3 n3,.d (bl b)],.buf true 151 4 l1,.map (fx 2) lh,.buf true 3 1 l3]=CA fx m r:=by
 subst h1 h3 hb e1 eh e3;rfl
theorem zUk{fx:Nat->Option Nat}{m:Img}{r:CK}{σ:Sl}{η tl:List Ob}{n1 n3:Nat}{b:Bool}{l1 l3:List D}{lh:List (Value×D)}
  (he:η=[.bx (fx 0) none [.d (.slice (m.pool.map enCn)),.d (.slice (m.code.map enIn)),.buf 1 n1,.mp 2,.buf 3 n3,.d (bl b)],.buf true 151 4 l1,.map (fx 2) lh,.buf true 3 1 l3]++tl)
  (h1:r.at_.length=n1) (h3:r.work.length=n3) (hb:r.bad=b) (e1:r.at_.map enCS=l1) (eh:kvs cki (hasD r.has)=lh) (e3:r.work.map ival=l3):zBm #[] .top (CA fx m r) .normal σ η:=by
 rw[CA_l h1 h3 hb e1 eh e3]at he
 exact zBP he
attribute [local irreducible] zAO Program.underlying Ylds zBE alex zB0 zBk awp zAg zB9 zB8 zAU zBj zA6 zDJ zBl zBn zBC zBq zBz zB7 zDQ zBm zBc zBe
theorem aCK{N d:Nat}{w0:World}{St0:Stab}{X:Nat->Prop}{ops:Array Oper}{rest:List Oper}{K:Sl->List Ob->Prop}{σ:Sl}{ty:TypeId}{pos:String}{after:Array Edge}{gd:Option (Nat×Bool)}{f:FuncId}{args:List Operand}{ts:Array TypeId}{avs:List SV}{m:Img}{r r':CK}{res:SV}{fx:Nat->Option Nat}{η tl tl':List Ob}(hb:zAO prog f=true)(hc:zAU prog f avs (CX m r) res (CX m r'))(ha:SArgs σ ids4 args avs)(hd:Nat.blt d N=true)(hba:avs.all (SV.bel 4)=true)
  (he:η=CA fx m r++tl) (hw:zEc (zBo ids4 (CX m r)) ids4 tl=tl')
  (h:alex ⟨prog,N,w0,St0,X,0⟩ false ops rest K ((d,res.ren ids4)::zD2 (zBo ids4 (CX m r)) ids4 σ) (CA fx m r'++tl')) :
  zBE ⟨prog,N,w0,St0,X,0⟩ false ops ⟨some d,.call ⟨.value (.func f),args.toArray,ts⟩,ty,pos,after,gd⟩ rest K σ η:=by
 subst he
 have e:zDT (zEc (zBo ids4 (CX m r)) ids4 (CA fx m r++tl)) ids4 ((CX m r').map (Ob.ren ids4))=CA fx m r'++tl':=by rw[<-hw];rfl
 have hh:=(congrArg (alex ⟨prog,N,w0,St0,X,0⟩ false ops rest K ((d,res.ren ids4)::zD2 (zBo ids4 (CX m r)) ids4 σ)) e).mpr h
 refine zGg (C:=⟨prog,N,w0,St0,X,0⟩) (η:=CA fx m r++tl) ids4 hb hc ha ?_ hd zXi ?_ ?_ ?_ hba ?_ ?_ hh
 ·rfl
 ·rfl
 ·rfl
 ·rfl
 ·rfl
 ·rfl
theorem zTF(A B:List Int)(hL:A.length<=2000000): zAg prog 151 [zBW A,zBW B] (bl (decide (A=B))):=by
 refine zAr func151 rfl ntmps151 results151 rfl ?_
 intro wb St0
 repeat' first|apply en_n|apply zAG|apply zAA|apply zAD|apply w0|apply ay (hd:=rfl)|exact zAF rfl|exact zAB rfl|exact zBD rfl zCP|exact zIX rfl rfl|(apply zBa;exact rfl;all_goals intro hb)|apply zAK|apply zAR|apply zAQ|apply en_r|apply zAT|refine res1 rfl ?_
 ·have:A≠B:=fun e=>by subst e;omega
  rw[decide_eq_false this]
 ·have hlen:A.length=B.length:=by omega
  refine zBV (α:=Nat) (fun i=>i<=A.length/\A.take i=B.take i) (fun i=>[(0,.d (zBW A)),(1,.d (zBW B)),(12,.d (i64 (A.length:Int))),(13,.d (i64 (i:Int)))]) (fun _=>[]) (fun i=>A.length-i) 0 ⟨qAV _,rfl⟩
   (zAS (Le_all rfl) zAs rfl rfl) ?_
  rintro i ⟨hi1,hi2⟩
  repeat' first|apply en_n|apply zAG|apply zAA|apply zAD|apply w0|(apply aI (hd:=rfl);(first|exact zCQ rfl|exact zCp rfl rfl rfl|exact Co_nn rfl);exact rfl;(with_reducible exact zA5);exact fun _=>rfl;rotate_left;intro v hv;rotate_right)|apply ay (hd:=rfl)|exact zAF rfl|exact zAB rfl|exact zCK rfl zAP|exact zEM rfl rfl|exact zIX rfl rfl|refine zBG rfl rfl ?_|(apply zBa;exact rfl;all_goals intro hb)|apply zAK|apply zAR|apply zAQ|apply zBX|refine zAf (by kernel_rfl) (by kernel_rfl) ?_|apply en_r|apply en_e|apply eb_n|apply eb_r|apply eb_e|apply zAT|refine res1 rfl ?_
  ·omega
  ·omega
  ·rename_i b1 b2 u hu
   have:A≠B:=by rintro rfl;rw[hu]at hv;exact hb (qBB hv)
   rw[decide_eq_false this]
  ·omega
  ·rename_i b1 b2 u hu
   obtain rfl:u=v:=Decidable.not_not.1 hb
   exact⟨i+1,⟨by omega,zIZ (i:=i) hi2 hu hv⟩,by omega,zAS (Le_all rfl) zAs rfl rfl⟩
  ·have h1:=hi2
   rw[show i=A.length by omega,qA8,hlen,qA8]at h1
   rw[decide_eq_true h1]
theorem zTe(a b:CS)(x y:Bool)(hL:a.tries.length<=2000000): zAg prog 119 [vD a x,vD b y] (bl (decide (a=b))):=by
 have hE:=zTF a.tries b.tries hL
 obtain⟨o1,h1,t1⟩:=a
 obtain⟨o2,h2,t2⟩:=b
 refine zAr func119 rfl ntmps119 results119 rfl ?_
 intro wb St0
 unfold vD
 dsimp only at *
 repeat' first|apply en_n|apply zAG|apply zAA|apply zAD|apply w0|refine k1u (hd:=rfl) rfl rfl ?_|(refine zAd zIU hE (CoLA rfl))|refine aBox (hd:=rfl) (hro:=rfl) rfl rfl ?_|apply ay (hd:=rfl)|exact zAF rfl|exact zAB rfl|exact zE6 rfl rfl|exact zAZ rfl rfl|exact zAV rfl rfl|(apply zAC;exact rfl;(with_reducible first|exact zC7|exact zCA|exact zBv))|(apply zAE;exact rfl;(with_reducible first|exact zAP|exact zAt);exact rfl;exact rfl)|refine w1 rfl rfl ?_|(apply gD;exact rfl;exact rfl;all_goals intro hb)|apply zAQ|apply zAT|refine res1 rfl ?_
 ·rename_i e1
  exact congrArg bl (decide_eq_decide.2 ⟨fun e=>by rw[e1,hb,e],fun e=>(CS.mk.inj e).2.2⟩)
 ·exact congrArg bl (decide_eq_false fun e=>hb (CS.mk.inj e).2.1).symm
 ·exact congrArg bl (decide_eq_false fun e=>hb (CS.mk.inj e).1).symm
theorem zWa(s:List UInt8): zAg prog 152 [str s] (bl (conF s)):=by
 refine zAr func152 rfl ntmps152 results152 rfl ?_
 intro wb St0
 repeat' first|apply en_n|apply zAG|apply zAA|apply zAD|apply w0|exact zBr zRi zVZ (PD_d rfl rfl (PD_d rfl rfl zCi)) rfl|(refine zAd zUw (zVV ⟨2,s,0,0⟩) (CoLA rfl))|apply ay (hd:=rfl)|exact zAF rfl|exact zAB rfl|apply zAQ|apply zAT|refine res1 rfl ?_
 rfl
end Go.Proofs.YtcagoomibpcdlaaGreatDoor

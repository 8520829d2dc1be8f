import Derived.Test.YtcagoomibpcdlaaGreatDoorMAJ
set_option maxHeartbeats 16000000
namespace Go.Proofs.YtcagoomibpcdlaaGreatDoor
open _root_.Go.Proofs.Tryz
open Go.Sx Go.Vm
structure RCl where
 at_:Int
 base:Int
 fn:Nat
structure RTy where
 c:RCl
 height:Int
 calls:Int
structure Raw where
 size:Int
 now:List Nat
 oth:List Nat
 beg:List Bool
 stk:List Nat
 c:RCl
 cls:List RCl
 trs:List RTy
 fin:Int
 num:Int
 out:List (List UInt8)
 steps:Int
def enCn(c:Cn): D:=.agg [bl c.isText,i64 c.num,str c.text]
def enIn(i:Ins): D:=.agg [i64 i.op,i64 i.a,i64 i.b]
def enCl(c:RCl): D:=.agg [i64 c.at_,i64 c.base,w64 c.fn]
def enTy(t:RTy): D:=.agg [i64 t.c.at_,i64 t.c.base,w64 t.c.fn,i64 t.height,i64 t.calls]
abbrev MX(m:Img)(r:Raw): List Ob :=
 [.box [.d (.slice (m.pool.map enCn)),.d (.slice (m.code.map enIn)),.ptr 1 0,.buf 5 r.stk.length,.d (i64 r.c.at_),.d (i64 r.c.base),.d (w64 r.c.fn),.buf 6 r.cls.length,.buf 7 r.trs.length,.d (i64 r.fin),.nil,.d (i64 r.num),.buf 8 r.out.length,.d (i64 r.steps)],
  .box [.buf 2 r.now.length,.buf 3 r.oth.length,.d (i64 r.size),.buf 4 r.beg.length],
  .buf true 58 1 (w64s r.now),.buf true 58 1 (w64s r.oth),.buf true 4 1 (bls r.beg),
  .buf true 58 1 (w64s r.stk),.buf true 60 3 (r.cls.map enCl),.buf true 114 5 (r.trs.map enTy),.buf true 9 1 (r.out.map str)]
theorem zJj{m:Img}{r:Raw}{k0 k1:Option Nat}{η:List Ob}{o0 o1 o2 o3 o4 o5 o6 o7 o8:Ob}{q:List Ob}(e:η=o0::o1::o2::o3::o4::o5::o6::o7::o8::q)
  (e0:Ob.bx k0 none [.d (.slice (m.pool.map enCn)),.d (.slice (m.code.map enIn)),.ptr 1 0,.buf 5 r.stk.length,.d (i64 r.c.at_),.d (i64 r.c.base),.d (w64 r.c.fn),.buf 6 r.cls.length,.buf 7 r.trs.length,.d (i64 r.fin),.nil,.d (i64 r.num),.buf 8 r.out.length,.d (i64 r.steps)]=o0)
  (e1:Ob.bx k1 none [.buf 2 r.now.length,.buf 3 r.oth.length,.d (i64 r.size),.buf 4 r.beg.length]=o1)
  (e2:Ob.buf true 58 1 (w64s r.now)=o2) (e3:Ob.buf true 58 1 (w64s r.oth)=o3) (e4:Ob.buf true 4 1 (bls r.beg)=o4)
  (e5:WOb (Ob.buf true 58 1 (w64s r.stk)) o5) (e6:WOb (Ob.buf true 60 3 (r.cls.map enCl)) o6) (e7:WOb (Ob.buf true 114 5 (r.trs.map enTy)) o7) (e8:Ob.buf true 9 1 (r.out.map str)=o8) :
  Pre [Ob.bx k0 none [.d (.slice (m.pool.map enCn)),.d (.slice (m.code.map enIn)),.ptr 1 0,.buf 5 r.stk.length,.d (i64 r.c.at_),.d (i64 r.c.base),.d (w64 r.c.fn),.buf 6 r.cls.length,.buf 7 r.trs.length,.d (i64 r.fin),.nil,.d (i64 r.num),.buf 8 r.out.length,.d (i64 r.steps)],
   .bx k1 none [.buf 2 r.now.length,.buf 3 r.oth.length,.d (i64 r.size),.buf 4 r.beg.length],
   .buf true 58 1 (w64s r.now),.buf true 58 1 (w64s r.oth),.buf true 4 1 (bls r.beg),
   .buf true 58 1 (w64s r.stk),.buf true 60 3 (r.cls.map enCl),.buf true 114 5 (r.trs.map enTy),.buf true 9 1 (r.out.map str)] η:=by
 subst e
 exact zAK rfl e0 (zAK rfl e1 (zAK rfl e2 (zAK rfl e3 (zAK rfl e4 (zD5 rfl e5 (zD5 rfl e6 (zD5 rfl e7 (zAK rfl e8 zAe))))))))
theorem zFl{m:Img}{r:Raw}{k0 k1:Option Nat}{η:List Ob}{o0 o1 o2 o3 o4 o5 o6 o7 o8:Ob}{q:List Ob}{n5 n6 n7 n8 n2 n4:Nat}(e:η=o0::o1::o2::o3::o4::o5::o6::o7::o8::q)
  (e0:Ob.bx k0 none [.d (.slice (m.pool.map enCn)),.d (.slice (m.code.map enIn)),.ptr 1 0,.buf 5 n5,.d (i64 r.c.at_),.d (i64 r.c.base),.d (w64 r.c.fn),.buf 6 n6,.buf 7 n7,.d (i64 r.fin),.nil,.d (i64 r.num),.buf 8 n8,.d (i64 r.steps)]=o0)
  (h5:r.stk.length=n5) (h6:r.cls.length=n6) (h7:r.trs.length=n7) (h8:r.out.length=n8)
  (e1:Ob.bx k1 none [.buf 2 n2,.buf 3 r.oth.length,.d (i64 r.size),.buf 4 n4]=o1) (h2:r.now.length=n2) (h4:r.beg.length=n4)
  (e2:Ob.buf true 58 1 (w64s r.now)=o2) (e3:Ob.buf true 58 1 (w64s r.oth)=o3) (e4:Ob.buf true 4 1 (bls r.beg)=o4)
  (e5:WOb (Ob.buf true 58 1 (w64s r.stk)) o5) (e6:WOb (Ob.buf true 60 3 (r.cls.map enCl)) o6) (e7:WOb (Ob.buf true 114 5 (r.trs.map enTy)) o7) (e8:Ob.buf true 9 1 (r.out.map str)=o8) :
  Pre [Ob.bx k0 none [.d (.slice (m.pool.map enCn)),.d (.slice (m.code.map enIn)),.ptr 1 0,.buf 5 r.stk.length,.d (i64 r.c.at_),.d (i64 r.c.base),.d (w64 r.c.fn),.buf 6 r.cls.length,.buf 7 r.trs.length,.d (i64 r.fin),.nil,.d (i64 r.num),.buf 8 r.out.length,.d (i64 r.steps)],
   .bx k1 none [.buf 2 r.now.length,.buf 3 r.oth.length,.d (i64 r.size),.buf 4 r.beg.length],
   .buf true 58 1 (w64s r.now),.buf true 58 1 (w64s r.oth),.buf true 4 1 (bls r.beg),
   .buf true 58 1 (w64s r.stk),.buf true 60 3 (r.cls.map enCl),.buf true 114 5 (r.trs.map enTy),.buf true 9 1 (r.out.map str)] η:=by
 subst h5 h6 h7 h8 h2 h4
 exact zJj e e0 e1 e2 e3 e4 e5 e6 e7 e8
theorem zBs{o o':Ob}(h:o=o'): WOb o o':=h▸fun _ _ _ h=>h
theorem zKm(l:List Nat)(n:Nat): w64s (l.take n)=(w64s l).take n:=by rw[w64s,w64s,qBh]
def MA(fx:Nat->Option Nat)(m:Img)(r:Raw): List Ob :=
 [.bx (fx 0) none [.d (.slice (m.pool.map enCn)),.d (.slice (m.code.map enIn)),.ptr 1 0,.buf 5 r.stk.length,.d (i64 r.c.at_),.d (i64 r.c.base),.d (w64 r.c.fn),.buf 6 r.cls.length,.buf 7 r.trs.length,.d (i64 r.fin),.nil,.d (i64 r.num),.buf 8 r.out.length,.d (i64 r.steps)],
  .bx (fx 1) none [.buf 2 r.now.length,.buf 3 r.oth.length,.d (i64 r.size),.buf 4 r.beg.length],
  .buf true 58 1 (w64s r.now),.buf true 58 1 (w64s r.oth),.buf true 4 1 (bls r.beg),
  .buf true 58 1 (w64s r.stk),.buf true 60 3 (r.cls.map enCl),.buf true 114 5 (r.trs.map enTy),.buf true 9 1 (r.out.map str)]
abbrev ids9: List Nat:=[0,1,2,3,4,5,6,7,8]
theorem zd7(fx:Nat->Option Nat)(m:Img)(r r':Raw): zD6 (zFT (zB2 ids9 (MX m r)) ids9 (MA fx m r)) ids9 ((MX m r').map (Ob.ren ids9))=MA fx m r':=rfl
theorem zYh(fx:Nat->Option Nat)(m:Img)(r:Raw): Picks (MA fx m r) ids9 (MX m r):=rfl
theorem zPy: ids9.Nodup:=by decide
theorem zBr{f:FuncId}{fn:Func}{c:Code}{avs:List SV}{m:Img}{r r':Raw}{res:SV}{N:Nat}{rs:Array ResultVar}(hf:prog.funcs[f]?=some fn)(hb:fn.body=some c)(hN:fn.ntmps=N)(hrs:fn.results=rs)(hl:Nat.ble avs.length N=true)
  (h:∀(w0:World) (St0:Stab) (X:Nat->Prop) (fx:Nat->Option Nat),awp ⟨prog,N,w0,St0,X,0⟩ c (zBM rs res (MA fx m r')) (zHx avs 0) (MA fx m r)):zAW prog f avs (MX m r) res (MX m r') :=
 zEh hf hb hN hrs hl rfl rfl h
theorem zPq{f:FuncId}{fn:Func}{c:Code}{avs:List SV}{m:Img}{r r':Raw}{res:D}{N:Nat}{rs:Array ResultVar}(hf:prog.funcs[f]?=some fn)(hb:fn.body=some c)(hN:fn.ntmps=N)(hrs:fn.results=rs)(hl:Nat.ble avs.length N=true)
  (h:∀(w0:World) (St0:Stab) (X:Nat->Prop) (fx:Nat->Option Nat),awp ⟨prog,N,w0,St0,X,0⟩ c (zBE prog rs res (MA fx m r')) (zHx avs 0) (MA fx m r)):zAW prog f avs (MX m r) (.d res) (MX m r') :=
 zLR hf hb hN hrs hl rfl rfl h
theorem zA4: ∀(η:List Ob),Pre η η
 |[]=>trivial
 |_::η=>⟨fun _ _ _ h=>h,zA4 η⟩
theorem zPN(fx:Nat->Option Nat)(m:Img)(r:Raw): (MA fx m r).all (Ob.below (MA fx m r).length)=true:=rfl
theorem zE5{fx:Nat->Option Nat}{m:Img}{r r':Raw}{σ:Sl}(e:r=r'): zBM #[] .top (MA fx m r) .normal σ (MA fx m r'):=by
 subst e;exact zC5 ⟨rfl,zAU Le_nil (zA4 _) rfl (zPN fx m r)⟩
theorem zD8{fx:Nat->Option Nat}{m:Img}{r r':Raw}{σ:Sl}(e:r=r'): zBM #[] .top (MA fx m r) .ret σ (MA fx m r'):=by
 subst e;exact zDe ⟨rfl,zAU Le_nil (zA4 _) rfl (zPN fx m r)⟩
theorem zJR{fx:Nat->Option Nat}{m:Img}{r r':Raw}{σ:Sl}{k:Nat}{res:SV}(e:r=r')(hs:get σ k=res)(hb:res.bel 9=true): zBM #[.tmp k] res (MA fx m r) .ret σ (MA fx m r'):=by
 subst e;exact zDe (zAU (Le_cons hs Le_nil) (zA4 _) (by show (res.bel 9&&true)=true;rw[hb];rfl) (zPN fx m r))
theorem zQ3{fx:Nat->Option Nat}{m:Img}{r r':Raw}{σ:Sl}{rs:Array ResultVar}{res:D}(e:r=r')(hr:ResC prog rs σ (MA fx m r') res): zBE prog rs res (MA fx m r) .ret σ (MA fx m r'):=by
 subst e;exact zIQ hr (zAU Le_nil (zA4 _) rfl (zPN fx m r))
attribute [local irreducible] zAL Program.underlying Ylds zA2 alex zBZ zBP awp zAb zBh zBg zAW zBF zAp zBG zBR zAr zBV zBY zBe zBM zA8 zBE
theorem aVM{N d:Nat}{w0:World}{St0:Stab}{X:Nat->Prop}{ops:Array Oper}{rest:List Oper}{K:Sl->List Ob->Prop}{σ:Sl}{ty:TypeId}{pos:String}{after:Array Edge}{gd:Option (Nat×Bool)}{f:FuncId}{args:List Operand}{ts:Array TypeId}{avs:List SV}{m:Img}{r r':Raw}{res:SV}{fx:Nat->Option Nat}
  (hb:zAL prog f=true) (hc:zAW prog f avs (MX m r) res (MX m r')) (ha:SArgs σ ids9 args avs) (hd:Nat.blt d N=true) (hba:avs.all (SV.bel 9)=true)
  (h:alex ⟨prog,N,w0,St0,X,0⟩ false ops rest K ((d,res.ren ids9)::zEl (zB2 ids9 (MX m r)) ids9 σ) (MA fx m r')) :
  zA2 ⟨prog,N,w0,St0,X,0⟩ false ops ⟨some d,.call ⟨.value (.func f),args.toArray,ts⟩,ty,pos,after,gd⟩ rest K σ (MA fx m r) :=
 by
 have hh:=(congrArg (alex ⟨prog,N,w0,St0,X,0⟩ false ops rest K ((d,res.ren ids9)::zEl (zB2 ids9 (MX m r)) ids9 σ)) (zd7 fx m r r')).mpr h
 refine zHi (C:=⟨prog,N,w0,St0,X,0⟩) (η:=MA fx m r) ids9 hb hc ha (zYh fx m r) hd zPy ?_ ?_ ?_ hba ?_ ?_ hh
 ·rfl
 ·rfl
 ·rfl
 ·rfl
 ·rfl
theorem aVMA{N d:Nat}{w0:World}{St0:Stab}{X:Nat->Prop}{ops:Array Oper}{rest:List Oper}{K:Sl->List Ob->Prop}{σ:Sl}{ty:TypeId}{pos:String}{after:Array Edge}{gd:Option (Nat×Bool)}{f:FuncId}{args:List Operand}{ts:Array TypeId}{avs:List SV}{m:Img}{r r':Raw}{res:SV}{fx:Nat->Option Nat}(hb:zAL prog f=true)(hc:zAW prog f avs (MX m r) res (MX m r'))(h:alex ⟨prog,N,w0,St0,X,0⟩ false ops rest K ((d,res.ren ids9)::zEl (zB2 ids9 (MX m r)) ids9 σ) (MA fx m r'))(ha:SArgs σ ids9 args avs:=by exact SArgs_all rfl)(hd:Nat.blt d N=true:=by exact rfl)(hba:avs.all (SV.bel 9)=true:=by exact rfl): zA2 ⟨prog,N,w0,St0,X,0⟩ false ops ⟨some d,.call ⟨.value (.func f),args.toArray,ts⟩,ty,pos,after,gd⟩ rest K σ (MA fx m r):=aVM hb hc ha hd hba h
theorem zFv(m:Img)(r:Raw)(e:Int): zAW prog 21 [.ptr 0 0,.d (i64 e)] (MX m r) .top (MX m { r with fin:=e }):=by
 refine zBr func21 rfl ntmps21 results21 rfl ?_
 intro wb St0 X fx
 exact yY
theorem zCH(m:Img)(r:Raw){k w:Nat}(hk:k<r.stk.length)(hw:r.stk[r.stk.length-1-k]?=some w)(hl:r.stk.length<=1048576): zAp prog 24 [.ptr 0 0,.d (i64 (k:Int))] (MX m r) (w64 w):=by
 refine zCq func24 rfl ntmps24 results24 rfl ?_
 intro wb St0
 have hld:(w64s r.stk)[((r.stk.length:Int)-1-(k:Int)).toNat]?=some (w64 w):=by rw[show ((r.stk.length:Int)-1-(k:Int)).toNat=r.stk.length-1-k by omega];exact zEI hw
 exact yU
theorem zKZ(m:Img)(r:Raw){k:Int}(hl:r.stk.length<=1048576)(hk:-1000000<=k/\k<=1000000)(h:(r.stk.length:Int)+k>4000): zAW prog 39 [.ptr 0 0,.d (i64 k)] (MX m r) (.d (bl true)) (MX m { r with fin:=6 }):=by
 have hS:=zFv m r 6
 refine zBr func39 rfl ntmps39 results39 rfl ?_
 intro wb St0 X fx
 exact yN
theorem zJ0(m:Img)(r:Raw){k:Int}(hl:r.stk.length<=1048576)(hk:-1000000<=k/\k<=1000000)(h:¬(r.stk.length:Int)+k>4000): zAp prog 39 [.ptr 0 0,.d (i64 k)] (MX m r) (bl false):=by
 refine zCq func39 rfl ntmps39 results39 rfl ?_
 intro wb St0
 exact yK
theorem zKP(m:Img)(r:Raw){n:Nat}(hl:r.stk.length<=1048576)(h:n<=r.stk.length): zAW prog 42 [.ptr 0 0,.d (i64 (n:Int))] (MX m r) .top (MX m { r with stk:=r.stk.take (r.stk.length-n) }):=by
 refine zBr func42 rfl ntmps42 results42 rfl ?_
 intro wb St0 X fx
 repeat' first|apply zAB|apply w0|(refine zCJ (by kernel_rfl) ?_;refine aStA ?_)|(apply zHH;exact rfl;(with_reducible exact zEj);exact rfl;omega;exact⟨_,_,_,w64s r.stk,rfl,qA2 (zAq _).symm⟩)|refine ayA rfl ?_|apply ay (hd:=rfl)|refine zCe rfl rfl ?_|(refine w0' ?_)|refine awDA ?_
 all_goals first|omega|skip
 all_goals exact zC5 ⟨rfl,zAU Le_nil (zFl rfl rfl (by show (List.take _ _).length=_;rw[qAG];omega) rfl rfl rfl rfl rfl rfl rfl rfl rfl (by show WOb (Ob.buf true _ 1 (w64s (List.take _ _))) _;rw[zKm];exact zL0 _ _) (zBs rfl) (zBs rfl) rfl) rfl rfl⟩
theorem zIw(m:Img)(r:Raw){w:Nat}(hl:r.stk.length<=1048576): zAW prog 40 [.ptr 0 0,.d (w64 w)] (MX m r) .top (MX m { r with stk:=r.stk++[w] }):=by
 refine zBr func40 rfl ntmps40 results40 rfl ?_
 intro wb St0 X fx
 repeat' first|apply zAA|apply zAB|apply w0|(apply aApp (id:=5) (hd:=rfl) (hro:=rfl);exact rfl;exact rfl;exact zA0 rfl;exact(zAq r.stk).symm;exact rfl;(with_reducible exact zCh);(with_reducible exact zBk);(with_reducible exact zGE);(with_reducible exact zEm);exact zCu rfl)|refine ayA rfl ?_|refine ayL rfl ?_|(refine w0' ?_)|refine aStA ?_
 all_goals first|omega|skip
 ·simp only[qAN,qAj];omega
 all_goals exact zC5 ⟨rfl,zAU Le_nil (zFl rfl rfl qAE rfl rfl rfl rfl rfl rfl rfl rfl rfl (zBs (congrArg (Ob.buf true _ 1) (zKL r.stk [w]).symm)) (zBs rfl) (zBs rfl) rfl) rfl rfl⟩
theorem zGA(m:Img)(r:Raw){n w:Nat}(hl:r.stk.length<=1048576)(h:n<=r.stk.length): zAW prog 43 [.ptr 0 0,.d (i64 (n:Int)),.d (w64 w)] (MX m r) .top (MX m { r with stk:=r.stk.take (r.stk.length-n)++[w] }):=by
 have hT:=zKP m r hl h
 have hP:=zIw m { r with stk:=r.stk.take (r.stk.length-n) } (w:=w) (by show (List.take _ _).length<=_;rw[qAG];omega)
 refine zBr func43 rfl ntmps43 results43 rfl ?_
 intro wb St0 X fx
 exact yR
theorem zX0(m:Img)(r:Raw)(a:Int): zAW prog 51 [.ptr 0 0,.d (i64 a),.d (bl true)] (MX m r) .top (MX m { r with c:={ r.c with at_:=a } }):=by
 refine zBr func51 rfl ntmps51 results51 rfl ?_
 intro wb St0 X fx
 exact yY
theorem zbR(m:Img)(r:Raw)(a:Int): zAW prog 51 [.ptr 0 0,.d (i64 a),.d (bl false)] (MX m r) .top (MX m r):=by
 refine zBr func51 rfl ntmps51 results51 rfl ?_
 intro wb St0 X fx
 exact yY

/- Parts of the proof. -/
import Derived.Test.YtcagoomibpcdlaaGreatDoorMAM
set_option maxHeartbeats 16000000
namespace Go.Proofs.YtcagoomibpcdlaaGreatDoor
open _root_.Go.Proofs.Tryz
open Go.Sx Go.Vm
structure RCl where
 at_:Int
 base:Int
 fn:Nat
structure RTy where
 c:RCl
 height:Int
 calls:Int
structure Raw where
 size:Int
 now:List Nat
 oth:List Nat
 beg:List Bool
 stk:List Nat
 c:RCl
 cls:List RCl
 trs:List RTy
 fin:Int
 num:Int
 out:List (List UInt8)
 steps:Int
def enCn(c:Cn): D:=.agg [bl c.isText,i64 c.num,str c.text]
def enIn(i:Ins): D:=.agg [i64 i.op,i64 i.a,i64 i.b]
def enCl(c:RCl): D:=.agg [i64 c.at_,i64 c.base,w64 c.fn]
def enTy(t:RTy): D:=.agg [i64 t.c.at_,i64 t.c.base,w64 t.c.fn,i64 t.height,i64 t.calls]
abbrev MX(m:Img)(r:Raw): List Ob :=
 [.box [.d (.slice (m.pool.map enCn)),.d (.slice (m.code.map enIn)),.ptr 1 0,.buf 5 r.stk.length,.d (i64 r.c.at_),.d (i64 r.c.base),.d (w64 r.c.fn),.buf 6 r.cls.length,.buf 7 r.trs.length,.d (i64 r.fin),.nil,.d (i64 r.num),.buf 8 r.out.length,.d (i64 r.steps)],
  .box [.buf 2 r.now.length,.buf 3 r.oth.length,.d (i64 r.size),.buf 4 r.beg.length],
  .buf true 58 1 (w64s r.now),.buf true 58 1 (w64s r.oth),.buf true 4 1 (bls r.beg),
  .buf true 58 1 (w64s r.stk),.buf true 60 3 (r.cls.map enCl),.buf true 114 5 (r.trs.map enTy),.buf true 9 1 (r.out.map str)]
theorem zID{m:Img}{r:Raw}{k0 k1:Option Nat}{η:List Ob}{o0 o1 o2 o3 o4 o5 o6 o7 o8:Ob}{q:List Ob}(e:η=o0::o1::o2::o3::o4::o5::o6::o7::o8::q)
  (e0:Ob.bx k0 none [.d (.slice (m.pool.map enCn)),.d (.slice (m.code.map enIn)),.ptr 1 0,.buf 5 r.stk.length,.d (i64 r.c.at_),.d (i64 r.c.base),.d (w64 r.c.fn),.buf 6 r.cls.length,.buf 7 r.trs.length,.d (i64 r.fin),.nil,.d (i64 r.num),.buf 8 r.out.length,.d (i64 r.steps)]=o0)
  (e1:Ob.bx k1 none [.buf 2 r.now.length,.buf 3 r.oth.length,.d (i64 r.size),.buf 4 r.beg.length]=o1)
  (e2:Ob.buf true 58 1 (w64s r.now)=o2) (e3:Ob.buf true 58 1 (w64s r.oth)=o3) (e4:Ob.buf true 4 1 (bls r.beg)=o4)
  (e5:WOb (Ob.buf true 58 1 (w64s r.stk)) o5) (e6:WOb (Ob.buf true 60 3 (r.cls.map enCl)) o6) (e7:WOb (Ob.buf true 114 5 (r.trs.map enTy)) o7) (e8:Ob.buf true 9 1 (r.out.map str)=o8) :
  Pre [Ob.bx k0 none [.d (.slice (m.pool.map enCn)),.d (.slice (m.code.map enIn)),.ptr 1 0,.buf 5 r.stk.length,.d (i64 r.c.at_),.d (i64 r.c.base),.d (w64 r.c.fn),.buf 6 r.cls.length,.buf 7 r.trs.length,.d (i64 r.fin),.nil,.d (i64 r.num),.buf 8 r.out.length,.d (i64 r.steps)],
   .bx k1 none [.buf 2 r.now.length,.buf 3 r.oth.length,.d (i64 r.size),.buf 4 r.beg.length],
   .buf true 58 1 (w64s r.now),.buf true 58 1 (w64s r.oth),.buf true 4 1 (bls r.beg),
   .buf true 58 1 (w64s r.stk),.buf true 60 3 (r.cls.map enCl),.buf true 114 5 (r.trs.map enTy),.buf true 9 1 (r.out.map str)] η:=by
 subst e
 exact zAN rfl e0 (zAN rfl e1 (zAN rfl e2 (zAN rfl e3 (zAN rfl e4 (zHC rfl e5 (zHC rfl e6 (zHC rfl e7 (zAN rfl e8 zAs))))))))
theorem zEp{m:Img}{r:Raw}{k0 k1:Option Nat}{η:List Ob}{o0 o1 o2 o3 o4 o5 o6 o7 o8:Ob}{q:List Ob}{n5 n6 n7 n8 n2 n4:Nat}(e:η=o0::o1::o2::o3::o4::o5::o6::o7::o8::q)
  (e0:Ob.bx k0 none [.d (.slice (m.pool.map enCn)),.d (.slice (m.code.map enIn)),.ptr 1 0,.buf 5 n5,.d (i64 r.c.at_),.d (i64 r.c.base),.d (w64 r.c.fn),.buf 6 n6,.buf 7 n7,.d (i64 r.fin),.nil,.d (i64 r.num),.buf 8 n8,.d (i64 r.steps)]=o0)
  (h5:r.stk.length=n5) (h6:r.cls.length=n6) (h7:r.trs.length=n7) (h8:r.out.length=n8)
  (e1:Ob.bx k1 none [.buf 2 n2,.buf 3 r.oth.length,.d (i64 r.size),.buf 4 n4]=o1) (h2:r.now.length=n2) (h4:r.beg.length=n4)
  (e2:Ob.buf true 58 1 (w64s r.now)=o2) (e3:Ob.buf true 58 1 (w64s r.oth)=o3) (e4:Ob.buf true 4 1 (bls r.beg)=o4)
  (e5:WOb (Ob.buf true 58 1 (w64s r.stk)) o5) (e6:WOb (Ob.buf true 60 3 (r.cls.map enCl)) o6) (e7:WOb (Ob.buf true 114 5 (r.trs.map enTy)) o7) (e8:Ob.buf true 9 1 (r.out.map str)=o8) :
  Pre [Ob.bx k0 none [.d (.slice (m.pool.map enCn)),.d (.slice (m.code.map enIn)),.ptr 1 0,.buf 5 r.stk.length,.d (i64 r.c.at_),.d (i64 r.c.base),.d (w64 r.c.fn),.buf 6 r.cls.length,.buf 7 r.trs.length,.d (i64 r.fin),.nil,.d (i64 r.num),.buf 8 r.out.length,.d (i64 r.steps)],
   .bx k1 none [.buf 2 r.now.length,.buf 3 r.oth.length,.d (i64 r.size),.buf 4 r.beg.length],
   .buf true 58 1 (w64s r.now),.buf true 58 1 (w64s r.oth),.buf true 4 1 (bls r.beg),
   .buf true 58 1 (w64s r.stk),.buf true 60 3 (r.cls.map enCl),.buf true 114 5 (r.trs.map enTy),.buf true 9 1 (r.out.map str)] η:=by
 subst h5 h6 h7 h8 h2 h4
 exact zID e e0 e1 e2 e3 e4 e5 e6 e7 e8
theorem zBf{o o':Ob}(h:o=o'): WOb o o':=h▸fun _ _ _ h=>h
theorem zJH(l:List Nat)(n:Nat): w64s (l.take n)=(w64s l).take n:=by rw[w64s,w64s,qBb]
def MA(fx:Nat->Option Nat)(m:Img)(r:Raw): List Ob :=
 [.bx (fx 0) none [.d (.slice (m.pool.map enCn)),.d (.slice (m.code.map enIn)),.ptr 1 0,.buf 5 r.stk.length,.d (i64 r.c.at_),.d (i64 r.c.base),.d (w64 r.c.fn),.buf 6 r.cls.length,.buf 7 r.trs.length,.d (i64 r.fin),.nil,.d (i64 r.num),.buf 8 r.out.length,.d (i64 r.steps)],
  .bx (fx 1) none [.buf 2 r.now.length,.buf 3 r.oth.length,.d (i64 r.size),.buf 4 r.beg.length],
  .buf true 58 1 (w64s r.now),.buf true 58 1 (w64s r.oth),.buf true 4 1 (bls r.beg),
  .buf true 58 1 (w64s r.stk),.buf true 60 3 (r.cls.map enCl),.buf true 114 5 (r.trs.map enTy),.buf true 9 1 (r.out.map str)]
abbrev ids9: List Nat:=[0,1,2,3,4,5,6,7,8]
theorem zaJ(fx:Nat->Option Nat)(m:Img)(r r':Raw): zDT (zEc (zBo ids9 (MX m r)) ids9 (MA fx m r)) ids9 ((MX m r').map (Ob.ren ids9))=MA fx m r':=rfl
theorem zVW(fx:Nat->Option Nat)(m:Img)(r:Raw): Picks (MA fx m r) ids9 (MX m r):=rfl
theorem zNh: ids9.Nodup:=by decide
theorem zA7{f:FuncId}{fn:Func}{c:Code}{avs:List SV}{m:Img}{r r':Raw}{res:SV}{N:Nat}{rs:Array ResultVar}(hf:prog.funcs[f]?=some fn)(hb:fn.body=some c)(hN:fn.ntmps=N)(hrs:fn.results=rs)(hl:Nat.ble avs.length N=true)
  (h:∀(w0:World) (St0:Stab) (X:Nat->Prop) (fx:Nat->Option Nat),awp ⟨prog,N,w0,St0,X,0⟩ c (zBm rs res (MA fx m r')) (zGU avs 0) (MA fx m r)):zAU prog f avs (MX m r) res (MX m r') :=
 zFV hf hb hN hrs hl rfl rfl h
theorem zNZ{f:FuncId}{fn:Func}{c:Code}{avs:List SV}{m:Img}{r r':Raw}{res:D}{N:Nat}{rs:Array ResultVar}(hf:prog.funcs[f]?=some fn)(hb:fn.body=some c)(hN:fn.ntmps=N)(hrs:fn.results=rs)(hl:Nat.ble avs.length N=true)
  (h:∀(w0:World) (St0:Stab) (X:Nat->Prop) (fx:Nat->Option Nat),awp ⟨prog,N,w0,St0,X,0⟩ c (zBe prog rs res (MA fx m r')) (zGU avs 0) (MA fx m r)):zAU prog f avs (MX m r) (.d res) (MX m r') :=
 zJm hf hb hN hrs hl rfl rfl h
theorem zBF: ∀(η:List Ob),Pre η η
 |[]=>trivial
 |_::η=>⟨fun _ _ _ h=>h,zBF η⟩
theorem zM8(fx:Nat->Option Nat)(m:Img)(r:Raw): (MA fx m r).all (Ob.below (MA fx m r).length)=true:=rfl
theorem zEG{fx:Nat->Option Nat}{m:Img}{r r':Raw}{σ:Sl}(e:r=r'): zBm #[] .top (MA fx m r) .normal σ (MA fx m r'):=by
 subst e;exact zCl ⟨rfl,zAS Le_nil (zBF _) rfl (zM8 fx m r)⟩
theorem zDW{fx:Nat->Option Nat}{m:Img}{r r':Raw}{σ:Sl}(e:r=r'): zBm #[] .top (MA fx m r) .ret σ (MA fx m r'):=by
 subst e;exact zDI ⟨rfl,zAS Le_nil (zBF _) rfl (zM8 fx m r)⟩
theorem zHx{fx:Nat->Option Nat}{m:Img}{r r':Raw}{σ:Sl}{k:Nat}{res:SV}(e:r=r')(hs:get σ k=res)(hb:res.bel 9=true): zBm #[.tmp k] res (MA fx m r) .ret σ (MA fx m r'):=by
 subst e;exact zDI (zAS (Le_cons hs Le_nil) (zBF _) (by show (res.bel 9&&true)=true;rw[hb];rfl) (zM8 fx m r))
theorem zOg{fx:Nat->Option Nat}{m:Img}{r r':Raw}{σ:Sl}{rs:Array ResultVar}{res:D}(e:r=r')(hr:ResC prog rs σ (MA fx m r') res): zBe prog rs res (MA fx m r) .ret σ (MA fx m r'):=by
 subst e;exact zG0 hr (zAS Le_nil (zBF _) rfl (zM8 fx m r))
attribute [local irreducible] zAO Program.underlying Ylds zBE alex zB0 zBk awp zAg zB9 zB8 zAU zBj zA6 zBl zBn zBC zBq zBz zB7 zBm zBc zBe
theorem aVM{N d:Nat}{w0:World}{St0:Stab}{X:Nat->Prop}{ops:Array Oper}{rest:List Oper}{K:Sl->List Ob->Prop}{σ:Sl}{ty:TypeId}{pos:String}{after:Array Edge}{gd:Option (Nat×Bool)}{f:FuncId}{args:List Operand}{ts:Array TypeId}{avs:List SV}{m:Img}{r r':Raw}{res:SV}{fx:Nat->Option Nat}
  (hb:zAO prog f=true) (hc:zAU prog f avs (MX m r) res (MX m r')) (ha:SArgs σ ids9 args avs) (hd:Nat.blt d N=true) (hba:avs.all (SV.bel 9)=true)
  (h:alex ⟨prog,N,w0,St0,X,0⟩ false ops rest K ((d,res.ren ids9)::zD2 (zBo ids9 (MX m r)) ids9 σ) (MA fx m r')) :
  zBE ⟨prog,N,w0,St0,X,0⟩ false ops ⟨some d,.call ⟨.value (.func f),args.toArray,ts⟩,ty,pos,after,gd⟩ rest K σ (MA fx m r) :=
 by
 have hh:=(congrArg (alex ⟨prog,N,w0,St0,X,0⟩ false ops rest K ((d,res.ren ids9)::zD2 (zBo ids9 (MX m r)) ids9 σ)) (zaJ fx m r r')).mpr h
 refine zGg (C:=⟨prog,N,w0,St0,X,0⟩) (η:=MA fx m r) ids9 hb hc ha (zVW fx m r) hd zNh ?_ ?_ ?_ hba ?_ ?_ hh
 ·rfl
 ·rfl
 ·rfl
 ·rfl
 ·rfl
theorem zEx(m:Img)(r:Raw)(e:Int): zAU prog 21 [.ptr 0 0,.d (i64 e)] (MX m r) .top (MX m { r with fin:=e }):=by
 refine zA7 func21 rfl ntmps21 results21 rfl ?_
 intro wb St0 X fx
 repeat' first|apply zAA|apply zAD|apply w0|exact zAL rfl|apply ay (hd:=rfl)|exact zAF rfl|exact zAH rfl|(apply zAC;exact rfl;(with_reducible first|exact zC5|exact zCB))|(refine w0' ?_)|refine zAj rfl rfl rfl zDf rfl rfl rfl rfl ?_
 all_goals exact zCl ⟨rfl,zAS Le_nil (zID rfl rfl rfl rfl rfl rfl (zBf rfl) (zBf rfl) (zBf rfl) rfl) rfl rfl⟩
theorem zB4(m:Img)(r:Raw){k w:Nat}(hk:k<r.stk.length)(hw:r.stk[r.stk.length-1-k]?=some w)(hl:r.stk.length<=1048576): zA6 prog 24 [.ptr 0 0,.d (i64 (k:Int))] (MX m r) (w64 w):=by
 refine zCb func24 rfl ntmps24 results24 rfl ?_
 intro wb St0
 have hld:(w64s r.stk)[((r.stk.length:Int)-1-(k:Int)).toNat]?=some (w64 w):=by rw[show ((r.stk.length:Int)-1-(k:Int)).toNat=r.stk.length-1-k by omega];exact zDe hw
 repeat' first|apply en_n|apply zAG|apply zAA|apply zAD|apply w0|exact zAL rfl|(apply zBM;exact rfl;exact rfl;exact rfl;(with_reducible exact zBY);omega;(rw[zAm];omega))|exact zCR rfl zBU rfl hld rfl|apply ay (hd:=rfl)|exact zAF rfl|exact zAB rfl|refine zC2 rfl rfl ?_|exact zA3 rfl zCq|exact zAH rfl|exact zAC rfl zCn|exact zAE rfl zBJ rfl rfl|apply zAQ|refine zAf (by kernel_rfl) (by kernel_rfl) ?_|apply zAT|refine res1 rfl ?_
 all_goals first|omega|rfl
theorem zI4(m:Img)(r:Raw){k:Int}(hl:r.stk.length<=1048576)(hk:-1000000<=k/\k<=1000000)(h:(r.stk.length:Int)+k>4000): zAU prog 39 [.ptr 0 0,.d (i64 k)] (MX m r) (.d (bl true)) (MX m { r with fin:=6 }):=by
 have hS:=zEx m r 6
 refine zA7 func39 rfl ntmps39 results39 rfl ?_
 intro wb St0 X fx
 repeat' first|apply en_n|apply zAG|apply zAA|apply zAD|apply w0|exact zEr rfl rfl|exact zAL rfl|(refine aVM zDL (hS) (SArgs_all rfl) rfl rfl ?_)|apply ay (hd:=rfl)|exact zAF rfl|exact zAB rfl|refine zBG rfl rfl ?_|exact zA3 rfl zCq|exact zAH rfl|exact zAC rfl zCn|exact zAE rfl zBJ rfl rfl|refine zAI rfl ?_|apply zAQ|apply en_r
 all_goals first|omega|skip
 all_goals exact zHx rfl rfl rfl
theorem zIS(m:Img)(r:Raw){k:Int}(hl:r.stk.length<=1048576)(hk:-1000000<=k/\k<=1000000)(h:¬(r.stk.length:Int)+k>4000): zA6 prog 39 [.ptr 0 0,.d (i64 k)] (MX m r) (bl false):=by
 refine zCb func39 rfl ntmps39 results39 rfl ?_
 intro wb St0
 repeat' first|apply en_n|apply zAG|apply zAA|apply zAD|apply w0|exact zDx rfl rfl|exact zAL rfl|apply ay (hd:=rfl)|exact zAF rfl|exact zAB rfl|refine zBG rfl rfl ?_|exact zA3 rfl zCq|exact zAH rfl|exact zAC rfl zCn|exact zAE rfl zBJ rfl rfl|refine zAJ rfl ?_|apply zAR|apply zAQ|apply zAT|refine res1 rfl ?_
 all_goals first|omega|rfl
theorem zIu(m:Img)(r:Raw){n:Nat}(hl:r.stk.length<=1048576)(h:n<=r.stk.length): zAU prog 42 [.ptr 0 0,.d (i64 (n:Int))] (MX m r) .top (MX m { r with stk:=r.stk.take (r.stk.length-n) }):=by
 refine zA7 func42 rfl ntmps42 results42 rfl ?_
 intro wb St0 X fx
 repeat' first|apply zAD|apply w0|exact zAL rfl|(refine zBs (by kernel_rfl) ?_;apply zAj;exact rfl;exact rfl;exact rfl;(with_reducible exact zBJ);exact rfl;exact rfl;exact rfl;exact rfl)|(apply zF1;exact rfl;(with_reducible exact zD1);exact rfl;omega;exact⟨_,_,_,w64s r.stk,rfl,qA1 (zAm _).symm⟩)|apply ay (hd:=rfl)|exact zAF rfl|refine zC2 rfl rfl ?_|exact zA3 rfl zCq|exact zAH rfl|exact zAC rfl zCn|exact zAE rfl zBJ rfl rfl|(refine w0' ?_)|refine zAf (by kernel_rfl) (by kernel_rfl) ?_
 all_goals first|omega|skip
 all_goals exact zCl ⟨rfl,zAS Le_nil (zEp rfl rfl (by show (List.take _ _).length=_;rw[qAK];omega) rfl rfl rfl rfl rfl rfl rfl rfl rfl (by show WOb (Ob.buf true _ 1 (w64s (List.take _ _))) _;rw[zJH];exact zKJ _ _) (zBf rfl) (zBf rfl) rfl) rfl rfl⟩
theorem zHQ(m:Img)(r:Raw){w:Nat}(hl:r.stk.length<=1048576): zAU prog 40 [.ptr 0 0,.d (w64 w)] (MX m r) .top (MX m { r with stk:=r.stk++[w] }):=by
 refine zA7 func40 rfl ntmps40 results40 rfl ?_
 intro wb St0 X fx
 repeat' first|apply zAA|apply zAD|apply w0|exact zAL rfl|(apply aApp (id:=5) (hd:=rfl) (hro:=rfl);exact rfl;exact rfl;exact zCQ rfl;exact(zAm r.stk).symm;exact rfl;(with_reducible exact zCW);(with_reducible exact zBY);(with_reducible exact zFD);(with_reducible exact zD5);exact zDS rfl)|apply ay (hd:=rfl)|exact zAF rfl|exact zAH rfl|exact zAC rfl zCn|exact zAE rfl zBJ rfl rfl|(apply zCC;(with_reducible exact zCW);(with_reducible exact zBY);(with_reducible exact zGQ);exact rfl;exact rfl;(first|exact zAY rfl zAM|exact CoL_b rfl rfl rfl zAM|exact CoL_n rfl zAM);exact rfl)|(refine w0' ?_)|refine zAj rfl rfl rfl zBJ rfl rfl rfl rfl ?_
 all_goals first|omega|skip
 ·simp only[qAP,qAp];omega
 all_goals exact zCl ⟨rfl,zAS Le_nil (zEp rfl rfl qAD rfl rfl rfl rfl rfl rfl rfl rfl rfl (zBf (congrArg (Ob.buf true _ 1) (zIo r.stk [w]).symm)) (zBf rfl) (zBf rfl) rfl) rfl rfl⟩
theorem zFC(m:Img)(r:Raw){n w:Nat}(hl:r.stk.length<=1048576)(h:n<=r.stk.length): zAU prog 43 [.ptr 0 0,.d (i64 (n:Int)),.d (w64 w)] (MX m r) .top (MX m { r with stk:=r.stk.take (r.stk.length-n)++[w] }):=by
 have hT:=zIu m r hl h
 have hP:=zHQ m { r with stk:=r.stk.take (r.stk.length-n) } (w:=w) (by show (List.take _ _).length<=_;rw[qAK];omega)
 refine zA7 func43 rfl ntmps43 results43 rfl ?_
 intro wb St0 X fx
 repeat' first|apply en_n|apply zAG|apply zAA|apply zAD|apply w0|(refine aVM zG3 (hT) (SArgs_all rfl) rfl rfl ?_)|(refine aVM zEH (hP) (SArgs_all rfl) rfl rfl ?_)|apply ay (hd:=rfl)|exact zAF rfl|exact zAH rfl
 all_goals exact zEG rfl
theorem zUy(m:Img)(r:Raw)(a:Int): zAU prog 51 [.ptr 0 0,.d (i64 a),.d (bl true)] (MX m r) .top (MX m { r with c:={ r.c with at_:=a } }):=by
 refine zA7 func51 rfl ntmps51 results51 rfl ?_
 intro wb St0 X fx
 repeat' first|apply en_n|apply zAG|apply zAA|apply zAD|apply w0|exact zAL rfl|apply ay (hd:=rfl)|exact zAF rfl|exact zAH rfl|(apply zAC;exact rfl;(with_reducible first|exact zAe|exact zAc))|(refine w0' ?_)|refine zAj rfl rfl rfl zAP rfl rfl rfl rfl ?_|refine zAI rfl ?_
 all_goals exact zCl ⟨rfl,zAS Le_nil (zID rfl rfl rfl rfl rfl rfl (zBf rfl) (zBf rfl) (zBf rfl) rfl) rfl rfl⟩
theorem zXu(m:Img)(r:Raw)(a:Int): zAU prog 51 [.ptr 0 0,.d (i64 a),.d (bl false)] (MX m r) .top (MX m r):=by
 refine zA7 func51 rfl ntmps51 results51 rfl ?_
 intro wb St0 X fx
 repeat' first|apply en_n|apply zAG|apply zAA|apply zAD|apply w0|apply ay (hd:=rfl)|exact zAF rfl|refine zAJ rfl ?_|apply zAR
 all_goals exact zCl ⟨rfl,zAS Le_nil (zID rfl rfl rfl rfl rfl rfl (zBf rfl) (zBf rfl) (zBf rfl) rfl) rfl rfl⟩
end Go.Proofs.YtcagoomibpcdlaaGreatDoor

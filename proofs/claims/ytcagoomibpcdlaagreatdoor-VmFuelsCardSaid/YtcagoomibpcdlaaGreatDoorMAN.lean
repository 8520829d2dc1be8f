/- Texts of this claim, merged: VmBA. -/
import Derived.Test.YtcagoomibpcdlaaGreatDoorMAB
import Derived.Test.YtcagoomibpcdlaaGreatDoorMAM
namespace Go.Proofs.YtcagoomibpcdlaaGreatDoor
open Go.Sx Go.Vm
structure RCl where
 at_:Int
 base:Int
 fn:Nat
structure RTy where
 c:RCl
 height:Int
 calls:Int
structure Raw where
 size:Int
 now:List Nat
 oth:List Nat
 beg:List Bool
 stk:List Nat
 c:RCl
 cls:List RCl
 trs:List RTy
 fin:Int
 num:Int
 out:List (List UInt8)
 steps:Int
def enCn(c:Cn): D:=.agg [bl c.isText,i64 c.num,str c.text]
def enIn(i:Ins): D:=.agg [i64 i.op,i64 i.a,i64 i.b]
def enCl(c:RCl): D:=.agg [i64 c.at_,i64 c.base,w64 c.fn]
def enTy(t:RTy): D:=.agg [i64 t.c.at_,i64 t.c.base,w64 t.c.fn,i64 t.height,i64 t.calls]
abbrev MX(m:Img)(r:Raw): List Ob :=
 [.box [.d (.slice (m.pool.map enCn)),.d (.slice (m.code.map enIn)),.ptr 1 0,.buf 5 r.stk.length,.d (i64 r.c.at_),.d (i64 r.c.base),.d (w64 r.c.fn),.buf 6 r.cls.length,.buf 7 r.trs.length,.d (i64 r.fin),.nil,.d (i64 r.num),.buf 8 r.out.length,.d (i64 r.steps)],
  .box [.buf 2 r.now.length,.buf 3 r.oth.length,.d (i64 r.size),.buf 4 r.beg.length],
  .buf true 58 1 (w64s r.now),.buf true 58 1 (w64s r.oth),.buf true 4 1 (bls r.beg),
  .buf true 58 1 (w64s r.stk),.buf true 60 3 (r.cls.map enCl),.buf true 114 5 (r.trs.map enTy),.buf true 9 1 (r.out.map str)]
theorem zHi{m:Img}{r:Raw}{k0 k1:Option Nat}{η:List Ob}{o0 o1 o2 o3 o4 o5 o6 o7 o8:Ob}{q:List Ob}(e:η=o0::o1::o2::o3::o4::o5::o6::o7::o8::q)
  (e0:Ob.bx k0 none [.d (.slice (m.pool.map enCn)),.d (.slice (m.code.map enIn)),.ptr 1 0,.buf 5 r.stk.length,.d (i64 r.c.at_),.d (i64 r.c.base),.d (w64 r.c.fn),.buf 6 r.cls.length,.buf 7 r.trs.length,.d (i64 r.fin),.nil,.d (i64 r.num),.buf 8 r.out.length,.d (i64 r.steps)]=o0)
  (e1:Ob.bx k1 none [.buf 2 r.now.length,.buf 3 r.oth.length,.d (i64 r.size),.buf 4 r.beg.length]=o1)
  (e2:Ob.buf true 58 1 (w64s r.now)=o2) (e3:Ob.buf true 58 1 (w64s r.oth)=o3) (e4:Ob.buf true 4 1 (bls r.beg)=o4)
  (e5:WOb (Ob.buf true 58 1 (w64s r.stk)) o5) (e6:WOb (Ob.buf true 60 3 (r.cls.map enCl)) o6) (e7:WOb (Ob.buf true 114 5 (r.trs.map enTy)) o7) (e8:Ob.buf true 9 1 (r.out.map str)=o8) :
  Pre [Ob.bx k0 none [.d (.slice (m.pool.map enCn)),.d (.slice (m.code.map enIn)),.ptr 1 0,.buf 5 r.stk.length,.d (i64 r.c.at_),.d (i64 r.c.base),.d (w64 r.c.fn),.buf 6 r.cls.length,.buf 7 r.trs.length,.d (i64 r.fin),.nil,.d (i64 r.num),.buf 8 r.out.length,.d (i64 r.steps)],
   .bx k1 none [.buf 2 r.now.length,.buf 3 r.oth.length,.d (i64 r.size),.buf 4 r.beg.length],
   .buf true 58 1 (w64s r.now),.buf true 58 1 (w64s r.oth),.buf true 4 1 (bls r.beg),
   .buf true 58 1 (w64s r.stk),.buf true 60 3 (r.cls.map enCl),.buf true 114 5 (r.trs.map enTy),.buf true 9 1 (r.out.map str)] η:=by
 subst e
 exact zAP rfl e0 (zAP rfl e1 (zAP rfl e2 (zAP rfl e3 (zAP rfl e4 (zH1 rfl e5 (zH1 rfl e6 (zH1 rfl e7 (zAP rfl e8 zA7))))))))
theorem zEb{m:Img}{r:Raw}{k0 k1:Option Nat}{η:List Ob}{o0 o1 o2 o3 o4 o5 o6 o7 o8:Ob}{q:List Ob}{n5 n6 n7 n8 n2 n4:Nat}(e:η=o0::o1::o2::o3::o4::o5::o6::o7::o8::q)
  (e0:Ob.bx k0 none [.d (.slice (m.pool.map enCn)),.d (.slice (m.code.map enIn)),.ptr 1 0,.buf 5 n5,.d (i64 r.c.at_),.d (i64 r.c.base),.d (w64 r.c.fn),.buf 6 n6,.buf 7 n7,.d (i64 r.fin),.nil,.d (i64 r.num),.buf 8 n8,.d (i64 r.steps)]=o0)
  (h5:r.stk.length=n5) (h6:r.cls.length=n6) (h7:r.trs.length=n7) (h8:r.out.length=n8)
  (e1:Ob.bx k1 none [.buf 2 n2,.buf 3 r.oth.length,.d (i64 r.size),.buf 4 n4]=o1) (h2:r.now.length=n2) (h4:r.beg.length=n4)
  (e2:Ob.buf true 58 1 (w64s r.now)=o2) (e3:Ob.buf true 58 1 (w64s r.oth)=o3) (e4:Ob.buf true 4 1 (bls r.beg)=o4)
  (e5:WOb (Ob.buf true 58 1 (w64s r.stk)) o5) (e6:WOb (Ob.buf true 60 3 (r.cls.map enCl)) o6) (e7:WOb (Ob.buf true 114 5 (r.trs.map enTy)) o7) (e8:Ob.buf true 9 1 (r.out.map str)=o8) :
  Pre [Ob.bx k0 none [.d (.slice (m.pool.map enCn)),.d (.slice (m.code.map enIn)),.ptr 1 0,.buf 5 r.stk.length,.d (i64 r.c.at_),.d (i64 r.c.base),.d (w64 r.c.fn),.buf 6 r.cls.length,.buf 7 r.trs.length,.d (i64 r.fin),.nil,.d (i64 r.num),.buf 8 r.out.length,.d (i64 r.steps)],
   .bx k1 none [.buf 2 r.now.length,.buf 3 r.oth.length,.d (i64 r.size),.buf 4 r.beg.length],
   .buf true 58 1 (w64s r.now),.buf true 58 1 (w64s r.oth),.buf true 4 1 (bls r.beg),
   .buf true 58 1 (w64s r.stk),.buf true 60 3 (r.cls.map enCl),.buf true 114 5 (r.trs.map enTy),.buf true 9 1 (r.out.map str)] η:=by
 subst h5 h6 h7 h8 h2 h4
 exact zHi e e0 e1 e2 e3 e4 e5 e6 e7 e8
theorem zBW{o o':Ob}(h:o=o'): WOb o o':=h▸fun _ _ _ h=>h
theorem zIi(l:List Nat)(n:Nat): w64s (l.take n)=(w64s l).take n:=by rw[w64s,w64s,List.map_take]
def MA(fx:Nat→Option Nat)(m:Img)(r:Raw): List Ob :=
 [.bx (fx 0) none [.d (.slice (m.pool.map enCn)),.d (.slice (m.code.map enIn)),.ptr 1 0,.buf 5 r.stk.length,.d (i64 r.c.at_),.d (i64 r.c.base),.d (w64 r.c.fn),.buf 6 r.cls.length,.buf 7 r.trs.length,.d (i64 r.fin),.nil,.d (i64 r.num),.buf 8 r.out.length,.d (i64 r.steps)],
  .bx (fx 1) none [.buf 2 r.now.length,.buf 3 r.oth.length,.d (i64 r.size),.buf 4 r.beg.length],
  .buf true 58 1 (w64s r.now),.buf true 58 1 (w64s r.oth),.buf true 4 1 (bls r.beg),
  .buf true 58 1 (w64s r.stk),.buf true 60 3 (r.cls.map enCl),.buf true 114 5 (r.trs.map enTy),.buf true 9 1 (r.out.map str)]
abbrev ids9: List Nat:=[0,1,2,3,4,5,6,7,8]
theorem zYi(fx:Nat→Option Nat)(m:Img)(r r':Raw): zDH (zEL (zBa ids9 (MX m r)) ids9 (MA fx m r)) ids9 ((MX m r').map (Ob.ren ids9))=MA fx m r':=rfl
theorem zT8(fx:Nat→Option Nat)(m:Img)(r:Raw): Picks (MA fx m r) ids9 (MX m r):=rfl
theorem zMe: ids9.Nodup:=by decide
theorem zAy{f:FuncId}{fn:Func}{c:Code}{avs:List SV}{m:Img}{r r':Raw}{res:SV}{N:Nat}{rs:Array ResultVar}(hf:Tryz.prog.funcs[f]?=some fn)(hb:fn.body=some c)(hN:fn.ntmps=N)(hrs:fn.results=rs)(hl:Nat.ble avs.length N=true)
  (h:∀(w0:World) (St0:Stab) (X:Nat→Prop) (fx:Nat→Option Nat),awp ⟨Tryz.prog,N,w0,St0,X,0⟩ c (zBn rs res (MA fx m r')) (zF8 avs 0) (MA fx m r)):zAW Tryz.prog f avs (MX m r) res (MX m r') :=
 zFB hf hb hN hrs hl rfl rfl h
theorem zMW{f:FuncId}{fn:Func}{c:Code}{avs:List SV}{m:Img}{r r':Raw}{res:D}{N:Nat}{rs:Array ResultVar}(hf:Tryz.prog.funcs[f]?=some fn)(hb:fn.body=some c)(hN:fn.ntmps=N)(hrs:fn.results=rs)(hl:Nat.ble avs.length N=true)
  (h:∀(w0:World) (St0:Stab) (X:Nat→Prop) (fx:Nat→Option Nat),awp ⟨Tryz.prog,N,w0,St0,X,0⟩ c (zBs Tryz.prog rs res (MA fx m r')) (zF8 avs 0) (MA fx m r)):zAW Tryz.prog f avs (MX m r) (.d res) (MX m r') :=
 zI3 hf hb hN hrs hl rfl rfl h
theorem zB2: ∀(η:List Ob),Pre η η
 |[]=>trivial
 |_::η=>⟨fun _ _ _ h=>h,zB2 η⟩
theorem zL7(fx:Nat→Option Nat)(m:Img)(r:Raw): (MA fx m r).all (Ob.below (MA fx m r).length)=true:=rfl
theorem zDz{fx:Nat→Option Nat}{m:Img}{r r':Raw}{σ:Sl}(e:r=r'): zBn #[] .top (MA fx m r) .normal σ (MA fx m r'):=by
 subst e;exact zCe ⟨rfl,zAV zAd (zB2 _) rfl (zL7 fx m r)⟩
theorem zDJ{fx:Nat→Option Nat}{m:Img}{r r':Raw}{σ:Sl}(e:r=r'): zBn #[] .top (MA fx m r) .ret σ (MA fx m r'):=by
 subst e;exact zC8 ⟨rfl,zAV zAd (zB2 _) rfl (zL7 fx m r)⟩
theorem zHW{fx:Nat→Option Nat}{m:Img}{r r':Raw}{σ:Sl}{k:Nat}{res:SV}(e:r=r')(hs:get σ k=res)(hb:res.bel 9=true): zBn #[.tmp k] res (MA fx m r) .ret σ (MA fx m r'):=by
 subst e;exact zC8 (zAV (zAI hs zAd) (zB2 _) (by show (res.bel 9&&true)=true;rw[hb];rfl) (zL7 fx m r))
theorem zNY{fx:Nat→Option Nat}{m:Img}{r r':Raw}{σ:Sl}{rs:Array ResultVar}{res:D}(e:r=r')(hr:ResC Tryz.prog rs σ (MA fx m r') res): zBs Tryz.prog rs res (MA fx m r) .ret σ (MA fx m r'):=by
 subst e;exact zGb hr (zAV zAd (zB2 _) rfl (zL7 fx m r))
attribute [local irreducible] zAQ Program.underlying Ylds zBD alex zCA zBi awp zAp zCI zCH zAW zBw zA5 zB0 zBp zBF zBv zB9 zCE zBn zBm zBs
theorem aVM{N d:Nat}{w0:World}{St0:Stab}{X:Nat→Prop}{ops:Array Oper}{rest:List Oper}{K:Sl→List Ob→Prop}{σ:Sl}{ty:TypeId}{pos:String}{after:Array Edge}{gd:Option (Nat×Bool)}{f:FuncId}{args:List Operand}{ts:Array TypeId}{avs:List SV}{m:Img}{r r':Raw}{res:SV}{fx:Nat→Option Nat}
  (hb:zAQ Tryz.prog f=true) (hc:zAW Tryz.prog f avs (MX m r) res (MX m r')) (ha:SArgs σ ids9 args avs) (hd:Nat.blt d N=true) (hba:avs.all (SV.bel 9)=true)
  (h:alex ⟨Tryz.prog,N,w0,St0,X,0⟩ false ops rest K ((d,res.ren ids9)::zDl (zBa ids9 (MX m r)) ids9 σ) (MA fx m r')) :
  zBD ⟨Tryz.prog,N,w0,St0,X,0⟩ false ops ⟨some d,.call ⟨.value (.func f),args.toArray,ts⟩,ty,pos,after,gd⟩ rest K σ (MA fx m r) :=
 by
 have hh:=(congrArg (alex ⟨Tryz.prog,N,w0,St0,X,0⟩ false ops rest K ((d,res.ren ids9)::zDl (zBa ids9 (MX m r)) ids9 σ)) (zYi fx m r r')).mpr h
 refine zGI (C:=⟨Tryz.prog,N,w0,St0,X,0⟩) (η:=MA fx m r) ids9 hb hc ha (zT8 fx m r) hd zMe ?_ ?_ ?_ hba ?_ ?_ hh
 ·rfl
 ·rfl
 ·rfl
 ·rfl
 ·rfl
theorem zEf(m:Img)(r:Raw)(e:Int): zAW Tryz.prog 21 [.ptr 0 0,.d (i64 e)] (MX m r) .top (MX m { r with fin:=e }):=by
 refine zAy Tryz.func21 rfl Tryz.ntmps21 Tryz.results21 rfl ?_
 intro wb St0 X fx
 repeat' first|apply zAA|apply zAF|apply w0|exact zAN rfl|apply ay (hd:=rfl)|exact zAJ rfl|exact zAH rfl|(apply zAC;exact rfl;(with_reducible first|exact zCr|exact zBz))|(refine w0' ?_)|(apply zAl;exact rfl;exact rfl;exact rfl;(with_reducible exact zDD);exact rfl;exact rfl;exact rfl;exact rfl)
 all_goals exact zCe ⟨rfl,zAV zAd (zHi rfl rfl rfl rfl rfl rfl (zBW rfl) (zBW rfl) (zBW rfl) rfl) rfl rfl⟩
theorem zBl(m:Img)(r:Raw){k w:Nat}(hk:k<r.stk.length)(hw:r.stk[r.stk.length-1-k]?=some w)(hl:r.stk.length≤1048576): zA5 Tryz.prog 24 [.ptr 0 0,.d (i64 (k:Int))] (MX m r) (w64 w):=by
 refine zCW Tryz.func24 rfl Tryz.ntmps24 Tryz.results24 rfl ?_
 intro wb St0
 have hld:(w64s r.stk)[((r.stk.length:Int)-1-(k:Int)).toNat]?=some (w64 w):=by rw[show ((r.stk.length:Int)-1-(k:Int)).toNat=r.stk.length-1-k by omega];exact zDS hw
 repeat' first|apply en_n|apply zAK|apply zAA|apply zAF|apply w0|exact zAN rfl|(apply zBY;exact rfl;exact rfl;exact rfl;(with_reducible exact zBS);omega;(rw[zAk];omega))|(apply zCg;exact rfl;(with_reducible exact zBQ);exact rfl;exact hld;exact rfl)|apply ay (hd:=rfl)|exact zAJ rfl|exact zAD rfl|(apply zDX;exact rfl;exact rfl)|(apply zA4;exact rfl;(with_reducible exact zCj))|exact zAH rfl|(apply zAC;exact rfl;(with_reducible exact zCh))|(apply zAG;exact rfl;(with_reducible exact zBC);exact rfl;exact rfl)|apply zAT|refine zAr (by kernel_rfl) (by kernel_rfl) ?_|apply zAY|(apply res1;exact rfl)
 all_goals first|omega|rfl
theorem zIV(m:Img)(r:Raw){k:Int}(hl:r.stk.length≤1048576)(hk:-1000000≤k∧k≤1000000)(h:(r.stk.length:Int)+k>4000): zAW Tryz.prog 39 [.ptr 0 0,.d (i64 k)] (MX m r) (.d (bl true)) (MX m { r with fin:=6 }):=by
 have hS:=zEf m r 6
 refine zAy Tryz.func39 rfl Tryz.ntmps39 Tryz.results39 rfl ?_
 intro wb St0 X fx
 repeat' first|apply en_n|apply zAK|apply zAA|apply zAF|apply w0|(apply zE2;exact rfl;exact rfl;first|assumption|omega)|exact zAN rfl|(refine aVM zDB (hS) ?_ rfl rfl ?_;(repeat (refine zAB rfl ?_));exact zAE)|apply ay (hd:=rfl)|exact zAJ rfl|exact zAD rfl|(apply zBL;exact rfl;exact rfl)|(apply zA4;exact rfl;(with_reducible exact zCj))|exact zAH rfl|(apply zAC;exact rfl;(with_reducible exact zCh))|(apply zAG;exact rfl;(with_reducible exact zBC);exact rfl;exact rfl)|(apply zAL;exact rfl)|apply zAT|apply en_r
 all_goals first|omega|skip
 all_goals exact zHW rfl rfl rfl
theorem zHt(m:Img)(r:Raw){k:Int}(hl:r.stk.length≤1048576)(hk:-1000000≤k∧k≤1000000)(h:¬(r.stk.length:Int)+k>4000): zA5 Tryz.prog 39 [.ptr 0 0,.d (i64 k)] (MX m r) (bl false):=by
 refine zCW Tryz.func39 rfl Tryz.ntmps39 Tryz.results39 rfl ?_
 intro wb St0
 repeat' first|apply en_n|apply zAK|apply zAA|apply zAF|apply w0|(apply zDt;exact rfl;exact rfl;first|assumption|omega)|exact zAN rfl|apply ay (hd:=rfl)|exact zAJ rfl|exact zAD rfl|(apply zBL;exact rfl;exact rfl)|(apply zA4;exact rfl;(with_reducible exact zCj))|exact zAH rfl|(apply zAC;exact rfl;(with_reducible exact zCh))|(apply zAG;exact rfl;(with_reducible exact zBC);exact rfl;exact rfl)|(apply zAM;exact rfl)|apply zAU|apply zAT|apply zAY|(apply res1;exact rfl)
 all_goals first|omega|rfl
theorem zIM(m:Img)(r:Raw){n:Nat}(hl:r.stk.length≤1048576)(h:n≤r.stk.length): zAW Tryz.prog 42 [.ptr 0 0,.d (i64 (n:Int))] (MX m r) .top (MX m { r with stk:=r.stk.take (r.stk.length-n) }):=by
 refine zAy Tryz.func42 rfl Tryz.ntmps42 Tryz.results42 rfl ?_
 intro wb St0 X fx
 repeat' first|apply zAF|apply w0|exact zAN rfl|(refine zBr (by kernel_rfl) ?_;apply zAl;exact rfl;exact rfl;exact rfl;(with_reducible exact zBC);exact rfl;exact rfl;exact rfl;exact rfl)|(apply zFb;exact rfl;(with_reducible exact zDk);exact rfl;omega;exact⟨_,_,_,w64s r.stk,rfl,Nat.le_of_eq (zAk _).symm⟩)|apply ay (hd:=rfl)|exact zAJ rfl|(apply zDX;exact rfl;exact rfl)|(apply zA4;exact rfl;(with_reducible exact zCj))|exact zAH rfl|(apply zAC;exact rfl;(with_reducible exact zCh))|(apply zAG;exact rfl;(with_reducible exact zBC);exact rfl;exact rfl)|(refine w0' ?_)|refine zAr (by kernel_rfl) (by kernel_rfl) ?_
 all_goals first|omega|skip
 all_goals exact zCe ⟨rfl,zAV zAd (zEb rfl rfl (by show (List.take _ _).length=_;rw[List.length_take];omega) rfl rfl rfl rfl rfl rfl rfl rfl rfl (by show WOb (Ob.buf true _ 1 (w64s (List.take _ _))) _;rw[zIi];exact zJX _ _) (zBW rfl) (zBW rfl) rfl) rfl rfl⟩
theorem zGy(m:Img)(r:Raw){w:Nat}(hl:r.stk.length≤1048576): zAW Tryz.prog 40 [.ptr 0 0,.d (w64 w)] (MX m r) .top (MX m { r with stk:=r.stk++[w] }):=by
 refine zAy Tryz.func40 rfl Tryz.ntmps40 Tryz.results40 rfl ?_
 intro wb St0 X fx
 repeat' first|apply zAA|apply zAF|apply w0|exact zAN rfl|(apply aApp (id:=5) (hd:=rfl) (hro:=rfl);exact rfl;exact rfl;exact zCw rfl;exact(zAk r.stk).symm;exact rfl;(with_reducible exact zCT);(with_reducible exact zBS);(with_reducible exact zEr);(with_reducible exact zDm);exact zDv rfl)|apply ay (hd:=rfl)|exact zAJ rfl|exact zAH rfl|(apply zAC;exact rfl;(with_reducible exact zCh))|(apply zAG;exact rfl;(with_reducible exact zBC);exact rfl;exact rfl)|(apply zCG;(with_reducible exact zCT);(with_reducible exact zBS);(with_reducible exact zF0);exact rfl;exact rfl;(first|exact zAa rfl zAR|exact CoL_b rfl rfl rfl zAR|exact CoL_n rfl zAR);exact rfl)|(refine w0' ?_)|(apply zAl;exact rfl;exact rfl;exact rfl;(with_reducible exact zBC);exact rfl;exact rfl;exact rfl;exact rfl)
 all_goals first|omega|skip
 ·simp only[List.length_cons,List.length_nil];omega
 all_goals exact zCe ⟨rfl,zAV zAd (zEb rfl rfl List.length_append rfl rfl rfl rfl rfl rfl rfl rfl rfl (zBW (congrArg (Ob.buf true _ 1) (zIG r.stk [w]).symm)) (zBW rfl) (zBW rfl) rfl) rfl rfl⟩
theorem zEp(m:Img)(r:Raw){n w:Nat}(hl:r.stk.length≤1048576)(h:n≤r.stk.length): zAW Tryz.prog 43 [.ptr 0 0,.d (i64 (n:Int)),.d (w64 w)] (MX m r) .top (MX m { r with stk:=r.stk.take (r.stk.length-n)++[w] }):=by
 have hT:=zIM m r hl h
 have hP:=zGy m { r with stk:=r.stk.take (r.stk.length-n) } (w:=w) (by show (List.take _ _).length≤_;rw[List.length_take];omega)
 refine zAy Tryz.func43 rfl Tryz.ntmps43 Tryz.results43 rfl ?_
 intro wb St0 X fx
 repeat' first|apply en_n|apply zAK|apply zAA|apply zAF|apply w0|(refine aVM zGe (hT) ?_ rfl rfl ?_;(repeat (refine zAB rfl ?_));exact zAE)|(refine aVM zD1 (hP) ?_ rfl rfl ?_;(repeat (refine zAB rfl ?_));exact zAE)|apply ay (hd:=rfl)|exact zAJ rfl|exact zAH rfl
 all_goals exact zDz rfl
theorem zTX(m:Img)(r:Raw)(a:Int): zAW Tryz.prog 51 [.ptr 0 0,.d (i64 a),.d (bl true)] (MX m r) .top (MX m { r with c:={ r.c with at_:=a } }):=by
 refine zAy Tryz.func51 rfl Tryz.ntmps51 Tryz.results51 rfl ?_
 intro wb St0 X fx
 repeat' first|apply en_n|apply zAK|apply zAA|apply zAF|apply w0|exact zAN rfl|apply ay (hd:=rfl)|exact zAJ rfl|exact zAH rfl|(apply zAC;exact rfl;(with_reducible first|exact zAe|exact zAb))|(refine w0' ?_)|(apply zAl;exact rfl;exact rfl;exact rfl;(with_reducible exact zAS);exact rfl;exact rfl;exact rfl;exact rfl)|(apply zAL;exact rfl)
 all_goals exact zCe ⟨rfl,zAV zAd (zHi rfl rfl rfl rfl rfl rfl (zBW rfl) (zBW rfl) (zBW rfl) rfl) rfl rfl⟩
theorem zWI(m:Img)(r:Raw)(a:Int): zAW Tryz.prog 51 [.ptr 0 0,.d (i64 a),.d (bl false)] (MX m r) .top (MX m r):=by
 refine zAy Tryz.func51 rfl Tryz.ntmps51 Tryz.results51 rfl ?_
 intro wb St0 X fx
 repeat' first|apply en_n|apply zAK|apply zAA|apply zAF|apply w0|apply ay (hd:=rfl)|exact zAJ rfl|(apply zAM;exact rfl)|apply zAU
 all_goals exact zCe ⟨rfl,zAV zAd (zHi rfl rfl rfl rfl rfl rfl (zBW rfl) (zBW rfl) (zBW rfl) rfl) rfl rfl⟩
end Go.Proofs.YtcagoomibpcdlaaGreatDoor

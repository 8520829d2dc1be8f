/- Texts of this claim, merged: VmBJ. -/
import Derived.Test.YtcagoomibpcdlaaGreatDoorMAU
namespace Go.Proofs.YtcagoomibpcdlaaGreatDoor
open Go.Sx Go.Vm
theorem zQe{P:Program}{f:FuncId}{avs:List SV}{pre:List Ob}{res:D}(h:zA5 P f avs pre res): zAW P f avs pre (.d res) pre:=by
 intro g w vs hi hr
 refine(h g w vs hi hr).mono fun e w' ⟨v,St',he,hrep,hbel,hkeep,hnew,hlt⟩=>?_
 have hg:Grow g w { g with St:=St' } w':=⟨rfl,rfl,rfl,rfl,hbel.os,hbel.tape,hbel.output,hbel.size,hbel.block,hkeep.sub,hnew,hlt⟩
 refine⟨v,{ g with St:=St' },he,hi.grow hg,hrep,⟨hbel.os,hbel.tape,hbel.output,hbel.size,fun k hk _=>hbel.block k hk,hkeep,fun b o hb=>?_,fun j b hb=>.inr ⟨j,hb⟩,fun _ _ _ _=>rfl⟩⟩
 rcases hnew b o hb with h1|h1
 ·exact .inl h1
 ·exact .inr (.inl h1)
attribute [local irreducible] zAQ Program.underlying Ylds zBD alex zCA zBi awp zAp zCI zCH zAW zBw zA5 zD4 zB0 zBp zBF zBv zB9 zCE zES zBn zBm zBs
theorem zO3(m:Img)(r:Raw)(o:Thing)(hl:r.stk.length≤1048576)(hz:o.size≤4000)(h:(r.stk.length:Int)+(1-(o.size:Int))>4000): zAW Tryz.prog 46 [.ptr 0 0,.d (i64 o.kind),.d (i64 o.tag),.d (i64 (o.size:Int))] (MX m r) .top (MX m { r with fin:=6 }):=by
 have hH:=zIV m r (k:=1-(o.size:Int)) hl (by omega) h
 refine zAy Tryz.func46 rfl Tryz.ntmps46 Tryz.results46 rfl ?_
 intro wb St0 X fx
 repeat' first|apply en_n|apply zAK|apply zAA|apply zAF|apply w0|(apply k0u (hd:=rfl);exact rfl;exact rfl)|(refine aVM zCa (hH) ?_ rfl rfl ?_;(repeat (refine zAB rfl ?_));exact zAE)|apply ay (hd:=rfl)|exact zAJ rfl|(apply zDX;exact rfl;exact rfl)|exact zAj rfl rfl|exact zAH rfl|(apply zAL;exact rfl)|apply zAT|apply en_r
 all_goals first|omega|exact zDJ rfl
theorem zO2(m:Img)(r r':Raw)(o:Thing)(hl:r.stk.length≤1048576)(hz:o.size≤4000)(h:¬(r.stk.length:Int)+(1-(o.size:Int))>4000)(hR:zAW Tryz.prog 76 [.ptr 0 0,.d (i64 ((o.size+1:Nat):Int))] (MX m r) (.d (bl false)) (MX m r')): zAW Tryz.prog 46 [.ptr 0 0,.d (i64 o.kind),.d (i64 o.tag),.d (i64 (o.size:Int))] (MX m r) .top (MX m r'):=by
 have hH:=zHt m r (k:=1-(o.size:Int)) hl (by omega) h
 have hN:=zJb o.size (by omega)
 refine zAy Tryz.func46 rfl Tryz.ntmps46 Tryz.results46 rfl ?_
 intro wb St0 X fx
 repeat' first|apply en_n|apply zAK|apply zAA|apply zAF|apply w0|(refine zAZ [0,1,2,3,4,5,6,7,8] [] rfl rfl zCa (hH) rfl ?_ rfl (by decide) rfl rfl rfl rfl;(repeat (refine zAB rfl ?_));exact zAE)|(refine zAh zER hN (zAa rfl zAR))|(refine aVM zGf (hR) ?_ rfl rfl ?_;(repeat (refine zAB rfl ?_));exact zAE)|apply ay (hd:=rfl)|exact zAJ rfl|(apply zDX;exact rfl;exact rfl)|exact zBd rfl|exact zAc rfl rfl|exact zAH rfl|(apply w1;exact rfl;exact rfl)|(apply zAL;exact rfl)|apply zAT|apply en_r
 all_goals first|omega|exact zDJ rfl
set_option maxHeartbeats 2000000 in
theorem zRB(m:Img)(r r':Raw)(o:Thing)(ho:HeadOk o)(hk:o.kind≤3)(hl:r.stk.length≤1048576)(hz:o.size≤4000)(h:¬(r.stk.length:Int)+(1-(o.size:Int))>4000)(hR:zAW Tryz.prog 76 [.ptr 0 0,.d (i64 ((o.size+1:Nat):Int))] (MX m r) (.d (bl true)) (MX m r'))
  (hs:0≤r'.size∧r'.size≤1048576) (hn:r'.now.length+1+o.size≤r'.size) (hb:r'.beg.length=r'.size) (hl':r'.stk.length≤1048576) (hn2:o.size≤r'.stk.length) (hv:∀i x,i<o.size→r'.stk[r'.stk.length-o.size+i]?=some x→zA5 Tryz.prog 131 [.ptr 0 0,.d (w64 x)] (HO r'.size r'.now r'.oth r'.beg) (bl true)) :
  zAW Tryz.prog 46 [.ptr 0 0,.d (i64 o.kind),.d (i64 o.tag),.d (i64 (o.size:Int))] (MX m r) .top (MX m { r' with now:=r'.now++zCm o::r'.stk.drop (r'.stk.length-o.size),beg:=r'.beg.set r'.now.length true,stk:=r'.stk.take (r'.stk.length-o.size)++[2*r'.now.length] }):=by
 have hH:=zHt m r (k:=1-(o.size:Int)) hl (by omega) h
 have hN:=zJb o.size (by omega)
 have hA:=zRu m r' o ho hk (r'.stk.length-o.size) hs hn hz hb (by omega) hl' hv
 rw[List.take_of_length_le (by rw[List.length_drop];omega)]at hA
 have hA2:zAW Tryz.prog 78 [.ptr 1 0,.d (i64 o.kind),.d (i64 o.tag),.bsl 5 ((r'.stk.length:Int)-(o.size:Int)).toNat (r'.stk.length-((r'.stk.length:Int)-(o.size:Int)).toNat)] (MX m r') (.d (.tup [w64 (2*r'.now.length),bl true])) (MX m { r' with now:=r'.now++zCm o::r'.stk.drop (r'.stk.length-o.size),beg:=r'.beg.set r'.now.length true }):=by
  rw[show r'.stk.length-((r'.stk.length:Int)-(o.size:Int)).toNat=o.size by omega,show ((r'.stk.length:Int)-(o.size:Int)).toNat=r'.stk.length-o.size by omega]
  exact hA
 have hB:=zEp m { r' with now:=r'.now++zCm o::r'.stk.drop (r'.stk.length-o.size),beg:=r'.beg.set r'.now.length true } (n:=o.size) (w:=2*r'.now.length) hl' hn2
 clear hA hv
 refine zAy Tryz.func46 rfl Tryz.ntmps46 Tryz.results46 rfl ?_
 intro wb St0 X fx
 repeat' first|apply en_n|apply zAK|apply zAA|apply zAF|apply w0|exact zAN rfl|(refine zAZ [0,1,2,3,4,5,6,7,8] [] rfl rfl zCa (hH) rfl ?_ rfl (by decide) rfl rfl rfl rfl;(repeat (refine zAB rfl ?_));exact zAE)|(refine zAh zER hN (zAa rfl zAR))|(refine zYS rfl rfl (by with_reducible exact zBS) rfl (by omega) (by rw[zAk];exact Nat.le_refl _))|(refine aVM zGf (hR) ?_ rfl rfl ?_;(repeat (refine zAB rfl ?_));exact zAE)|(refine zBr (by kernel_rfl) ?_;refine aVM zMj (hA2) ?_ rfl rfl ?_;(repeat (refine zAB rfl ?_));exact zAE)|(refine aVM zDq (hB) ?_ rfl rfl ?_;(repeat (refine zAB rfl ?_));exact zAE)|apply ay (hd:=rfl)|exact zAJ rfl|exact zAD rfl|(apply zDX;exact rfl;exact rfl)|exact zBd rfl|exact zAc rfl rfl|exact zAm rfl rfl|(apply zA4;exact rfl;(with_reducible exact zCj))|exact zAH rfl|(apply zAC;exact rfl;(with_reducible first|exact zBV|exact zCh))|(apply zAG;exact rfl;(with_reducible first|exact zBg|exact zBC);exact rfl;exact rfl)|(apply w1;exact rfl;exact rfl)|(apply zAM;exact rfl)|apply zAU|refine zAr (by kernel_rfl) (by kernel_rfl) ?_
 all_goals first|omega|skip
 all_goals exact zDz rfl
theorem zPd(m:Img)(r:Raw)(s:List UInt8)(n:Nat)(hl:r.stk.length≤1048576)(hz:n≤4000)(h:(r.stk.length:Int)+(1-(n:Int))>4000): zAW Tryz.prog 75 [.ptr 0 0,.d (str s),.d (i64 (n:Int))] (MX m r) .top (MX m { r with fin:=6 }):=by
 have hH:=zIV m r (k:=1-(n:Int)) hl (by omega) h
 refine zAy Tryz.func75 rfl Tryz.ntmps75 Tryz.results75 rfl ?_
 intro wb St0 X fx
 repeat' first|apply en_n|apply zAK|apply zAA|apply zAF|apply w0|(apply k0u (hd:=rfl);exact rfl;exact rfl)|(refine aVM zCa (hH) ?_ rfl rfl ?_;(repeat (refine zAB rfl ?_));exact zAE)|apply ay (hd:=rfl)|exact zAJ rfl|(apply zDX;exact rfl;exact rfl)|exact zAj rfl rfl|exact zAH rfl|(apply zAL;exact rfl)|apply zAT|apply en_r
 all_goals first|omega|exact zDJ rfl
theorem zPc(m:Img)(r r':Raw)(s:List UInt8)(hs:s.length≤200)(n:Nat)(hl:r.stk.length≤1048576)(hz:n≤4000)(h:¬(r.stk.length:Int)+(1-(n:Int))>4000)(hR:zAW Tryz.prog 76 [.ptr 0 0,.d (i64 (((s.length+7) / 8+1:Nat):Int))] (MX m r) (.d (bl false)) (MX m r')): zAW Tryz.prog 75 [.ptr 0 0,.d (str s),.d (i64 (n:Int))] (MX m r) .top (MX m r'):=by
 have hH:=zHt m r (k:=1-(n:Int)) hl (by omega) h
 have hN:=zHC s (by omega)
 refine zAy Tryz.func75 rfl Tryz.ntmps75 Tryz.results75 rfl ?_
 intro wb St0 X fx
 repeat' first|apply en_n|apply zAK|apply zAA|apply zAF|apply w0|(refine zAZ [0,1,2,3,4,5,6,7,8] [] rfl rfl zCa (hH) rfl ?_ rfl (by decide) rfl rfl rfl rfl;(repeat (refine zAB rfl ?_));exact zAE)|(refine zAh zEZ hN (zAa rfl zAR))|(refine aVM zGf (hR) ?_ rfl rfl ?_;(repeat (refine zAB rfl ?_));exact zAE)|apply ay (hd:=rfl)|exact zAJ rfl|(apply zDX;exact rfl;exact rfl)|exact zBd rfl|exact zAc rfl rfl|exact zAH rfl|(apply w1;exact rfl;exact rfl)|(apply zAL;exact rfl)|apply zAT|apply en_r
 all_goals first|omega|exact zDJ rfl
set_option maxHeartbeats 2000000 in
theorem zSP(m:Img)(r r':Raw)(s:List UInt8)(hsl:s.length≤200)(n:Nat)(hl:r.stk.length≤1048576)(hz:n≤4000)(h:¬(r.stk.length:Int)+(1-(n:Int))>4000)(hR:zAW Tryz.prog 76 [.ptr 0 0,.d (i64 (((s.length+7) / 8+1:Nat):Int))] (MX m r) (.d (bl true)) (MX m r'))
  (hs:0≤r'.size∧r'.size≤1048576) (hn:r'.now.length+(zB4 s).need≤r'.size) (hb:r'.beg.length=r'.size) (hl':r'.stk.length≤1048576) (hn2:n≤r'.stk.length) :
  zAW Tryz.prog 75 [.ptr 0 0,.d (str s),.d (i64 (n:Int))] (MX m r) .top (MX m { r' with now:=r'.now++zCm (zB4 s)::zFL (zB4 s).size s,beg:=r'.beg.set r'.now.length true,stk:=r'.stk.take (r'.stk.length-n)++[2*r'.now.length] }):=by
 have hH:=zHt m r (k:=1-(n:Int)) hl (by omega) h
 have hN:=zHC s (by omega)
 have hA:=zME r'.size r'.now r'.oth r'.beg s hsl hs hn hb
 have hB:=zEp m { r' with now:=r'.now++zCm (zB4 s)::zFL (zB4 s).size s,beg:=r'.beg.set r'.now.length true } (n:=n) (w:=2*r'.now.length) hl' hn2
 refine zAy Tryz.func75 rfl Tryz.ntmps75 Tryz.results75 rfl ?_
 intro wb St0 X fx
 repeat' first|(refine zFE (id:=2) (s:=[(0,.ptr 0 0),(2,.d (i64 (n:Int))),(6,.d (w64 (2*r'.now.length)))]) (h:=MA fx m { r' with now:=r'.now++zCm (zB4 s)::zFL (zB4 s).size s,beg:=r'.beg.set r'.now.length true }) (zAV (zAI rfl (zAI rfl (zAI rfl zAd))) (zHi rfl rfl rfl rfl rfl rfl (zBW rfl) (zBW rfl) (zBW rfl) rfl) rfl rfl) ?_)|apply en_n|apply zAK|apply zAA|apply zAF|apply w0|exact zAN rfl|(refine zAZ [0,1,2,3,4,5,6,7,8] [] rfl rfl zCa (hH) rfl ?_ rfl (by decide) rfl rfl rfl rfl;(repeat (refine zAB rfl ?_));exact zAE)|(refine zAh zEZ hN (zAa rfl zAR))|(refine aVM zGf (hR) ?_ rfl rfl ?_;(repeat (refine zAB rfl ?_));exact zAE)|(refine zGI [1,2,3,4] zJF (hA) ?_ rfl rfl (by decide) rfl rfl rfl rfl rfl rfl ?_;(repeat (refine zAB rfl ?_));exact zAE)|(refine aVM zDq (hB) ?_ rfl rfl ?_;(repeat (refine zAB rfl ?_));exact zAE)|apply ay (hd:=rfl)|exact zAJ rfl|exact zAD rfl|(apply zDX;exact rfl;exact rfl)|exact zBd rfl|exact zAc rfl rfl|exact zAm rfl rfl|exact zAH rfl|(apply zAC;exact rfl;(with_reducible exact zBV))|(apply zAG;exact rfl;(with_reducible exact zBg);exact rfl;exact rfl)|(apply w1;exact rfl;exact rfl)|(apply zAM;exact rfl)|apply zAU
 all_goals first|omega|skip
 all_goals exact zDz rfl
end Go.Proofs.YtcagoomibpcdlaaGreatDoor

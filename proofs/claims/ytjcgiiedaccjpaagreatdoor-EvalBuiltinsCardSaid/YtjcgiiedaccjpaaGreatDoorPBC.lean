/- Parts. -/
import Derived.Test.YtjcgiiedaccjpaaGreatDoorPAN
import Derived.Test.YtjcgiiedaccjpaaGreatDoorPBB
set_option maxHeartbeats 16000000
namespace Go.Proofs.YtjcgiiedaccjpaaGreatDoor
open _root_.Go.Proofs.Tryz
open Go.Sx Go.Ev
abbrev zsE: List Value:=[.int .i64 0,.string ByteArray.empty,.int .i64 0,.int .i64 0]
def ndE(x:Nd): List SV:=[.d (i64 x.kind),.d (.val (.string ⟨x.text.toArray⟩)),.d (i64 x.num),.d (i64 x.kids)]
theorem zFf{P:Program}{η:List Ob}{σ:Sl}{dst:Option Nat}{ty:TypeId}{pos:String}{after:Array Edge}{gd:Option (Nat×Bool)}{t:TypeId}{p q:Operand}{a:List Nd}{i:Nat}{x:Nd}(hx:a[i]?=some x)(hp:oval σ p=.d (zAu a))(hq:oval σ q=.d (i64 (i:Int)))(hs:zBU P t=some 4):
  Ylds P η σ ⟨dst,.indexAddr t p q,ty,pos,after,gd⟩ (.rptr x.av.flat) :=
 zKB (xs:=a.map Nd.av) (zAr hp) hq hs oM (by show (a.map Nd.av)[((i:Int)).toNat]?=_;rw[qAT,qAJ,hx];rfl) (fun d hd=>by obtain⟨v,_,rfl⟩:=qAo.1 hd;rfl)
attribute [local irreducible] zAQ Program.underlying Ylds zBJ alex zBk zBZ awp zAX FCall zBo zBR zBX zEg zBb zBD zBd zBj zBn zBu zEL zBP VCall
theorem zVP(R:Rn)(s:S)(bs:List Nat)(hbs:bs.length=s.cells.length)(k:Nat)(de:D)(h0:s.fin≠0): R.To 23 [.ptr 0 0,.d (i64 (k:Int)),.d de] s bs s (fun _=>encV [] (.num 0)):=by
 refine Rn.to_of hbs func23 rfl ntmps23 results23 rfl ?_
 intro wb St0 X fx
 repeat' first|apply en_n|apply zAE|apply zAA|apply zAD|apply w0|exact zCC rfl rfl|exact zAn rfl|exact zAo zD5 zCM zBE rfl|(apply zDj;exact rfl;(first|with_reducible exact zCh|with_reducible exact zDH|with_reducible exact zDY|with_reducible exact zDi|with_reducible exact zEc))|apply ay (hd:=rfl)|exact zAB rfl|exact zAU rfl|exact zAI rfl zBW|exact zAG rfl zA8 rfl rfl|refine zAJ rfl ?_|apply zAN|apply en_r
 all_goals exact Rn.ret0 (y:=bs) ⟨qAw,hbs⟩ rfl rfl
theorem zXl(R:Rn)(s:S)(bs:List Nat)(hbs:bs.length=s.cells.length)(k:Nat)(de:D)(h0:s.fin=0)(hf:(s.steps:Int)=(R.fuel:Int)): R.To 23 [.ptr 0 0,.d (i64 (k:Int)),.d de] s bs (s.stop 3).2 (fun _=>encV [] (.num 0)):=by
 have hE:=zF8 R s bs hbs 3
 refine Rn.to_of hbs func23 rfl ntmps23 results23 rfl ?_
 intro wb St0 X fx
 repeat' first|apply en_n|apply zAE|apply zAA|apply zAD|apply w0|exact zBH rfl rfl|exact zBQ rfl rfl|exact zAn rfl|(refine zCH 2 [0,1] zDv (hE) rfl rfl rfl rfl (SArgs_all rfl) rfl rfl (by decide) rfl rfl rfl rfl rfl rfl rfl (fun y0 hy0=>⟨rfl,rfl,rfl,zA1 hy0.1 hbs hy0.2⟩) (fun y hy=>?_))|apply ay (hd:=rfl)|exact zAB rfl|exact zAU rfl|(apply zAI;exact rfl;(with_reducible first|exact zCW|exact zB9|exact zBW))|(apply zAG;exact rfl;(with_reducible first|exact zA8|exact zAa);exact rfl;exact rfl)|refine zAJ rfl ?_|refine zAK rfl ?_|apply zAM|apply zAN|refine zAy (by kernel_rfl) (by kernel_rfl) ?_|apply en_r
 all_goals exact Rn.ret0 hy rfl rfl
theorem zaV(R:Rn)(s:S)(bs:List Nat)(hbs:bs.length=s.cells.length){k:Nat}{x:Nd}{ks:List Tr}(de:D)(hL:R.L.length<=1000000)(hA:At R.L k (.mk x ks))(h0:s.fin=0)(hf:(s.steps:Int)≠(R.fuel:Int))(hs:s.steps<=1000000)(hk:x.kind=1): R.To 23 [.ptr 0 0,.d (i64 (k:Int)),.d de] s bs { s with steps:=s.steps+1 } (fun y=>encV y (.num x.num)):=by
 have hx:=hA.here
 have hK:=zC9 R.L (k:Int) oM
 have hkg:∀i,i<ks.length->(zB3 R.L (k:Int))[i]?=some ((kidAt k ks i:Nat):Int):=fun i hi=>hA.kids_get hi
 have hkl:=hA.kids_len
 generalize zB3 R.L (k:Int)=kf at *
 refine Rn.to_of hbs func23 rfl ntmps23 results23 rfl ?_
 intro wb St0 X fx
 repeat' first|(refine zBe (id:=6) [.y (.ptr 0 0),.y (.ptr 0 0),.y (.ptr 0 (0+0)),.y (.d (zAu R.L)),.y (.d (i64 (k:Int))),.y (.rptr x.av.flat),.y (.d (.agg (x.av.flat.take 4))),.y (.ptr 0 0),.y (.ptr 0 0),.y (.ptr 0 (0+0)),.y (.d (zAu R.L)),.y (.d (i64 (k:Int))),.y (.d (zBq kf)),.mk ⟨7,zsE,47,ndE x⟩ (some 14),.st 13 ⟨7,zsE,47,ndE x⟩,.y (.d (zBq kf))] (by kernel_rfl) (by kernel_rfl) (.inl rfl) ⟨⟨rfl,zAU rfl⟩,rfl,⟨rfl,zAn rfl⟩,rfl,⟨rfl,zAI rfl zBO⟩,rfl,⟨rfl,zAG rfl zAx rfl rfl⟩,rfl,⟨rfl,zAC rfl⟩,rfl,⟨rfl,zFf hx rfl rfl zAe⟩,rfl,⟨rfl,zAl rfl zAh rfl⟩,rfl,⟨rfl,zAU rfl⟩,rfl,⟨rfl,zAn rfl⟩,rfl,⟨rfl,zAI rfl zBO⟩,rfl,⟨rfl,zAG rfl zAx rfl rfl⟩,rfl,⟨rfl,zAC rfl⟩,rfl,⟨rfl,zAP zC7 hK (zAL rfl (zAL rfl zAF))⟩,rfl,⟨rfl,rfl,rfl,zA2,by kernel_rfl,rfl⟩,rfl,⟨⟨_,_,_,_,_,rfl,rfl,rfl,zAh,rfl⟩,rfl,rfl,rfl,rfl,rfl⟩,⟨rfl,zAB rfl⟩,rfl,trivial⟩ ?_)|(refine zDI (d:=7) (hidL (zBc bs s.cells)) 2 rfl rfl rfl rfl rfl (zBF _) rfl rfl ?_)|(refine zB0 6 2 1 rfl rfl rfl rfl rfl rfl rfl ?_)|apply en_n|apply zAE|apply zAA|apply zAD|apply w0|exact zBH rfl rfl|exact zBA rfl rfl|exact zBQ rfl rfl|exact zAn rfl|exact zAo zD5 zCM (PD_d rfl rfl zBE) rfl|(apply zDj;exact rfl;(first|with_reducible exact zCh|with_reducible exact zDH|with_reducible exact zDY|with_reducible exact zDi|with_reducible exact zEc))|apply ay (hd:=rfl)|exact zAB rfl|refine zBN rfl rfl ?_|exact zAU rfl|(apply zAI;exact rfl;(with_reducible first|exact zCW|exact zB9|exact zBW|exact fn_0|exact fn_2))|(apply zAG;exact rfl;(with_reducible first|exact zA8|exact zAa|exact zAm|exact zBi);exact rfl;exact rfl)|(refine w0' ?_)|(apply zAq;exact rfl;exact rfl;exact rfl;(with_reducible exact zAa);exact rfl;exact rfl;exact rfl;exact rfl)|refine zAJ rfl ?_|refine zAK rfl ?_|apply zAH|apply zAM|refine zAy (by kernel_rfl) (by kernel_rfl) ?_|apply en_r|apply eb_r
 all_goals first|omega|exact Rn.retO (s':={ s with steps:=s.steps+1 }) (y:=bs) ⟨qAw,hbs⟩ rfl rfl rfl|skip
theorem zXk(R:Rn)(s:S)(bs:List Nat)(hbs:bs.length=s.cells.length){k:Nat}{x:Nd}{ks:List Tr}(de:D)(hL:R.L.length<=1000000)(hA:At R.L k (.mk x ks))(h0:s.fin=0)(hf:(s.steps:Int)≠(R.fuel:Int))(hs:s.steps<=1000000)(hk:x.kind=2): R.To 23 [.ptr 0 0,.d (i64 (k:Int)),.d de] s bs { s with steps:=s.steps+1 } (fun y=>encV y (.text x.text)):=by
 have hx:=hA.here
 have hK:=zC9 R.L (k:Int) oM
 have hkg:∀i,i<ks.length->(zB3 R.L (k:Int))[i]?=some ((kidAt k ks i:Nat):Int):=fun i hi=>hA.kids_get hi
 have hkl:=hA.kids_len
 generalize zB3 R.L (k:Int)=kf at *
 refine Rn.to_of hbs func23 rfl ntmps23 results23 rfl ?_
 intro wb St0 X fx
 repeat' first|(refine zBe (id:=6) [.y (.ptr 0 0),.y (.ptr 0 0),.y (.ptr 0 (0+0)),.y (.d (zAu R.L)),.y (.d (i64 (k:Int))),.y (.rptr x.av.flat),.y (.d (.agg (x.av.flat.take 4))),.y (.ptr 0 0),.y (.ptr 0 0),.y (.ptr 0 (0+0)),.y (.d (zAu R.L)),.y (.d (i64 (k:Int))),.y (.d (zBq kf)),.mk ⟨7,zsE,47,ndE x⟩ (some 14),.st 13 ⟨7,zsE,47,ndE x⟩,.y (.d (zBq kf))] (by kernel_rfl) (by kernel_rfl) (.inl rfl) ⟨⟨rfl,zAU rfl⟩,rfl,⟨rfl,zAn rfl⟩,rfl,⟨rfl,zAI rfl zBO⟩,rfl,⟨rfl,zAG rfl zAx rfl rfl⟩,rfl,⟨rfl,zAC rfl⟩,rfl,⟨rfl,zFf hx rfl rfl zAe⟩,rfl,⟨rfl,zAl rfl zAh rfl⟩,rfl,⟨rfl,zAU rfl⟩,rfl,⟨rfl,zAn rfl⟩,rfl,⟨rfl,zAI rfl zBO⟩,rfl,⟨rfl,zAG rfl zAx rfl rfl⟩,rfl,⟨rfl,zAC rfl⟩,rfl,⟨rfl,zAP zC7 hK (zAL rfl (zAL rfl zAF))⟩,rfl,⟨rfl,rfl,rfl,zA2,by kernel_rfl,rfl⟩,rfl,⟨⟨_,_,_,_,_,rfl,rfl,rfl,zAh,rfl⟩,rfl,rfl,rfl,rfl,rfl⟩,⟨rfl,zAB rfl⟩,rfl,trivial⟩ ?_)|(refine zDI (d:=7) (hidL (zBc bs s.cells)) 2 rfl rfl rfl rfl rfl (zBF _) rfl rfl ?_)|(refine zB0 6 2 1 rfl rfl rfl rfl rfl rfl rfl ?_)|apply en_n|apply zAE|apply zAA|apply zAD|apply w0|exact zBH rfl rfl|exact zBA rfl rfl|exact zBQ rfl rfl|exact zAn rfl|exact zAo zRY zDd (PD_d rfl rfl zBE) rfl|(apply zDj;exact rfl;(first|with_reducible exact zCh|with_reducible exact zDH|with_reducible exact zDY|with_reducible exact zDi|with_reducible exact zEc))|apply ay (hd:=rfl)|exact zAB rfl|refine zBN rfl rfl ?_|exact zAU rfl|(apply zAI;exact rfl;(with_reducible first|exact zCW|exact zB9|exact zBW|exact fn_0|exact fn_1))|(apply zAG;exact rfl;(with_reducible first|exact zA8|exact zAa|exact zAm|exact zAf);exact rfl;exact rfl)|(refine w0' ?_)|(apply zAq;exact rfl;exact rfl;exact rfl;(with_reducible exact zAa);exact rfl;exact rfl;exact rfl;exact rfl)|refine zAJ rfl ?_|refine zAK rfl ?_|apply zAH|apply zAM|refine zAy (by kernel_rfl) (by kernel_rfl) ?_|apply en_r|apply eb_r
 all_goals first|omega|exact Rn.retO (s':={ s with steps:=s.steps+1 }) (y:=bs) ⟨qAw,hbs⟩ rfl rfl rfl|skip
theorem zaS(R:Rn)(s:S)(bs:List Nat)(hbs:bs.length=s.cells.length){k:Nat}{x:Nd}{ks:List Tr}(de:D)(hL:R.L.length<=1000000)(hA:At R.L k (.mk x ks))(h0:s.fin=0)(hf:(s.steps:Int)≠(R.fuel:Int))(hs:s.steps<=1000000)(hk:x.kind=3)(env:Env)(hde:de=encE bs env): R.To 23 [.ptr 0 0,.d (i64 (k:Int)),.d de] s bs { s with steps:=s.steps+1 } (fun y=>encV y (told R.pg x.text env)):=by
 have hx:=hA.here
 have hK:=zC9 R.L (k:Int) oM
 have hkg:∀i,i<ks.length->(zB3 R.L (k:Int))[i]?=some ((kidAt k ks i:Nat):Int):=fun i hi=>hA.kids_get hi
 have hkl:=hA.kids_len
 generalize zB3 R.L (k:Int)=kf at *
 have hT:=zbF R { s with steps:=s.steps+1 } bs x.text env
 rw[<-hde]at hT
 refine Rn.to_of hbs func23 rfl ntmps23 results23 rfl ?_
 intro wb St0 X fx
 repeat' first|(refine zBe (id:=6) [.y (.ptr 0 0),.y (.ptr 0 0),.y (.ptr 0 (0+0)),.y (.d (zAu R.L)),.y (.d (i64 (k:Int))),.y (.rptr x.av.flat),.y (.d (.agg (x.av.flat.take 4))),.y (.ptr 0 0),.y (.ptr 0 0),.y (.ptr 0 (0+0)),.y (.d (zAu R.L)),.y (.d (i64 (k:Int))),.y (.d (zBq kf)),.mk ⟨7,zsE,47,ndE x⟩ (some 14),.st 13 ⟨7,zsE,47,ndE x⟩,.y (.d (zBq kf))] (by kernel_rfl) (by kernel_rfl) (.inl rfl) ⟨⟨rfl,zAU rfl⟩,rfl,⟨rfl,zAn rfl⟩,rfl,⟨rfl,zAI rfl zBO⟩,rfl,⟨rfl,zAG rfl zAx rfl rfl⟩,rfl,⟨rfl,zAC rfl⟩,rfl,⟨rfl,zFf hx rfl rfl zAe⟩,rfl,⟨rfl,zAl rfl zAh rfl⟩,rfl,⟨rfl,zAU rfl⟩,rfl,⟨rfl,zAn rfl⟩,rfl,⟨rfl,zAI rfl zBO⟩,rfl,⟨rfl,zAG rfl zAx rfl rfl⟩,rfl,⟨rfl,zAC rfl⟩,rfl,⟨rfl,zAP zC7 hK (zAL rfl (zAL rfl zAF))⟩,rfl,⟨rfl,rfl,rfl,zA2,by kernel_rfl,rfl⟩,rfl,⟨⟨_,_,_,_,_,rfl,rfl,rfl,zAh,rfl⟩,rfl,rfl,rfl,rfl,rfl⟩,⟨rfl,zAB rfl⟩,rfl,trivial⟩ ?_)|(refine zDI (d:=7) (hidL (zBc bs s.cells)) 2 rfl rfl rfl rfl rfl (zBF _) rfl rfl ?_)|(refine zB0 6 2 1 rfl rfl rfl rfl rfl rfl rfl ?_)|apply en_n|apply zAE|apply zAA|apply zAD|apply w0|exact zBH rfl rfl|exact zBA rfl rfl|exact zBQ rfl rfl|exact zAn rfl|(refine zDa [0,1] [] rfl rfl zaL (hT) rfl (SArgs_all rfl) rfl (by decide) rfl rfl rfl rfl)|apply ay (hd:=rfl)|exact zAC rfl|exact zAB rfl|refine zBN rfl rfl ?_|exact zAU rfl|(apply zAI;exact rfl;(with_reducible first|exact zCW|exact zB9|exact zBW|exact fn_0|exact fn_1))|(apply zAG;exact rfl;(with_reducible first|exact zA8|exact zAa|exact zAm|exact zAf);exact rfl;exact rfl)|(refine w0' ?_)|(apply zAq;exact rfl;exact rfl;exact rfl;(with_reducible exact zAa);exact rfl;exact rfl;exact rfl;exact rfl)|refine zAJ rfl ?_|refine zAK rfl ?_|apply zAH|apply zAM|refine zAy (by kernel_rfl) (by kernel_rfl) ?_|apply en_r|apply eb_r
 all_goals first|omega|exact Rn.retO (s':={ s with steps:=s.steps+1 }) (y:=bs) ⟨qAw,hbs⟩ rfl rfl rfl|skip
theorem zaY(R:Rn)(s:S)(bs:List Nat)(hbs:bs.length=s.cells.length){k:Nat}{x:Nd}{ks:List Tr}(de:D)(hL:R.L.length<=1000000)(hA:At R.L k (.mk x ks))(h0:s.fin=0)(hf:(s.steps:Int)≠(R.fuel:Int))(hs:s.steps<=1000000)(hk:x.kind=4)(hT:DtL R.T){i j:Nat}{d:Dt}{c:Ct}(hfd:zEA R.T x.text=some (i,j))(hd:R.T[i]?=some d)(hc:d.cons[j]?=some c): R.To 23 [.ptr 0 0,.d (i64 (k:Int)),.d de] s bs { s with steps:=s.steps+1 } (fun y=>encV y (.con x.text c.args.length [])):=by
 have hx:=hA.here
 have hK:=zC9 R.L (k:Int) oM
 have hkg:∀i,i<ks.length->(zB3 R.L (k:Int))[i]?=some ((kidAt k ks i:Nat):Int):=fun i hi=>hA.kids_get hi
 have hkl:=hA.kids_len
 generalize zB3 R.L (k:Int)=kf at *
 have hF:=zQM x.text hT.len hT.cons
 rw[hfd]at hF
 replace hF:zAX prog 48 [dts R.T,str x.text] (.tup [i64 (i:Int),i64 (j:Int),bl true]):=hF
 have hd':R.T[(i:Int).toNat]?=some d:=hd
 have hc':d.cons[(j:Int).toNat]?=some c:=hc
 refine Rn.to_of hbs func23 rfl ntmps23 results23 rfl ?_
 intro wb St0 X fx
 repeat' first|(refine zBe (id:=6) [.y (.ptr 0 0),.y (.ptr 0 0),.y (.ptr 0 (0+0)),.y (.d (zAu R.L)),.y (.d (i64 (k:Int))),.y (.rptr x.av.flat),.y (.d (.agg (x.av.flat.take 4))),.y (.ptr 0 0),.y (.ptr 0 0),.y (.ptr 0 (0+0)),.y (.d (zAu R.L)),.y (.d (i64 (k:Int))),.y (.d (zBq kf)),.mk ⟨7,zsE,47,ndE x⟩ (some 14),.st 13 ⟨7,zsE,47,ndE x⟩,.y (.d (zBq kf))] (by kernel_rfl) (by kernel_rfl) (.inl rfl) ⟨⟨rfl,zAU rfl⟩,rfl,⟨rfl,zAn rfl⟩,rfl,⟨rfl,zAI rfl zBO⟩,rfl,⟨rfl,zAG rfl zAx rfl rfl⟩,rfl,⟨rfl,zAC rfl⟩,rfl,⟨rfl,zFf hx rfl rfl zAe⟩,rfl,⟨rfl,zAl rfl zAh rfl⟩,rfl,⟨rfl,zAU rfl⟩,rfl,⟨rfl,zAn rfl⟩,rfl,⟨rfl,zAI rfl zBO⟩,rfl,⟨rfl,zAG rfl zAx rfl rfl⟩,rfl,⟨rfl,zAC rfl⟩,rfl,⟨rfl,zAP zC7 hK (zAL rfl (zAL rfl zAF))⟩,rfl,⟨rfl,rfl,rfl,zA2,by kernel_rfl,rfl⟩,rfl,⟨⟨_,_,_,_,_,rfl,rfl,rfl,zAh,rfl⟩,rfl,rfl,rfl,rfl,rfl⟩,⟨rfl,zAB rfl⟩,rfl,trivial⟩ ?_)|(refine zDI (d:=7) (hidL (zBc bs s.cells)) 2 rfl rfl rfl rfl rfl (zBF _) rfl rfl ?_)|(refine zB0 6 2 1 rfl rfl rfl rfl rfl rfl rfl ?_)|(apply ay (hd:=rfl);apply zDr;exact rfl;exact rfl)|apply en_n|apply zAE|apply zAA|apply zAD|apply w0|exact zBH rfl rfl|exact zBA rfl rfl|exact zBQ rfl rfl|exact zAn rfl|(refine zAP zIA hF (CoLA rfl))|(refine zAo (cs:=[str x.text,.slice [],i64 (c.args.length:Int)]) zRX zRS (PD_d rfl rfl (PD_d rfl rfl zBE)) rfl)|(apply zDj;exact rfl;(first|with_reducible exact zCh|with_reducible exact zDH|with_reducible exact zDY|with_reducible exact zDi|with_reducible exact zEc))|(apply aJ (hd:=rfl);(first|exact zAr rfl|exact Co_bb rfl rfl rfl|exact Co_nn rfl);exact rfl;(with_reducible first|exact zCN|exact zDW);assumption;omega;exact fun _=>rfl)|apply ay (hd:=rfl)|exact zAC rfl|exact zAB rfl|(apply zAs;exact rfl;(with_reducible first|exact zBt|exact zCA))|(apply zAR;exact rfl;(with_reducible first|exact zCV|exact zCY))|exact zAg rfl zCL|refine zBN rfl rfl ?_|exact zAb rfl rfl|exact zAU rfl|(apply zAI;exact rfl;(with_reducible first|exact zVV|exact zCW|exact zB9|exact zBW|exact fn_0|exact fn_1))|(apply zAG;exact rfl;(with_reducible first|exact zFS|exact zA8|exact zAa|exact zAm|exact zAf);exact rfl;exact rfl)|(refine w0' ?_)|(apply zAq;exact rfl;exact rfl;exact rfl;(with_reducible exact zAa);exact rfl;exact rfl;exact rfl;exact rfl)|refine zAJ rfl ?_|refine zAK rfl ?_|apply zAH|apply zAM|refine zAy (by kernel_rfl) (by kernel_rfl) ?_|apply en_r|apply eb_r
 all_goals first|omega|exact Rn.retO (s':={ s with steps:=s.steps+1 }) (y:=bs) ⟨qAw,hbs⟩ rfl rfl rfl|skip
theorem zaW(R:Rn)(s:S)(bs:List Nat)(hbs:bs.length=s.cells.length){k:Nat}{x:Nd}{ks:List Tr}(de:D)(hL:R.L.length<=1000000)(hA:At R.L k (.mk x ks))(h0:s.fin=0)(hf:(s.steps:Int)≠(R.fuel:Int))(hs:s.steps<=1000000)(hk:x.kind=5)(hl:1<=ks.length)(env:Env)(hde:de=encE bs env): R.To 23 [.ptr 0 0,.d (i64 (k:Int)),.d de] s bs { s with steps:=s.steps+1 } (fun y=>encV y (.fn x.text (kidAt k ks 0) [] env)):=by
 have hx:=hA.here
 have hK:=zC9 R.L (k:Int) oM
 have hkg:∀i,i<ks.length->(zB3 R.L (k:Int))[i]?=some ((kidAt k ks i:Nat):Int):=fun i hi=>hA.kids_get hi
 have hkl:=hA.kids_len
 generalize zB3 R.L (k:Int)=kf at *
 have hk0:kf[((0:Nat):Int).toNat]?=some ((kidAt k ks 0:Nat):Int):=hkg 0 oM
 have hok:=zIs bs env
 have hfl:=zHP bs env
 show R.To _ _ _ _ _ (fun y=>.ifc 112 (.ref [str x.text,i64 ((kidAt k ks 0:Nat):Int),encE y env,str []]))
 have hfill:zJL [(0,1),(1,1),(2,1),(3,1)] ([Value.string ByteArray.empty,.int .i64 0,.pointer none,.string ByteArray.empty].map zdv) ([(0,str x.text),(1,i64 ((kidAt k ks 0:Nat):Int)),(2,encE bs env),(3,str [])].map fun p=>(p.1,p.2.flat))=some [str x.text,i64 ((kidAt k ks 0:Nat):Int),encE bs env,str []]:=by
  show zJL _ _ [(0,[str x.text]),(1,[i64 ((kidAt k ks 0:Nat):Int)]),(2,(encE bs env).flat),(3,[str []])]=_
  rw[hfl];rfl
 subst hde
 refine Rn.to_of hbs func23 rfl ntmps23 results23 rfl ?_
 intro wb St0 X fx
 repeat' first|(refine zBe (id:=6) [.y (.ptr 0 0),.y (.ptr 0 0),.y (.ptr 0 (0+0)),.y (.d (zAu R.L)),.y (.d (i64 (k:Int))),.y (.rptr x.av.flat),.y (.d (.agg (x.av.flat.take 4))),.y (.ptr 0 0),.y (.ptr 0 0),.y (.ptr 0 (0+0)),.y (.d (zAu R.L)),.y (.d (i64 (k:Int))),.y (.d (zBq kf)),.mk ⟨7,zsE,47,ndE x⟩ (some 14),.st 13 ⟨7,zsE,47,ndE x⟩,.y (.d (zBq kf))] (by kernel_rfl) (by kernel_rfl) (.inl rfl) ⟨⟨rfl,zAU rfl⟩,rfl,⟨rfl,zAn rfl⟩,rfl,⟨rfl,zAI rfl zBO⟩,rfl,⟨rfl,zAG rfl zAx rfl rfl⟩,rfl,⟨rfl,zAC rfl⟩,rfl,⟨rfl,zFf hx rfl rfl zAe⟩,rfl,⟨rfl,zAl rfl zAh rfl⟩,rfl,⟨rfl,zAU rfl⟩,rfl,⟨rfl,zAn rfl⟩,rfl,⟨rfl,zAI rfl zBO⟩,rfl,⟨rfl,zAG rfl zAx rfl rfl⟩,rfl,⟨rfl,zAC rfl⟩,rfl,⟨rfl,zAP zC7 hK (zAL rfl (zAL rfl zAF))⟩,rfl,⟨rfl,rfl,rfl,zA2,by kernel_rfl,rfl⟩,rfl,⟨⟨_,_,_,_,_,rfl,rfl,rfl,zAh,rfl⟩,rfl,rfl,rfl,rfl,rfl⟩,⟨rfl,zAB rfl⟩,rfl,trivial⟩ ?_)|(refine zDI (d:=7) (hidL (zBc bs s.cells)) 2 rfl rfl rfl rfl rfl (zBF _) rfl rfl ?_)|(refine zB0 6 2 1 rfl rfl rfl rfl rfl rfl rfl ?_)|(apply ay (hd:=rfl);apply zDr;exact rfl;exact rfl)|apply en_n|apply zAE|apply zAA|apply zAD|apply w0|exact zBH rfl rfl|exact zBA rfl rfl|exact zBQ rfl rfl|exact zAn rfl|(refine zAo (cs:=[str x.text,i64 ((kidAt k ks 0:Nat):Int),encE bs env,str []]) zRW zRR (PD_d rfl rfl (PD_d rfl rfl (PD_d rfl hok (PD_d rfl rfl zBE)))) hfill)|(apply zDj;exact rfl;(first|with_reducible exact zCh|with_reducible exact zDH|with_reducible exact zDY|with_reducible exact zDi|with_reducible exact zEc))|(apply aJ (hd:=rfl);(first|exact zAr rfl|exact Co_bb rfl rfl rfl|exact Co_nn rfl);exact rfl;(with_reducible exact zBK);assumption;omega;exact fun _=>rfl)|apply ay (hd:=rfl)|exact zAC rfl|exact zAB rfl|exact zAR rfl zAa|refine zBN rfl rfl ?_|exact zAU rfl|(apply zAI;exact rfl;(with_reducible first|exact zCW|exact zB9|exact zBW|exact fn_0|exact fn_1))|(apply zAG;exact rfl;(with_reducible first|exact zA8|exact zAa|exact zAm|exact zAf);exact rfl;exact rfl)|(refine w0' ?_)|(apply zAq;exact rfl;exact rfl;exact rfl;(with_reducible exact zAa);exact rfl;exact rfl;exact rfl;exact rfl)|refine zAJ rfl ?_|refine zAK rfl ?_|apply zAH|apply zAM|refine zAy (by kernel_rfl) (by kernel_rfl) ?_|apply en_r|apply eb_r
 all_goals first|omega|exact Rn.retO (s':={ s with steps:=s.steps+1 }) (y:=bs) ⟨qAw,hbs⟩ rfl rfl rfl|skip
end Go.Proofs.YtjcgiiedaccjpaaGreatDoor
namespace Go.Proofs.YtjcgiiedaccjpaaGreatDoor
open Go.Sx Go.Ev
def ExAt(R:Rn)(k:Nat): Prop:=∃t,At R.L k t/\t.werr false=0
mutual
def VOk(R:Rn)(N:Nat): V->Prop
 | .num _=>True
 | .text t=>t.length<=1000
 | .con _ _ args=>args.length<=N/\VsOk R N args
 | .prim p args=>p<=14/\args.length<=N/\VsOk R N args
 | .fn _ k _ env=>ExAt R k/\EOk R N env
 | .cell _=>True
def VsOk(R:Rn)(N:Nat): List V->Prop
 |[]=>True
 |v::r=>VOk R N v/\VsOk R N r
def EOk(R:Rn)(N:Nat): Env->Prop
 | .nil=>True
 | .cons _ v up=>VOk R N v/\EOk R N up
end
mutual
theorem VOk.mono{R:Rn}{n m:Nat}(h:n<=m): ∀(v:V),VOk R n v->VOk R m v
 | .num _,_=>trivial
 | .text _,hv=>hv
 | .con _ _ args,hv=>⟨qAx hv.1 h,VsOk.mono h args hv.2⟩
 | .prim _ args,hv=>⟨hv.1,qAx hv.2.1 h,VsOk.mono h args hv.2.2⟩
 | .fn _ _ _ env,hv=>⟨hv.1,EOk.mono h env hv.2⟩
 | .cell _,_=>trivial
theorem VsOk.mono{R:Rn}{n m:Nat}(h:n<=m): ∀(l:List V),VsOk R n l->VsOk R m l
 |[],_=>trivial
 |v::r,hv=>⟨VOk.mono h v hv.1,VsOk.mono h r hv.2⟩
theorem EOk.mono{R:Rn}{n m:Nat}(h:n<=m): ∀(e:Env),EOk R n e->EOk R m e
 | .nil,_=>trivial
 | .cons _ v up,hv=>⟨VOk.mono h v hv.1,EOk.mono h up hv.2⟩
end
theorem VsOk.app{R:Rn}{n:Nat}: ∀{l m:List V},VsOk R n l->VsOk R n m->VsOk R n (l++m)
 |[],_,_,h=>h
 |_::_,_,h,k=>⟨h.1,VsOk.app h.2 k⟩
theorem VsOk.getD{R:Rn}{n:Nat}: ∀{l:List V} (i:Nat),VsOk R n l->VOk R n (l.getD i default)
 |[],i,_=>by rw[List.getD_nil];exact trivial
 |v::r,0,h=>h.1
 |v::r,i+1,h=>by rw[List.getD_cons_succ];exact VsOk.getD i h.2
theorem VsOk.set{R:Rn}{n:Nat}{v:V}(hv:VOk R n v): ∀{l:List V} (i:Nat),VsOk R n l->VsOk R n (l.set i v)
 |[],_,_=>trivial
 |_::_,0,h=>⟨hv,h.2⟩
 |_::_,i+1,h=>⟨h.1,VsOk.set hv i h.2⟩
structure ROk(R:Rn)(N n:Nat)(r:V×S): Prop where
 le:n<=r.2.steps
 val:VOk R (N+(r.2.steps-n)) r.1
 cells:VsOk R (N+(r.2.steps-n)) r.2.cells
 out:r.2.out.length<=N+(r.2.steps-n)
theorem ROk.mono{R:Rn}{N M n m:Nat}{r:V×S}(h:ROk R N n r)(hm:m<=r.2.steps)(hN:N+(r.2.steps-n)<=M+(r.2.steps-m)): ROk R M m r :=
 ⟨hm,VOk.mono hN _ h.val,VsOk.mono hN _ h.cells,qAx h.out hN⟩
theorem ROk.trans{R:Rn}{N n:Nat}{r q:V×S}(h:ROk R N n r)(k:ROk R (N+(r.2.steps-n)) r.2.steps q): ROk R N n q :=
 k.mono (qAx h.le k.le) (by have:=h.le;have:=k.le;omega)
theorem ROk.same{R:Rn}{N:Nat}{s:S}(hc:VsOk R N s.cells)(ho:s.out.length<=N){v:V}(hv:VOk R N v){t:S}(h1:t.steps=s.steps)(h2:t.cells=s.cells)(h3:t.out=s.out): ROk R N s.steps (v,t):=by
 have e:N+(t.steps-s.steps)=N:=by omega
 refine⟨by rw[h1];exact qAN _,?_,?_,?_⟩
 ·show VOk R (N+(t.steps-s.steps)) v;rw[e];exact hv
 ·show VsOk R (N+(t.steps-s.steps)) t.cells;rw[e,h2];exact hc
 ·show t.out.length<=N+(t.steps-s.steps);rw[e,h3];exact ho
theorem ROk.more{R:Rn}{N:Nat}{s:S}{v:V}{t:S}(h1:t.steps=s.steps)(hv:VOk R (N+1) v)(hc:VsOk R (N+1) t.cells)(ho:t.out.length<=N+1): ROk R (N+1) s.steps (v,t):=by
 have e:N+1+(t.steps-s.steps)=N+1:=by omega
 refine⟨by rw[h1];exact qAN _,?_,?_,?_⟩
 ·show VOk R (N+1+(t.steps-s.steps)) v;rw[e];exact hv
 ·show VsOk R (N+1+(t.steps-s.steps)) t.cells;rw[e];exact hc
 ·show t.out.length<=N+1+(t.steps-s.steps);rw[e];exact ho
def shwW(n:Int): List UInt8:=shw (W n)
theorem zMo(s:S)(p:Nat)(a b:Int): (∃n,(s.ints p a b).1=.num n)/\(s.ints p a b).2.steps=s.steps/\(s.ints p a b).2.cells=s.cells/\(s.ints p a b).2.out=s.out:=by
 unfold S.ints S.raise bit
 repeat' split
 all_goals exact⟨⟨_,rfl⟩,rfl,rfl,rfl⟩
theorem doP_inv{R:Rn}{N:Nat}{s:S}(hc:VsOk R N s.cells)(ho:s.out.length<=N)(p:Nat){l:List V}(hl:VsOk R N l): ROk R (N+1) s.steps (s.doP shwW p l):=by
 have h0:=VsOk.getD 0 hl
 have h1:=VsOk.getD 1 hl
 have hc':=VsOk.mono (qBu N) _ hc
 have ho':s.out.length<=N+1:=Nat.le_succ_of_le ho
 have st:∀e,ROk R (N+1) s.steps (s.stop e):=fun e=>.more rfl trivial hc' ho'
 unfold S.doP;dsimp only
 generalize l.getD 0 default=a at *
 generalize l.getD 1 default=b at *
 refine ite_r ?_ (ite_r ?_ (ite_r ?_ (ite_r ?_ (ite_r ?_ (ite_r ?_ (ite_r ?_ ?_))))))
 ·split
  ·rename_i x y
   obtain⟨⟨n,hn⟩,e1,e2,e3⟩:=zMo s p x y
   generalize s.ints p x y=r at *
   obtain⟨r1,r2⟩:=r
   dsimp only at hn e1 e2 e3;subst hn
   exact .more e1 trivial (by rw[e2];exact hc') (by rw[e3];exact ho')
  ·exact st 4
 ·split
  ·split
   ·exact .more rfl trivial hc' ho'
   ·rename_i hq
    exact .more rfl (by show _<=1000;rw[qAH];omega) hc' ho'
  ·exact st 4
 ·split
  ·exact .more rfl trivial hc' ho'
  ·exact st 4
 ·exact .more rfl trivial (VsOk.app hc' ⟨VOk.mono (qBu N) _ h0,trivial⟩) ho'
 ·split
  ·exact .more rfl (VsOk.getD _ hc') hc' ho'
  ·exact st 4
 ·split
  ·exact .more rfl trivial (VsOk.set (VOk.mono (qBu N) _ h1) _ hc') ho'
  ·exact st 4
 ·split
  ·exact .more rfl trivial hc' (by show (s.out++[_]).length<=_;rw[qAH];exact Nat.succ_le_succ ho)
  ·exact st 4
 ·split
  ·exact .more rfl trivial hc' (by show (s.out++[_]).length<=_;rw[qAH];exact Nat.succ_le_succ ho)
  ·exact st 4
where
 ite_r {R:Rn} {N n:Nat} {c:Prop} [Decidable c] {a b:V×S} (ha:ROk R N n a) (hb:ROk R N n b):ROk R N n (if c then a else b):=by split <;> assumption
theorem zQf{R:Rn}{N:Nat}(x:List UInt8): ∀{e:Env},EOk R N e->VOk R N (told R.pg x e)
 | .nil,_=>⟨zUF x,qAO _,trivial⟩
 | .cons m v up,h=>by
  unfold told
  split
  ·exact h.1
  ·exact zQf x h.2
theorem zOM{R:Rn}{N:Nat}{P:Pg}{mt:Nat->V->Env->Env×Bool}(hm:∀k v e,VOk R N v->EOk R N e->EOk R N (mt k v e).1)(k:Nat): ∀(l:List V) (j:Nat) (e:Env),VsOk R N l->EOk R N e->EOk R N (zGx P mt k j l e).1
 |[],_,e,_,he=>he
 |v::r,j,e,hl,he=>by
  unfold zGx
  split
  ·exact zOM hm k r (j+1) _ hl.2 (hm _ _ _ hl.1 he)
  ·exact hm _ _ _ hl.1 he
theorem zJ0{R:Rn}{N:Nat}(P:Pg): ∀f k v e,VOk R N v->EOk R N e->EOk R N (matP P f k v e).1
 |0,_,_,e,_,he=>he
 |f+1,k,v,e,hv,he=>by
  unfold matP
  split
  ·exact he
  split
  ·exact⟨hv,he⟩
  split
  ·exact he
  split
  ·split
   ·exact zOM (zJ0 P f) k _ 0 e hv.2 he
   ·exact he
  ·exact he
theorem zV4{R:Rn}{N:Nat}{ex:S->Nat->Env->V×S}{s:S}(hx:∀k e,ExAt R k->EOk R N e->ROk R N s.steps (ex s k e))(hc:VsOk R N s.cells)(ho:s.out.length<=N){f a:V}(hf:VOk R N f)(ha:VOk R N a): ROk R (N+1) s.steps (s.apply shwW ex f a):=by
 have up:∀{r:V×S},ROk R N s.steps r->ROk R (N+1) s.steps r:=fun h=>h.mono h.le oM
 unfold S.apply
 split
 ·exact up (.same hc ho ha rfl rfl rfl)
 ·split
  ·rename_i n k self env
   refine up (hx _ _ hf.1 ⟨ha,?_⟩)
   split
   ·exact hf.2
   ·exact⟨hf,hf.2⟩
  ·split
   ·exact doP_inv hc ho _ (VsOk.app hf.2.2 ⟨ha,trivial⟩)
   ·exact .more rfl ⟨hf.1,by rw[qAH];exact Nat.succ_le_succ hf.2.1,VsOk.mono (qBu N) _ (VsOk.app hf.2.2 ⟨ha,trivial⟩)⟩ (VsOk.mono (qBu N) _ hc) (Nat.le_succ_of_le ho)
  ·split
   ·exact .more rfl ⟨by rw[qAH];exact Nat.succ_le_succ hf.1,VsOk.mono (qBu N) _ (VsOk.app hf.2 ⟨ha,trivial⟩)⟩ (VsOk.mono (qBu N) _ hc) (Nat.le_succ_of_le ho)
   ·exact up (.same (v:=.num 0) hc ho trivial rfl rfl rfl)
  ·exact up (.same (v:=.num 0) hc ho trivial rfl rfl rfl)
theorem zCc{R:Rn}{k:Nat}{x:Nd}{ks:List Tr}(hA:At R.L k (.mk x ks))(hw:Tr.werr (.mk x ks) false=0){j:Nat}(hj:j<ks.length)(hm:x.kind≠10\/j%2=0): ExAt R (kidAt k ks j):=by
 refine⟨ks[j],hA.kid (qAB hj),?_⟩
 have h:=zEW (j:=j) (zFX hw).2 (qAB hj)
 rw[qAS]at h
 have e:(false||(decide (x.kind=10)&&decide (j%2=1)))=false:=by
  rcases hm with hm|hm
  ·rw[decide_eq_false hm];rfl
  ·rw[decide_eq_false (show ¬j%2=1 by omega)];simp
 rwa [e]at h
structure ExSh(x:Nd)(ks:List Tr): Prop where
 kind:1<=x.kind/\x.kind<=12
 c1:x.kind=5\/x.kind=11->ks.length=1
 c2:x.kind=6\/x.kind=7\/x.kind=8\/x.kind=12->ks.length=2
 c3:x.kind=9->ks.length=3
 c10:x.kind=10->3<=ks.length/\ks.length%2=1
 text:x.kind=2->x.text.length<=200
 kn:x.kids=(ks.length:Int)
 rc:x.kind=8->Tr.kind1 (.mk x ks)=5
theorem exSh{R:Rn}{k:Nat}{x:Nd}{ks:List Tr}(hA:At R.L k (.mk x ks))(hw:Tr.werr (.mk x ks) false=0): ExSh x ks:=by
 have hn:=(zFX hw).1
 obtain⟨h1,h2,h3⟩:=zDl hn
 have hkn:=hA.kidn
 have hk:1<=x.kind/\x.kind<=12:=by
  have h5:(1<=x.kind/\x.kind<=12)\/(21<=x.kind/\x.kind<=24):=by simpa[okK]using h1
  have h6:¬(21<=x.kind/\x.kind<=24):=by simpa[patK]using h2
  omega
 unfold cntK at h3
 refine⟨hk,fun h=>?_,fun h=>?_,fun h=>?_,fun h=>?_,fun h=>?_,hkn,fun h=>?_⟩
 ·rw[if_pos h]at h3;have:=of_decide_eq_true h3;omega
 ·rw[if_neg oM,if_pos h]at h3;have:=of_decide_eq_true h3;omega
 ·rw[if_neg oM,if_neg oM,if_pos h]at h3;have:=of_decide_eq_true h3;omega
 ·rw[if_neg oM,if_neg oM,if_neg oM,if_pos h]at h3;have:=of_decide_eq_true h3;omega
 ·unfold zFQ at hn
  split at hn
  ·cases hn
  split at hn
  ·cases hn
  split at hn
  ·cases hn
  ·rename_i hq
   rcases qAF 200 x.text.length with hl|hl
   ·exact absurd (.inl ⟨h,hl⟩) hq
   ·exact hl
 ·unfold zFQ at hn
  split at hn
  ·cases hn
  split at hn
  ·cases hn
  split at hn
  ·cases hn
  split at hn
  ·cases hn
  ·rename_i hq
   exact qBH fun hc=>hq ⟨h,hc⟩
theorem zM6{R:Rn}{k:Nat}{x:Nd}{ks:List Tr}(hA:At R.L k (.mk x ks))(hw:Tr.werr (.mk x ks) false=0)(hk:x.kind=8): ∃x2,R.L[kidAt k ks 0]?=some x2/\ExAt R (kidAt k ks 0+1):=by
 have hs:=exSh hA hw
 have hl:=hs.c2 (.inr (.inr (.inl hk)))
 have h0:0<ks.length:=by omega
 obtain⟨t,ht,hw2⟩:=zCc hA hw h0 (.inl oM)
 match t,ht,hw2 with
 | .mk x2 ks2,ht,hw2 =>
  refine⟨x2,ht.here,?_⟩
  have hk2:x2.kind=5:=by
   have h5:=hs.rc hk
   match ks,hA,h5,ht with
   |[],_,_,_=>cases h0
   |t0::r,hA,h5,ht =>
    have e2:x2=t0.hd:=by
     have:=(hA.kid (i:=0) (k:=t0) rfl).hd
     rw[ht.here]at this;injection this
    rw[e2];exact h5
  have hs2:=exSh ht hw2
  have:=zCc ht hw2 (j:=0) (by have:=hs2.c1 (.inl hk2);omega) (.inl oM)
  rwa [zCu]at this
theorem zRm{R:Rn}{N:Nat}{ex:S->Nat->Env->V×S}{s:S}(hx:∀k e,ExAt R k->EOk R N e->ROk R N s.steps (ex s k e))(hc:VsOk R N s.cells)(ho:s.out.length<=N){k:Nat}{x:Nd}{ks:List Tr}(hA:At R.L k (.mk x ks))(hw:Tr.werr (.mk x ks) false=0)(hodd:ks.length%2=1){v:V}(hv:VOk R N v){e:Env}(he:EOk R N e)(D:Nat): ∀c i,i%2=1->i+2*c<=ks.length->ROk R N s.steps (s.arms ex (mat R.pg D) R.pg k v e c i)
 |0,_,_,_=>.same (v:=.num 0) hc ho trivial rfl rfl rfl
 |c+1,i,hi,hb=>by
  unfold S.arms
  rw[zH2]
  by_cases hq:(matP R.pg D (R.pg.kid k i) v e).2=true
  ·rw[if_pos hq]
   refine hx _ _ ?_ (zJ0 _ _ _ _ _ hv he)
   rw[R.kid_at hA oM]
   exact zCc hA hw oM (.inr oM)
  ·rw[if_neg hq]
   exact zRm hx hc ho hA hw hodd hv he D c (i+2) oM oM
theorem zVN(R:Rn): ∀f s k e N,ExAt R k->EOk R N e->VsOk R N s.cells->s.out.length<=N->ROk R N s.steps (exp shwW R.pg f s k e)
 |0,s,k,e,N,_,_,hc,ho=>.same (v:=.num 0) hc ho trivial rfl rfl rfl
 |f+1,s,k,e,N,⟨.mk x ks,hA,hw⟩,he,hc,ho=>by
  have hs:=exSh hA hw
  have ih:∀t k e M,ExAt R k->EOk R M e->VsOk R M t.cells->t.out.length<=M->ROk R M t.steps (exp shwW R.pg f t k e):=zVN R f
  have same:∀{v:V} {t:S},VOk R N v->t.steps=s.steps->t.cells=s.cells->t.out=s.out->ROk R N s.steps (v,t):=fun hv h1 h2 h3=>.same hc ho hv h1 h2 h3
  have step:∀{r:V×S},ROk R N (s.steps+1) r->ROk R N s.steps r:=fun {r} h=>h.mono (by have:=h.le;omega) oM
  have one:∀{v:V},VOk R N v->ROk R N s.steps (v,{ s with steps:=s.steps+1 }):=fun {v} hv=>step (.same (s:={ s with steps:=s.steps+1 }) hc ho hv rfl rfl rfl)
  have ih1:∀k e,ExAt R k->EOk R N e->ROk R N (s.steps+1) (exp shwW R.pg f { s with steps:=s.steps+1 } k e):=fun k e h1 h2=>ih { s with steps:=s.steps+1 } k e N h1 h2 hc ho
  have st:∀{r:V×S},ROk R N (s.steps+1) r->∀{v:V} {t:S},VOk R (N+(r.2.steps-(s.steps+1))) v->t.steps=r.2.steps->t.cells=r.2.cells->t.out=r.2.out->ROk R N s.steps (v,t):=fun {r} h {v t} hv h1 h2 h3=>step (h.trans (.same h.cells h.out hv h1 h2 h3))
  unfold exp
  rw[R.node_at hA.here]
  refine doP_inv.ite_r (same (v:=.num 0) trivial rfl rfl rfl) (doP_inv.ite_r (same (v:=.num 0) trivial rfl rfl rfl) ?_)
  dsimp only
  by_cases k1:x.kind=1
  ·rw[if_pos k1];exact one trivial
  rw[if_neg k1]
  by_cases k2:x.kind=2
  ·rw[if_pos k2];exact one (by show _<=1000;have:=hs.text k2;omega)
  rw[if_neg k2]
  by_cases k3:x.kind=3
  ·rw[if_pos k3];exact one (zQf _ he)
  rw[if_neg k3]
  by_cases k4:x.kind=4
  ·rw[if_pos k4];exact one ⟨qAO _,trivial⟩
  rw[if_neg k4]
  by_cases k5:x.kind=5
  ·rw[if_pos k5,R.kid_at hA (by have:=hs.c1 (.inl k5);omega)]
   exact one ⟨zCc hA hw (by have:=hs.c1 (.inl k5);omega) (.inl oM),he⟩
  rw[if_neg k5]
  by_cases k6:x.kind=6
  ·have hl:=hs.c2 (.inl k6)
   rw[if_pos k6,R.kid_at hA (j:=0) oM,R.kid_at hA (j:=1) oM]
   have h1:=ih1 (kidAt k ks 0) e (zCc hA hw oM (.inl oM)) he
   generalize exp shwW R.pg f { s with steps:=s.steps+1 } (kidAt k ks 0) e=r at *
   have hle1:=h1.le
   have h2:=ih r.2 (kidAt k ks 1) e _ (zCc hA hw oM (.inl oM)) (EOk.mono oM _ he) h1.cells h1.out
   generalize exp shwW R.pg f r.2 (kidAt k ks 1) e=q at *
   have hle2:=h2.le
   have h12:=h1.trans h2
   have h3:=zV4 (f:=r.1) (fun k e h1 h2=>ih q.2 k e _ h1 h2 h12.cells h12.out) h12.cells h12.out (VOk.mono oM _ h1.val) h12.val
   exact h3.mono (by have:=h3.le;omega) (by have:=h3.le;omega)
  rw[if_neg k6]
  by_cases k7:x.kind=7
  ·have hl:=hs.c2 (.inr (.inl k7))
   rw[if_pos k7,R.kid_at hA (j:=0) oM,R.kid_at hA (j:=1) oM]
   have h1:=ih1 (kidAt k ks 0) e (zCc hA hw oM (.inl oM)) he
   generalize exp shwW R.pg f { s with steps:=s.steps+1 } (kidAt k ks 0) e=r at *
   exact step (h1.trans (ih r.2 _ _ _ (zCc hA hw oM (.inl oM)) ⟨h1.val,EOk.mono oM _ he⟩ h1.cells h1.out))
  rw[if_neg k7]
  by_cases k8:x.kind=8
  ·have hl:=hs.c2 (.inr (.inr (.inl k8)))
   rw[if_pos k8,R.kid_at hA (j:=0) oM,R.kid_at hA (j:=1) oM]
   obtain⟨x2,hx2,hr2⟩:=zM6 hA hw k8
   refine doP_inv.ite_r (one (v:=.num 0) trivial |>.mono (by show s.steps<=s.steps+1;omega) (qAN _) |> fun h=>⟨h.le,h.val,h.cells,h.out⟩) ?_
   have:=ih { s with steps:=s.steps+1+1 } (kidAt k ks 1) (.cons x.text (.fn (R.pg.node (kidAt k ks 0)).text (kidAt k ks 0+1) x.text e) e) N (zCc hA hw oM (.inl oM)) ⟨⟨hr2,he⟩,he⟩ hc ho
   exact this.mono (qAx (show s.steps<=s.steps+1+1 by omega) this.le) (by show N+(_-(s.steps+1+1))<=N+(_-s.steps);omega)
  rw[if_neg k8]
  by_cases k9:x.kind=9
  ·have hl:=hs.c3 k9
   rw[if_pos k9,R.kid_at hA (j:=0) oM,R.kid_at hA (j:=1) oM,R.kid_at hA (j:=2) oM]
   have h1:=ih1 (kidAt k ks 0) e (zCc hA hw oM (.inl oM)) he
   generalize exp shwW R.pg f { s with steps:=s.steps+1 } (kidAt k ks 0) e=r at *
   refine doP_inv.ite_r (st h1 (v:=.num 0) trivial rfl rfl rfl) ?_
   split
   ·refine doP_inv.ite_r ?_ ?_
    ·exact step (h1.trans (ih r.2 _ _ _ (zCc hA hw oM (.inl oM)) (EOk.mono oM _ he) h1.cells h1.out))
    ·exact step (h1.trans (ih r.2 _ _ _ (zCc hA hw oM (.inl oM)) (EOk.mono oM _ he) h1.cells h1.out))
   ·exact st h1 (v:=.num 0) trivial rfl rfl rfl
  rw[if_neg k9]
  by_cases k11:x.kind=11
  ·have hl:=hs.c1 (.inr k11)
   rw[if_pos k11,R.kid_at hA (j:=0) oM]
   have h1:=ih1 (kidAt k ks 0) e (zCc hA hw oM (.inl oM)) he
   generalize exp shwW R.pg f { s with steps:=s.steps+1 } (kidAt k ks 0) e=r at *
   refine doP_inv.ite_r (st h1 (v:=.num 0) trivial rfl rfl rfl) ?_
   split
   ·exact st h1 (v:=.num 0) trivial rfl rfl rfl
   ·exact st h1 (v:=.num 0) trivial rfl rfl rfl
  rw[if_neg k11]
  by_cases k12:x.kind=12
  ·have hl:=hs.c2 (.inr (.inr (.inr k12)))
   rw[if_pos k12,R.kid_at hA (j:=0) oM,R.kid_at hA (j:=1) oM]
   have h1:=ih1 (kidAt k ks 0) e (zCc hA hw oM (.inl oM)) he
   generalize exp shwW R.pg f { s with steps:=s.steps+1 } (kidAt k ks 0) e=r at *
   refine doP_inv.ite_r (step h1) ?_
   exact step (h1.trans (ih { r.2 with fin:=0 } _ _ _ (zCc hA hw oM (.inl oM)) ⟨trivial,EOk.mono oM _ he⟩ h1.cells h1.out))
  rw[if_neg k12]
  have hk10:x.kind=10:=by have:=hs.kind;omega
  obtain⟨hl,hodd⟩:=hs.c10 hk10
  rw[R.kid_at hA (j:=0) oM]
  have h1:=ih1 (kidAt k ks 0) e (zCc hA hw oM (.inr rfl)) he
  generalize exp shwW R.pg f { s with steps:=s.steps+1 } (kidAt k ks 0) e=r at *
  refine doP_inv.ite_r (step h1) (step (h1.trans ?_))
  have hkn:=hs.kn
  exact zRm (fun k e h2 h3=>ih r.2 k e _ h2 h3 h1.cells h1.out) h1.cells h1.out hA hw hodd h1.val (EOk.mono oM _ he) _ _ 1 rfl oM
open _root_.Go.Proofs.Tryz
attribute [local irreducible] zAQ Program.underlying Ylds zBJ alex zBk zBZ awp zAX FCall zBo zBR zBX zEg zBb zBD zBd zBj zBn zBu zEL zBP VCall
theorem zaZ(R:Rn)(s:S)(bs:List Nat)(hbs:bs.length=s.cells.length){k:Nat}{x:Nd}{ks:List Tr}(de:D)(hL:R.L.length<=1000000)(hA:At R.L k (.mk x ks))(h0:s.fin=0)(hf:(s.steps:Int)≠(R.fuel:Int))(hs:s.steps<=1000000)(hk:x.kind=6)(hl:2<=ks.length){s2:S}{t1:TypeId}{dd:List Nat->D}(hE1:R.To 23 [.ptr 0 0,.d (i64 ((kidAt k ks 0:Nat):Int)),.d de] { s with steps:=s.steps+1 } bs s2 (fun y=>.ifc t1 (dd y))){s3 s4:S}{t2:TypeId}{d2:List Nat->D}{dv:List Nat->D}(hE2:∀y,Eok bs s2 y->R.To 23 [.ptr 0 0,.d (i64 ((kidAt k ks 1:Nat):Int)),.d de] s2 y s3 (fun y=>.ifc t2 (d2 y)))(hE3:∀y z,Eok bs s2 y->Eok y s3 z->R.To 49 [.ptr 0 0,.d (.ifc t1 (dd y)),.d (.ifc t2 (d2 z))] s3 z s4 dv): R.To 23 [.ptr 0 0,.d (i64 (k:Int)),.d de] s bs s4 (dv):=by
 have hx:=hA.here
 have hK:=zC9 R.L (k:Int) oM
 have hkg:∀i,i<ks.length->(zB3 R.L (k:Int))[i]?=some ((kidAt k ks i:Nat):Int):=fun i hi=>hA.kids_get hi
 have hkl:=hA.kids_len
 generalize zB3 R.L (k:Int)=kf at *
 have hk0:kf[((0:Nat):Int).toNat]?=some ((kidAt k ks 0:Nat):Int):=hkg 0 oM
 have hk1:kf[((1:Nat):Int).toNat]?=some ((kidAt k ks 1:Nat):Int):=hkg 1 oM
 refine Rn.to_of hbs func23 rfl ntmps23 results23 rfl ?_
 intro wb St0 X fx
 repeat' first|(refine zBe (id:=6) [.y (.ptr 0 0),.y (.ptr 0 0),.y (.ptr 0 (0+0)),.y (.d (zAu R.L)),.y (.d (i64 (k:Int))),.y (.rptr x.av.flat),.y (.d (.agg (x.av.flat.take 4))),.y (.ptr 0 0),.y (.ptr 0 0),.y (.ptr 0 (0+0)),.y (.d (zAu R.L)),.y (.d (i64 (k:Int))),.y (.d (zBq kf)),.mk ⟨7,zsE,47,ndE x⟩ (some 14),.st 13 ⟨7,zsE,47,ndE x⟩,.y (.d (zBq kf))] kR kR (.inl rfl) pAE ?_)|(refine zDI (d:=7) (hidL (zBc bs s.cells)) 2 rfl rfl rfl rfl rfl (zBF _) rfl rfl ?_)|(refine zB0 6 2 1 rfl rfl rfl rfl rfl rfl rfl ?_)|apply en_n|apply zAE|apply zAA|apply zAD|apply w0|(refine zCH 3 [0,1] zDm (hE1) rfl rfl rfl rfl (SArgs_all rfl) rfl rfl dC rfl rfl rfl rfl rfl rfl rfl (fun y0 hy0=>⟨rfl,rfl,rfl,zA1 hy0.1 hbs hy0.2⟩) (fun y hy=>?_))|(refine zCH 3 [0,1] zDm (hE2 y hy) rfl rfl rfl rfl (SArgs_all rfl) rfl rfl dC rfl rfl rfl rfl rfl rfl rfl (fun y0 hy0=>⟨rfl,rfl,rfl,zA1 hy0.1 hy.2 hy0.2⟩) (fun z hz=>?_))|(refine zCH 3 [0,1] zXY (hE3 y z hy hz) rfl rfl rfl rfl (SArgs_all rfl) rfl rfl dC rfl rfl rfl rfl rfl rfl rfl (fun y0 hy0=>⟨rfl,rfl,rfl,zA1 hy0.1 hz.2 hy0.2⟩) (fun w hw=>?_))|refine aJA ?_|refine ayA rfl ?_|refine ayQ rfl ?_|apply ay (hd:=rfl)|refine zBN rfl rfl ?_|(refine w0' ?_)|refine aStA ?_|refine zAJ rfl ?_|refine zAK rfl ?_|apply zAH|apply zAM|refine awDA ?_|apply en_r|apply eb_r
 all_goals first|omega|exact Rn.retO (s':=s4) (y:=w) ⟨hy.1.trans (hz.1.trans (hw.1)),hw.2⟩ rfl rfl rfl|skip
theorem zaU(R:Rn)(s:S)(bs:List Nat)(hbs:bs.length=s.cells.length){k:Nat}{x:Nd}{ks:List Tr}(de:D)(hL:R.L.length<=1000000)(hA:At R.L k (.mk x ks))(h0:s.fin=0)(hf:(s.steps:Int)≠(R.fuel:Int))(hs:s.steps<=1000000)(hk:x.kind=7)(hl:2<=ks.length)(hok:okc de=true)(hfl:de.flat=[de]){s2:S}{t1:TypeId}{dd:List Nat->D}(hE1:R.To 23 [.ptr 0 0,.d (i64 ((kidAt k ks 0:Nat):Int)),.d de] { s with steps:=s.steps+1 } bs s2 (fun y=>.ifc t1 (dd y))){s3:S}{dv:List Nat->D}(hE2:∀y,Eok bs s2 y->R.To 23 [.ptr 0 0,.d (i64 ((kidAt k ks 1:Nat):Int)),.d (.ref [str x.text,.ifc t1 (dd y),de])] s2 y s3 dv): R.To 23 [.ptr 0 0,.d (i64 (k:Int)),.d de] s bs s3 (dv):=by
 have hx:=hA.here
 have hK:=zC9 R.L (k:Int) oM
 have hkg:∀i,i<ks.length->(zB3 R.L (k:Int))[i]?=some ((kidAt k ks i:Nat):Int):=fun i hi=>hA.kids_get hi
 have hkl:=hA.kids_len
 generalize zB3 R.L (k:Int)=kf at *
 have hk0:kf[((0:Nat):Int).toNat]?=some ((kidAt k ks 0:Nat):Int):=hkg 0 oM
 have hk1:kf[((1:Nat):Int).toNat]?=some ((kidAt k ks 1:Nat):Int):=hkg 1 oM
 refine Rn.to_of hbs func23 rfl ntmps23 results23 rfl ?_
 intro wb St0 X fx
 repeat' first|(refine zBe (id:=6) [.y (.ptr 0 0),.y (.ptr 0 0),.y (.ptr 0 (0+0)),.y (.d (zAu R.L)),.y (.d (i64 (k:Int))),.y (.rptr x.av.flat),.y (.d (.agg (x.av.flat.take 4))),.y (.ptr 0 0),.y (.ptr 0 0),.y (.ptr 0 (0+0)),.y (.d (zAu R.L)),.y (.d (i64 (k:Int))),.y (.d (zBq kf)),.mk ⟨7,zsE,47,ndE x⟩ (some 14),.st 13 ⟨7,zsE,47,ndE x⟩,.y (.d (zBq kf))] (by kernel_rfl) (by kernel_rfl) (.inl rfl) ⟨⟨rfl,zAU rfl⟩,rfl,⟨rfl,zAn rfl⟩,rfl,⟨rfl,zAI rfl zBO⟩,rfl,⟨rfl,zAG rfl zAx rfl rfl⟩,rfl,⟨rfl,zAC rfl⟩,rfl,⟨rfl,zFf hx rfl rfl zAe⟩,rfl,⟨rfl,zAl rfl zAh rfl⟩,rfl,⟨rfl,zAU rfl⟩,rfl,⟨rfl,zAn rfl⟩,rfl,⟨rfl,zAI rfl zBO⟩,rfl,⟨rfl,zAG rfl zAx rfl rfl⟩,rfl,⟨rfl,zAC rfl⟩,rfl,⟨rfl,zAP zC7 hK (zAL rfl (zAL rfl zAF))⟩,rfl,⟨rfl,rfl,rfl,zA2,by kernel_rfl,rfl⟩,rfl,⟨⟨_,_,_,_,_,rfl,rfl,rfl,zAh,rfl⟩,rfl,rfl,rfl,rfl,rfl⟩,⟨rfl,zAB rfl⟩,rfl,trivial⟩ ?_)|(refine zDI (d:=7) (hidL (zBc bs s.cells)) 2 rfl rfl rfl rfl rfl (zBF _) rfl rfl ?_)|(refine zB0 6 2 1 rfl rfl rfl rfl rfl rfl rfl ?_)|(apply ay (hd:=rfl);apply zDr;exact rfl;exact rfl)|apply en_n|apply zAE|apply zAA|apply zAD|apply w0|exact zBH rfl rfl|exact zBA rfl rfl|exact zBQ rfl rfl|exact zAn rfl|(refine zAo (cs:=[str x.text,.ifc t1 (dd y),de]) zID zIB (PD_d rfl rfl (PD_d rfl rfl (PD_d rfl hok zBE))) (zMC _ _ _ hfl))|(refine zCH 3 [0,1] zDm (hE1) rfl rfl rfl rfl (SArgs_all rfl) rfl rfl (by decide) rfl rfl rfl rfl rfl rfl rfl (fun y0 hy0=>⟨rfl,rfl,rfl,zA1 hy0.1 hbs hy0.2⟩) (fun y hy=>?_))|(refine zEN (by kernel_rfl) ?_;refine zCH 3 [0,1] zDm (hE2 y hy) rfl rfl rfl rfl (SArgs_all rfl) rfl rfl (by decide) rfl rfl rfl rfl rfl rfl rfl (fun y0 hy0=>⟨rfl,rfl,rfl,zA1 hy0.1 hy.2 hy0.2⟩) (fun z hz=>?_))|(apply aJ (hd:=rfl);(first|exact zAr rfl|exact Co_bb rfl rfl rfl|exact Co_nn rfl);exact rfl;(with_reducible exact zBK);assumption;omega;exact fun _=>rfl)|apply ay (hd:=rfl)|exact zAC rfl|exact zAB rfl|exact zAR rfl zAa|refine zBN rfl rfl ?_|exact zAU rfl|(apply zAI;exact rfl;(with_reducible first|exact zCW|exact zB9|exact zBW|exact fn_0|exact fn_1))|(apply zAG;exact rfl;(with_reducible first|exact zA8|exact zAa|exact zAm|exact zAf);exact rfl;exact rfl)|(refine w0' ?_)|(apply zAq;exact rfl;exact rfl;exact rfl;(with_reducible exact zAa);exact rfl;exact rfl;exact rfl;exact rfl)|refine zAJ rfl ?_|refine zAK rfl ?_|apply zAH|apply zAM|refine zAy (by kernel_rfl) (by kernel_rfl) ?_|apply en_r|apply eb_r
 all_goals first|omega|exact Rn.retO (s':=s3) (y:=z) ⟨hy.1.trans (hz.1),hz.2⟩ rfl rfl rfl|skip
theorem zOk(R:Rn)(s:S)(bs:List Nat)(hbs:bs.length=s.cells.length){k:Nat}{x:Nd}{ks:List Tr}(de:D)(hL:R.L.length<=1000000)(hA:At R.L k (.mk x ks))(h0:s.fin=0)(hf:(s.steps:Int)≠(R.fuel:Int))(hs:s.steps<=1000000)(hk:x.kind=8)(hf2:(s.steps:Int)+1=(R.fuel:Int)): R.To 23 [.ptr 0 0,.d (i64 (k:Int)),.d de] s bs { s with steps:=s.steps+1,fin:=3 } (fun _=>encV [] (.num 0)):=by
 have hE:=zF8 R { s with steps:=s.steps+1 } bs hbs 3
 have hx:=hA.here
 have hK:=zC9 R.L (k:Int) oM
 have hkg:∀i,i<ks.length->(zB3 R.L (k:Int))[i]?=some ((kidAt k ks i:Nat):Int):=fun i hi=>hA.kids_get hi
 have hkl:=hA.kids_len
 generalize zB3 R.L (k:Int)=kf at *
 refine Rn.to_of hbs func23 rfl ntmps23 results23 rfl ?_
 intro wb St0 X fx
 repeat' first|(refine zBe (id:=6) [.y (.ptr 0 0),.y (.ptr 0 0),.y (.ptr 0 (0+0)),.y (.d (zAu R.L)),.y (.d (i64 (k:Int))),.y (.rptr x.av.flat),.y (.d (.agg (x.av.flat.take 4))),.y (.ptr 0 0),.y (.ptr 0 0),.y (.ptr 0 (0+0)),.y (.d (zAu R.L)),.y (.d (i64 (k:Int))),.y (.d (zBq kf)),.mk ⟨7,zsE,47,ndE x⟩ (some 14),.st 13 ⟨7,zsE,47,ndE x⟩,.y (.d (zBq kf))] kR kR (.inl rfl) pAE ?_)|(refine zDI (d:=7) (hidL (zBc bs s.cells)) 2 rfl rfl rfl rfl rfl (zBF _) rfl rfl ?_)|(refine zB0 6 2 1 rfl rfl rfl rfl rfl rfl rfl ?_)|apply en_n|apply zAE|apply zAA|apply zAD|apply w0|(refine zCH 3 [0,1] zDv (hE) rfl rfl rfl rfl (SArgs_all rfl) rfl rfl dC rfl rfl rfl rfl rfl rfl rfl (fun y0 hy0=>⟨rfl,rfl,rfl,zA1 hy0.1 hbs hy0.2⟩) (fun y hy=>?_))|refine ayA rfl ?_|refine ayQ rfl ?_|apply ay (hd:=rfl)|refine zBN rfl rfl ?_|(refine w0' ?_)|refine aStA ?_|refine zAJ rfl ?_|refine zAK rfl ?_|apply zAH|apply zAM|refine awDA ?_|apply en_r|apply eb_r
 all_goals first|omega|exact Rn.retO (s':={ s with steps:=s.steps+1,fin:=3 }) (y:=y) ⟨hy.1,hy.2⟩ rfl rfl rfl|skip
theorem zaT(R:Rn)(s:S)(bs:List Nat)(hbs:bs.length=s.cells.length){k:Nat}{x:Nd}{ks:List Tr}(de:D)(hL:R.L.length<=1000000)(hA:At R.L k (.mk x ks))(h0:s.fin=0)(hf:(s.steps:Int)≠(R.fuel:Int))(hs:s.steps<=1000000)(hk:x.kind=8)(hl:2<=ks.length)(hf2:(s.steps:Int)+1≠(R.fuel:Int))(hok:okc de=true)(hfl:de.flat=[de]){x2:Nd}(hx2:R.L[kidAt k ks 0]?=some x2){s3:S}{dv:List Nat->D}(hE2:R.To 23 [.ptr 0 0,.d (i64 ((kidAt k ks 1:Nat):Int)),.d (.ref [str x.text,.ifc 112 (.ref [str x2.text,i64 (((kidAt k ks 0:Nat):Int)+1),de,str x.text]),de])] { s with steps:=s.steps+1+1 } bs s3 dv): R.To 23 [.ptr 0 0,.d (i64 (k:Int)),.d de] s bs s3 (dv):=by
 have hx:=hA.here
 have hK:=zC9 R.L (k:Int) oM
 have hkg:∀i,i<ks.length->(zB3 R.L (k:Int))[i]?=some ((kidAt k ks i:Nat):Int):=fun i hi=>hA.kids_get hi
 have hkl:=hA.kids_len
 generalize zB3 R.L (k:Int)=kf at *
 have hk0:kf[((0:Nat):Int).toNat]?=some ((kidAt k ks 0:Nat):Int):=hkg 0 oM
 have hk1:kf[((1:Nat):Int).toNat]?=some ((kidAt k ks 1:Nat):Int):=hkg 1 oM
 have hkl2:kidAt k ks 0<R.L.length:=(qAA.1 hx2).1
 have hfill:zJL [(0,1),(1,1),(2,1),(3,1)] ([Value.string ByteArray.empty,.int .i64 0,.pointer none,.string ByteArray.empty].map zdv) ([(0,str x2.text),(1,i64 (((kidAt k ks 0:Nat):Int)+1)),(2,de),(3,str x.text)].map fun p=>(p.1,p.2.flat))=some [str x2.text,i64 (((kidAt k ks 0:Nat):Int)+1),de,str x.text]:=by
  show zJL _ _ [(0,[str x2.text]),(1,[i64 (((kidAt k ks 0:Nat):Int)+1)]),(2,de.flat),(3,[str x.text])]=_
  rw[hfl];rfl
 refine Rn.to_of hbs func23 rfl ntmps23 results23 rfl ?_
 intro wb St0 X fx
 repeat' first|(refine zBe (id:=6) [.y (.ptr 0 0),.y (.ptr 0 0),.y (.ptr 0 (0+0)),.y (.d (zAu R.L)),.y (.d (i64 (k:Int))),.y (.rptr x.av.flat),.y (.d (.agg (x.av.flat.take 4))),.y (.ptr 0 0),.y (.ptr 0 0),.y (.ptr 0 (0+0)),.y (.d (zAu R.L)),.y (.d (i64 (k:Int))),.y (.d (zBq kf)),.mk ⟨7,zsE,47,ndE x⟩ (some 14),.st 13 ⟨7,zsE,47,ndE x⟩,.y (.d (zBq kf))] kR kR (.inl rfl) pAE ?_)|(refine zDI (d:=7) (hidL (zBc bs s.cells)) 2 rfl rfl rfl rfl rfl (zBF _) rfl rfl ?_)|(refine zBe (id:=29) [.y (.ptr 0 0),.y (.ptr 0 0),.y (.ptr 0 (0+0)),.y (.d (zAu R.L)),.y (.d (zBq kf)),.y (.rptr [i64 ((kidAt k ks 0:Nat):Int)]),.y (.d (i64 ((kidAt k ks 0:Nat):Int))),.y (.rptr x2.av.flat),.y (.d (.agg (x2.av.flat.take 4))),.mk ⟨14,zsE,47,ndE x2⟩ (some 10),.st 9 ⟨14,zsE,47,ndE x2⟩] kR kR (.inl rfl) ⟨⟨rfl,zAU rfl⟩,rfl,⟨rfl,zAn rfl⟩,rfl,⟨rfl,zAI rfl zBO⟩,rfl,⟨rfl,zAG rfl zAx rfl rfl⟩,rfl,⟨rfl,zAC rfl⟩,rfl,⟨rfl,zBG (xs:=kf.map ival) (n:=0) (d:=ival ((kidAt k ks 0:Nat):Int)) rfl rfl zBK (Int.le_refl 0) (by rw[qAJ];exact congrArg (Option.map ival) hk0) rfl dC⟩,rfl,⟨rfl,zAR rfl zAa⟩,rfl,⟨rfl,zFf hx2 rfl rfl zAe⟩,rfl,⟨rfl,zAl rfl zAh rfl⟩,rfl,⟨rfl,rfl,rfl,zA2,by kernel_rfl,rfl⟩,rfl,⟨⟨_,_,_,_,_,rfl,rfl,rfl,zAh,rfl⟩,rfl,rfl,rfl,rfl,rfl⟩,trivial⟩ ?_)|(refine zDI (d:=14) (hidL (zBc bs s.cells)) 3 rfl rfl rfl rfl rfl (zBF _) rfl rfl ?_)|(refine zB0 6 2 2 rfl rfl rfl rfl rfl rfl rfl ?_)|(apply ay (hd:=rfl);apply zDr;exact rfl;exact rfl)|apply en_n|apply zAE|apply zAA|apply zAD|apply w0|(refine zAo (cs:=[str x2.text,i64 (((kidAt k ks 0:Nat):Int)+1),de,str x.text]) zRW zRR (PD_d rfl rfl (PD_d rfl rfl (PD_d rfl hok (PD_d rfl rfl zBE)))) hfill)|(refine zAo (cs:=[str x.text,.ifc 112 ((.ref [str x2.text,i64 (((kidAt k ks 0:Nat):Int)+1),de,str x.text])),de]) zID zIB (PD_d rfl rfl (PD_d rfl rfl (PD_d rfl hok zBE))) (zMC _ _ _ hfl))|(apply zDj;exact rfl;(first|with_reducible exact zCh|with_reducible exact zDH|with_reducible exact zDY|with_reducible exact zDi|with_reducible exact zEc))|(refine zEN kR ?_;refine zCH 4 [0,1] zDm (hE2) rfl rfl rfl rfl (SArgs_all rfl) rfl rfl dC rfl rfl rfl rfl rfl rfl rfl (fun y0 hy0=>⟨rfl,rfl,rfl,zA1 hy0.1 hbs hy0.2⟩) (fun y hy=>?_))|refine aJA ?_|refine ayA rfl ?_|refine ayQ rfl ?_|apply ay (hd:=rfl)|refine zBN rfl rfl ?_|(refine w0' ?_)|refine aStA ?_|refine zAJ rfl ?_|refine zAK rfl ?_|apply zAH|apply zAM|refine awDA ?_|apply en_r|apply eb_r
 all_goals first|omega|exact Rn.retO (s':=s3) (y:=y) ⟨hy.1,hy.2⟩ rfl rfl rfl|skip

/- Parts. -/
import Derived.Test.YtjcgiiedaccjpaaGreatDoorMAW
set_option maxHeartbeats 16000000
namespace Go.Proofs.YtjcgiiedaccjpaaGreatDoor
open _root_.Go.Proofs.Tryz
open Go.Sx Go.Ev
attribute [local irreducible] zAK Program.underlying Ylds zA3 alex zBc zBL awp zAc zBd zBi zBD zBI zDI zBS zA5 zBT zBY zBe zBs zC7 zBN VCall
theorem zTt(R:Rn)(s:S)(bs:List Nat)(hbs:bs.length=s.cells.length){k:Nat}{x:Nd}{ks:List Tr}(de:D)(hL:R.L.length<=1000000)(hA:At R.L k (.mk x ks))(h0:s.fin=0)(hf:(s.steps:Int)≠(R.fuel:Int))(hs:s.steps<=1000000)(hk:x.kind=6)(hl:2<=ks.length){s2:S}{t1:TypeId}{dd:List Nat->D}(hE1:R.To 23 [.ptr 0 0,.d (i64 ((kidAt k ks 0:Nat):Int)),.d de] { s with steps:=s.steps+1 } bs s2 (fun y=>.ifc t1 (dd y))){s3 s4:S}{t2:TypeId}{d2:List Nat->D}{dv:List Nat->D}(hE2:∀y,Eok bs s2 y->R.To 23 [.ptr 0 0,.d (i64 ((kidAt k ks 1:Nat):Int)),.d de] s2 y s3 (fun y=>.ifc t2 (d2 y)))(hE3:∀y z,Eok bs s2 y->Eok y s3 z->R.To 49 [.ptr 0 0,.d (.ifc t1 (dd y)),.d (.ifc t2 (d2 z))] s3 z s4 dv): R.To 23 [.ptr 0 0,.d (i64 (k:Int)),.d de] s bs s4 (dv):=by
 have hx:=hA.here
 have hK:=zCE R.L (k:Int) (by omega)
 have hkg:∀i,i<ks.length->(zBx R.L (k:Int))[i]?=some ((kidAt k ks i:Nat):Int):=fun i hi=>hA.kids_get hi
 have hkl:=hA.kids_len
 generalize zBx R.L (k:Int)=kf at *
 have hk0:kf[((0:Nat):Int).toNat]?=some ((kidAt k ks 0:Nat):Int):=hkg 0 (by omega)
 have hk1:kf[((1:Nat):Int).toNat]?=some ((kidAt k ks 1:Nat):Int):=hkg 1 (by omega)
 refine Rn.to_of hbs func23 rfl ntmps23 results23 rfl ?_
 intro wb St0 X fx
 repeat' first|(refine zBH (id:=6) [.y (.ptr 0 0),.y (.ptr 0 0),.y (.ptr 0 (0+0)),.y (.d (zAm R.L)),.y (.d (i64 (k:Int))),.y (.rptr x.av.flat),.y (.d (.agg (x.av.flat.take 4))),.y (.ptr 0 0),.y (.ptr 0 0),.y (.ptr 0 (0+0)),.y (.d (zAm R.L)),.y (.d (i64 (k:Int))),.y (.d (zBr kf)),.mk ⟨7,zsE,47,ndE x⟩ (some 14),.st 13 ⟨7,zsE,47,ndE x⟩,.y (.d (zBr kf))] (by kernel_rfl) (by kernel_rfl) (.inl rfl) ⟨⟨rfl,zAG rfl⟩,rfl,⟨rfl,zAS rfl⟩,rfl,⟨rfl,zAH rfl zAn⟩,rfl,⟨rfl,zAJ rfl zAY rfl rfl⟩,rfl,⟨rfl,zAC rfl⟩,rfl,⟨rfl,zD9 hx rfl rfl zAa⟩,rfl,⟨rfl,zAg rfl zAZ rfl⟩,rfl,⟨rfl,zAG rfl⟩,rfl,⟨rfl,zAS rfl⟩,rfl,⟨rfl,zAH rfl zAn⟩,rfl,⟨rfl,zAJ rfl zAY rfl rfl⟩,rfl,⟨rfl,zAC rfl⟩,rfl,⟨rfl,zAU zCA hK (zAP rfl (zAP rfl zAF))⟩,rfl,⟨rfl,rfl,rfl,zAx,by kernel_rfl,rfl⟩,rfl,⟨⟨_,_,_,_,_,rfl,rfl,rfl,zAZ,rfl⟩,rfl,rfl,rfl,rfl,rfl⟩,⟨rfl,zAB rfl⟩,rfl,trivial⟩ ?_)|(refine zCD (d:=7) (hidL (zA2 bs s.cells)) 2 rfl rfl rfl rfl rfl (zAh _) rfl rfl ?_)|(refine zBC 6 2 1 rfl rfl rfl rfl rfl rfl rfl ?_)|apply en_n|apply zAE|apply zAA|apply zAD|apply w0|exact zBU rfl rfl|exact zBW rfl rfl|exact zBg rfl rfl|exact zAS rfl|(refine zBQ 3 [0,1] zCe (hE1) rfl rfl rfl rfl (SArgs_all rfl) rfl rfl (by decide) rfl rfl rfl rfl rfl rfl rfl (fun y0 hy0=>⟨rfl,rfl,rfl,zAb hy0.1 hbs hy0.2⟩) (fun y hy=>?_))|(refine zBQ 3 [0,1] zCe (hE2 y hy) rfl rfl rfl rfl (SArgs_all rfl) rfl rfl (by decide) rfl rfl rfl rfl rfl rfl rfl (fun y0 hy0=>⟨rfl,rfl,rfl,zAb hy0.1 hy.2 hy0.2⟩) (fun z hz=>?_))|(refine zBQ 3 [0,1] zRX (hE3 y z hy hz) rfl rfl rfl rfl (SArgs_all rfl) rfl rfl (by decide) rfl rfl rfl rfl rfl rfl rfl (fun y0 hy0=>⟨rfl,rfl,rfl,zAb hy0.1 hz.2 hy0.2⟩) (fun w hw=>?_))|(apply aJ (hd:=rfl);(first|exact zAq rfl|exact Co_bb rfl rfl rfl|exact Co_nn rfl);exact rfl;(with_reducible exact zBl);assumption;omega;exact fun _=>rfl)|apply ay (hd:=rfl)|exact zAC rfl|exact zAB rfl|exact zAR rfl zAd|refine zBE rfl rfl ?_|exact zAG rfl|(apply zAH;exact rfl;(with_reducible first|exact zBb|exact zBG|exact zAy|exact fn_0))|(apply zAJ;exact rfl;(with_reducible first|exact zAz|exact zAd|exact zAp);exact rfl;exact rfl)|(refine w0' ?_)|(apply zAl;exact rfl;exact rfl;exact rfl;(with_reducible exact zAd);exact rfl;exact rfl;exact rfl;exact rfl)|refine zAN rfl ?_|refine zAQ rfl ?_|apply zAI|apply zAO|refine zAu (by kernel_rfl) (by kernel_rfl) ?_|apply en_r|apply eb_r
 all_goals first|omega|exact Rn.retO (s':=s4) (y:=w) ⟨hy.1.trans (hz.1.trans (hw.1)),hw.2⟩ rfl rfl rfl|skip
theorem zTp(R:Rn)(s:S)(bs:List Nat)(hbs:bs.length=s.cells.length){k:Nat}{x:Nd}{ks:List Tr}(de:D)(hL:R.L.length<=1000000)(hA:At R.L k (.mk x ks))(h0:s.fin=0)(hf:(s.steps:Int)≠(R.fuel:Int))(hs:s.steps<=1000000)(hk:x.kind=7)(hl:2<=ks.length)(hok:okc de=true)(hfl:de.flat=[de]){s2:S}{t1:TypeId}{dd:List Nat->D}(hE1:R.To 23 [.ptr 0 0,.d (i64 ((kidAt k ks 0:Nat):Int)),.d de] { s with steps:=s.steps+1 } bs s2 (fun y=>.ifc t1 (dd y))){s3:S}{dv:List Nat->D}(hE2:∀y,Eok bs s2 y->R.To 23 [.ptr 0 0,.d (i64 ((kidAt k ks 1:Nat):Int)),.d (.ref [str x.text,.ifc t1 (dd y),de])] s2 y s3 dv): R.To 23 [.ptr 0 0,.d (i64 (k:Int)),.d de] s bs s3 (dv):=by
 have hx:=hA.here
 have hK:=zCE R.L (k:Int) (by omega)
 have hkg:∀i,i<ks.length->(zBx R.L (k:Int))[i]?=some ((kidAt k ks i:Nat):Int):=fun i hi=>hA.kids_get hi
 have hkl:=hA.kids_len
 generalize zBx R.L (k:Int)=kf at *
 have hk0:kf[((0:Nat):Int).toNat]?=some ((kidAt k ks 0:Nat):Int):=hkg 0 (by omega)
 have hk1:kf[((1:Nat):Int).toNat]?=some ((kidAt k ks 1:Nat):Int):=hkg 1 (by omega)
 refine Rn.to_of hbs func23 rfl ntmps23 results23 rfl ?_
 intro wb St0 X fx
 exact yG

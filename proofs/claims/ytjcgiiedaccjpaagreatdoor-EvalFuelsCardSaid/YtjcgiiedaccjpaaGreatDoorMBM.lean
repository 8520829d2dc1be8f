/- Parts. -/
import Derived.Test.YtjcgiiedaccjpaaGreatDoorMAW
set_option maxHeartbeats 16000000
namespace Go.Proofs.YtjcgiiedaccjpaaGreatDoor
open _root_.Go.Proofs.Tryz
open Go.Sx Go.Ev
attribute [local irreducible] zAK Program.underlying Ylds zA3 alex zBc zBL awp zAc zBd zBi zBD zBI zDI zBS zA5 zBT zBY zBe zBs zC7 zBN VCall
theorem zKT(R:Rn)(s:S)(bs:List Nat)(hbs:bs.length=s.cells.length){k:Nat}{x:Nd}{ks:List Tr}(de:D)(hL:R.L.length<=1000000)(hA:At R.L k (.mk x ks))(h0:s.fin=0)(hf:(s.steps:Int)≠(R.fuel:Int))(hs:s.steps<=1000000)(hk:x.kind=11)(hl:1<=ks.length){s2:S}{n:Int}(hE1:R.To 23 [.ptr 0 0,.d (i64 ((kidAt k ks 0:Nat):Int)),.d de] { s with steps:=s.steps+1 } bs s2 (fun _y=>.ifc 101 (.agg [i64 n])))(hfin:s2.fin=0): R.To 23 [.ptr 0 0,.d (i64 (k:Int)),.d de] s bs (s2.raise n).2 (fun _=>encV [] (.num 0)):=by
 have hS:=fun (y:List Nat) (hy:y.length=s2.cells.length)=>zI3 R s2 y hy n
 have hx:=hA.here
 have hK:=zCE R.L (k:Int) (by omega)
 have hkg:∀i,i<ks.length->(zBx R.L (k:Int))[i]?=some ((kidAt k ks i:Nat):Int):=fun i hi=>hA.kids_get hi
 have hkl:=hA.kids_len
 generalize zBx R.L (k:Int)=kf at *
 have hk0:kf[((0:Nat):Int).toNat]?=some ((kidAt k ks 0:Nat):Int):=hkg 0 (by omega)
 refine Rn.to_of hbs func23 rfl ntmps23 results23 rfl ?_
 intro wb St0 X fx
 repeat' first|(refine zBH (id:=6) [.y (.ptr 0 0),.y (.ptr 0 0),.y (.ptr 0 (0+0)),.y (.d (zAm R.L)),.y (.d (i64 (k:Int))),.y (.rptr x.av.flat),.y (.d (.agg (x.av.flat.take 4))),.y (.ptr 0 0),.y (.ptr 0 0),.y (.ptr 0 (0+0)),.y (.d (zAm R.L)),.y (.d (i64 (k:Int))),.y (.d (zBr kf)),.mk ⟨7,zsE,47,ndE x⟩ (some 14),.st 13 ⟨7,zsE,47,ndE x⟩,.y (.d (zBr kf))] (by kernel_rfl) (by kernel_rfl) (.inl rfl) ⟨⟨rfl,zAG rfl⟩,rfl,⟨rfl,zAS rfl⟩,rfl,⟨rfl,zAH rfl zAn⟩,rfl,⟨rfl,zAJ rfl zAY rfl rfl⟩,rfl,⟨rfl,zAC rfl⟩,rfl,⟨rfl,zD9 hx rfl rfl zAa⟩,rfl,⟨rfl,zAg rfl zAZ rfl⟩,rfl,⟨rfl,zAG rfl⟩,rfl,⟨rfl,zAS rfl⟩,rfl,⟨rfl,zAH rfl zAn⟩,rfl,⟨rfl,zAJ rfl zAY rfl rfl⟩,rfl,⟨rfl,zAC rfl⟩,rfl,⟨rfl,zAU zCA hK (zAP rfl (zAP rfl zAF))⟩,rfl,⟨rfl,rfl,rfl,zAx,by kernel_rfl,rfl⟩,rfl,⟨⟨_,_,_,_,_,rfl,rfl,rfl,zAZ,rfl⟩,rfl,rfl,rfl,rfl,rfl⟩,⟨rfl,zAB rfl⟩,rfl,trivial⟩ ?_)|(refine zCD (d:=7) (hidL (zA2 bs s.cells)) 2 rfl rfl rfl rfl rfl (zAh _) rfl rfl ?_)|(refine zBj (zs:=[.int .i64 0]) (hidL (zA2 y s2.cells)) 3 (zAh _) ?_ rfl rfl rfl rfl rfl rfl rfl ?_;with_reducible exact zBR)|(refine zBC 6 2 2 rfl rfl rfl rfl rfl rfl rfl ?_)|apply en_n|apply zAE|apply zAA|apply zAD|apply w0|exact zBU rfl rfl|exact zBW rfl rfl|exact zBg rfl rfl|exact zAS rfl|(apply zDh;exact rfl;with_reducible exact zBq)|(refine zBQ 3 [0,1] zCe (hE1) rfl rfl rfl rfl (SArgs_all rfl) rfl rfl (by decide) rfl rfl rfl rfl rfl rfl rfl (fun y0 hy0=>⟨rfl,rfl,rfl,zAb hy0.1 hbs hy0.2⟩) (fun y hy=>?_))|(refine zBQ 4 [0,1] zHB (hS y hy.2) rfl rfl rfl rfl (SArgs_all rfl) rfl rfl (by decide) rfl rfl rfl rfl rfl rfl rfl (fun y0 hy0=>⟨rfl,rfl,rfl,zAb hy0.1 hy.2 hy0.2⟩) (fun z hz=>?_))|(apply aJ (hd:=rfl);(first|exact zAq rfl|exact Co_bb rfl rfl rfl|exact Co_nn rfl);exact rfl;(with_reducible exact zBl);assumption;omega;exact fun _=>rfl)|apply ay (hd:=rfl)|exact zAC rfl|exact zAB rfl|exact zAR rfl zAd|refine zBE rfl rfl ?_|exact zBX rfl|exact zAe rfl rfl|exact zAG rfl|(apply zAH;exact rfl;(with_reducible first|exact zBb|exact zBG|exact zAy|exact zD5|exact fn_0))|(apply zAJ;exact rfl;(with_reducible first|exact zAz|exact zAd|exact zAp|exact zCn);exact rfl;exact rfl)|(refine w0' ?_)|(apply zAl;exact rfl;exact rfl;exact rfl;(with_reducible first|exact zCp|exact zAd);exact rfl;exact rfl;exact rfl;exact rfl)|refine zAN rfl ?_|refine zAQ rfl ?_|apply zAI|apply zAO|refine zAu (by kernel_rfl) (by kernel_rfl) ?_|apply en_r|apply eb_n|apply eb_r
 all_goals first|omega|exact Rn.retO (s':=(s2.raise n).2) (y:=z) ⟨hy.1.trans (hz.1),hz.2⟩ rfl rfl rfl|skip
theorem zNe(R:Rn)(s:S)(bs:List Nat)(hbs:bs.length=s.cells.length){k:Nat}{x:Nd}{ks:List Tr}(de:D)(hL:R.L.length<=1000000)(hA:At R.L k (.mk x ks))(h0:s.fin=0)(hf:(s.steps:Int)≠(R.fuel:Int))(hs:s.steps<=1000000)(hk:x.kind=12)(hl:2<=ks.length){s2:S}{t1:TypeId}{dd:List Nat->D}(hE1:R.To 23 [.ptr 0 0,.d (i64 ((kidAt k ks 0:Nat):Int)),.d de] { s with steps:=s.steps+1 } bs s2 (fun y=>.ifc t1 (dd y)))(hfin:s2.fin≠2): R.To 23 [.ptr 0 0,.d (i64 (k:Int)),.d de] s bs s2 (fun y=>.ifc t1 (dd y)):=by
 have hx:=hA.here
 have hK:=zCE R.L (k:Int) (by omega)
 have hkg:∀i,i<ks.length->(zBx R.L (k:Int))[i]?=some ((kidAt k ks i:Nat):Int):=fun i hi=>hA.kids_get hi
 have hkl:=hA.kids_len
 generalize zBx R.L (k:Int)=kf at *
 have hk0:kf[((0:Nat):Int).toNat]?=some ((kidAt k ks 0:Nat):Int):=hkg 0 (by omega)
 have hk1:kf[((1:Nat):Int).toNat]?=some ((kidAt k ks 1:Nat):Int):=hkg 1 (by omega)
 refine Rn.to_of hbs func23 rfl ntmps23 results23 rfl ?_
 intro wb St0 X fx
 exact yF
theorem zLZ(R:Rn)(s:S)(bs:List Nat)(hbs:bs.length=s.cells.length){k:Nat}{x:Nd}{ks:List Tr}(de:D)(hL:R.L.length<=1000000)(hA:At R.L k (.mk x ks))(h0:s.fin=0)(hf:(s.steps:Int)≠(R.fuel:Int))(hs:s.steps<=1000000)(hk:x.kind=12)(hl:2<=ks.length)(hok:okc de=true)(hfl:de.flat=[de]){s2:S}{t1:TypeId}{dd:List Nat->D}(hE1:R.To 23 [.ptr 0 0,.d (i64 ((kidAt k ks 0:Nat):Int)),.d de] { s with steps:=s.steps+1 } bs s2 (fun y=>.ifc t1 (dd y)))(hfin:s2.fin=2){s3:S}{dv:List Nat->D}(hE2:∀y,Eok bs s2 y->R.To 23 [.ptr 0 0,.d (i64 ((kidAt k ks 1:Nat):Int)),.d (.ref [str x.text,.ifc 101 (.agg [i64 s2.raised]),de])] { s2 with fin:=0 } y s3 dv): R.To 23 [.ptr 0 0,.d (i64 (k:Int)),.d de] s bs s3 (dv):=by
 have hx:=hA.here
 have hK:=zCE R.L (k:Int) (by omega)
 have hkg:∀i,i<ks.length->(zBx R.L (k:Int))[i]?=some ((kidAt k ks i:Nat):Int):=fun i hi=>hA.kids_get hi
 have hkl:=hA.kids_len
 generalize zBx R.L (k:Int)=kf at *
 have hk0:kf[((0:Nat):Int).toNat]?=some ((kidAt k ks 0:Nat):Int):=hkg 0 (by omega)
 have hk1:kf[((1:Nat):Int).toNat]?=some ((kidAt k ks 1:Nat):Int):=hkg 1 (by omega)
 refine Rn.to_of hbs func23 rfl ntmps23 results23 rfl ?_
 intro wb St0 X fx
 exact yG

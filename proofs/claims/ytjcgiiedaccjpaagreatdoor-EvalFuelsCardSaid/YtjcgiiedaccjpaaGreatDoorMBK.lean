/- Parts. -/
import Derived.Test.YtjcgiiedaccjpaaGreatDoorMAW
set_option maxHeartbeats 16000000
namespace Go.Proofs.YtjcgiiedaccjpaaGreatDoor
open _root_.Go.Proofs.Tryz
open Go.Sx Go.Ev
attribute [local irreducible] zAK Program.underlying Ylds zA3 alex zBc zBL awp zAc zBd zBi zBD zBI zDI zBS zA5 zBT zBY zBe zBs zC7 zBN VCall
theorem zIE(R:Rn)(s:S)(bs:List Nat)(hbs:bs.length=s.cells.length){k:Nat}{x:Nd}{ks:List Tr}(de:D)(hL:R.L.length<=1000000)(hA:At R.L k (.mk x ks))(h0:s.fin=0)(hf:(s.steps:Int)≠(R.fuel:Int))(hs:s.steps<=1000000)(hk:x.kind=9)(hl:3<=ks.length){s2:S}{n:Int}(hE1:R.To 23 [.ptr 0 0,.d (i64 ((kidAt k ks 0:Nat):Int)),.d de] { s with steps:=s.steps+1 } bs s2 (fun _y=>.ifc 101 (.agg [i64 n])))(hfin:s2.fin≠0): R.To 23 [.ptr 0 0,.d (i64 (k:Int)),.d de] s bs s2 (fun _=>encV [] (.num 0)):=by
 have hx:=hA.here
 have hK:=zCE R.L (k:Int) (by omega)
 have hkg:∀i,i<ks.length->(zBx R.L (k:Int))[i]?=some ((kidAt k ks i:Nat):Int):=fun i hi=>hA.kids_get hi
 have hkl:=hA.kids_len
 generalize zBx R.L (k:Int)=kf at *
 have hk0:kf[((0:Nat):Int).toNat]?=some ((kidAt k ks 0:Nat):Int):=hkg 0 (by omega)
 have hk1:kf[((1:Nat):Int).toNat]?=some ((kidAt k ks 1:Nat):Int):=hkg 1 (by omega)
 have hk2:kf[((2:Nat):Int).toNat]?=some ((kidAt k ks 2:Nat):Int):=hkg 2 (by omega)
 refine Rn.to_of hbs func23 rfl ntmps23 results23 rfl ?_
 intro wb St0 X fx
 exact yF
theorem zNg(R:Rn)(s:S)(bs:List Nat)(hbs:bs.length=s.cells.length){k:Nat}{x:Nd}{ks:List Tr}(de:D)(hL:R.L.length<=1000000)(hA:At R.L k (.mk x ks))(h0:s.fin=0)(hf:(s.steps:Int)≠(R.fuel:Int))(hs:s.steps<=1000000)(hk:x.kind=9)(hl:3<=ks.length){s2:S}{t1:TypeId}{dd:List Nat->D}(hE1:R.To 23 [.ptr 0 0,.d (i64 ((kidAt k ks 0:Nat):Int)),.d de] { s with steps:=s.steps+1 } bs s2 (fun y=>.ifc t1 (dd y)))(h1:Nat.beq t1 101=false)(hfin:s2.fin≠0): R.To 23 [.ptr 0 0,.d (i64 (k:Int)),.d de] s bs s2 (fun _=>encV [] (.num 0)):=by
 have hx:=hA.here
 have hK:=zCE R.L (k:Int) (by omega)
 have hkg:∀i,i<ks.length->(zBx R.L (k:Int))[i]?=some ((kidAt k ks i:Nat):Int):=fun i hi=>hA.kids_get hi
 have hkl:=hA.kids_len
 generalize zBx R.L (k:Int)=kf at *
 have hk0:kf[((0:Nat):Int).toNat]?=some ((kidAt k ks 0:Nat):Int):=hkg 0 (by omega)
 have hk1:kf[((1:Nat):Int).toNat]?=some ((kidAt k ks 1:Nat):Int):=hkg 1 (by omega)
 have hk2:kf[((2:Nat):Int).toNat]?=some ((kidAt k ks 2:Nat):Int):=hkg 2 (by omega)
 refine Rn.to_of hbs func23 rfl ntmps23 results23 rfl ?_
 intro wb St0 X fx
 exact yF
theorem zLa(R:Rn)(s:S)(bs:List Nat)(hbs:bs.length=s.cells.length){k:Nat}{x:Nd}{ks:List Tr}(de:D)(hL:R.L.length<=1000000)(hA:At R.L k (.mk x ks))(h0:s.fin=0)(hf:(s.steps:Int)≠(R.fuel:Int))(hs:s.steps<=1000000)(hk:x.kind=9)(hl:3<=ks.length){s2:S}{t1:TypeId}{dd:List Nat->D}(hE1:R.To 23 [.ptr 0 0,.d (i64 ((kidAt k ks 0:Nat):Int)),.d de] { s with steps:=s.steps+1 } bs s2 (fun y=>.ifc t1 (dd y)))(h1:Nat.beq t1 101=false)(hfin:s2.fin=0): R.To 23 [.ptr 0 0,.d (i64 (k:Int)),.d de] s bs (s2.stop 4).2 (fun _=>encV [] (.num 0)):=by
 have hS:=fun (y:List Nat) (hy:y.length=s2.cells.length)=>zEF R s2 y hy 4
 have hx:=hA.here
 have hK:=zCE R.L (k:Int) (by omega)
 have hkg:∀i,i<ks.length->(zBx R.L (k:Int))[i]?=some ((kidAt k ks i:Nat):Int):=fun i hi=>hA.kids_get hi
 have hkl:=hA.kids_len
 generalize zBx R.L (k:Int)=kf at *
 have hk0:kf[((0:Nat):Int).toNat]?=some ((kidAt k ks 0:Nat):Int):=hkg 0 (by omega)
 have hk1:kf[((1:Nat):Int).toNat]?=some ((kidAt k ks 1:Nat):Int):=hkg 1 (by omega)
 have hk2:kf[((2:Nat):Int).toNat]?=some ((kidAt k ks 2:Nat):Int):=hkg 2 (by omega)
 refine Rn.to_of hbs func23 rfl ntmps23 results23 rfl ?_
 intro wb St0 X fx
 exact yI
theorem zGc(R:Rn)(s:S)(bs:List Nat)(hbs:bs.length=s.cells.length){k:Nat}{x:Nd}{ks:List Tr}(de:D)(hL:R.L.length<=1000000)(hA:At R.L k (.mk x ks))(h0:s.fin=0)(hf:(s.steps:Int)≠(R.fuel:Int))(hs:s.steps<=1000000)(hk:x.kind=11)(hl:1<=ks.length){s2:S}{n:Int}(hE1:R.To 23 [.ptr 0 0,.d (i64 ((kidAt k ks 0:Nat):Int)),.d de] { s with steps:=s.steps+1 } bs s2 (fun _y=>.ifc 101 (.agg [i64 n])))(hfin:s2.fin≠0): R.To 23 [.ptr 0 0,.d (i64 (k:Int)),.d de] s bs s2 (fun _=>encV [] (.num 0)):=by
 have hx:=hA.here
 have hK:=zCE R.L (k:Int) (by omega)
 have hkg:∀i,i<ks.length->(zBx R.L (k:Int))[i]?=some ((kidAt k ks i:Nat):Int):=fun i hi=>hA.kids_get hi
 have hkl:=hA.kids_len
 generalize zBx R.L (k:Int)=kf at *
 have hk0:kf[((0:Nat):Int).toNat]?=some ((kidAt k ks 0:Nat):Int):=hkg 0 (by omega)
 refine Rn.to_of hbs func23 rfl ntmps23 results23 rfl ?_
 intro wb St0 X fx
 exact yF

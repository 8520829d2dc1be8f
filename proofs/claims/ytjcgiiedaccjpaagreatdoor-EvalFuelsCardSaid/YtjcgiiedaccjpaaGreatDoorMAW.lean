/- Parts. -/
import Derived.Test.YtjcgiiedaccjpaaGreatDoorMAV
set_option maxHeartbeats 16000000
namespace Go.Proofs.YtjcgiiedaccjpaaGreatDoor
open _root_.Go.Proofs.Tryz
open Go.Sx Go.Ev
abbrev zsE: List Value:=[.int .i64 0,.string ByteArray.empty,.int .i64 0,.int .i64 0]
def ndE(x:Nd): List SV:=[.d (i64 x.kind),.d (.val (.string ⟨x.text.toArray⟩)),.d (i64 x.num),.d (i64 x.kids)]
theorem zD9{P:Program}{η:List Ob}{σ:Sl}{dst:Option Nat}{ty:TypeId}{pos:String}{after:Array Edge}{gd:Option (Nat×Bool)}{t:TypeId}{p q:Operand}{a:List Nd}{i:Nat}{x:Nd}(hx:a[i]?=some x)(hp:oval σ p=.d (zAm a))(hq:oval σ q=.d (i64 (i:Int)))(hs:zBB P t=some 4):
  Ylds P η σ ⟨dst,.indexAddr t p q,ty,pos,after,gd⟩ (.rptr x.av.flat) :=
 zJh (xs:=a.map Nd.av) (zAq hp) hq hs (by omega) (by show (a.map Nd.av)[((i:Int)).toNat]?=_;rw[qAc,qAG,hx];rfl) (fun d hd=>by obtain⟨v,_,rfl⟩:=qAu.1 hd;rfl)
attribute [local irreducible] zAK Program.underlying Ylds zA3 alex zBc zBL awp zAc zBd zBi zBD zBI zDI zBS zA5 zBT zBY zBe zBs zC7 zBN VCall
theorem zPo(R:Rn)(s:S)(bs:List Nat)(hbs:bs.length=s.cells.length)(k:Nat)(de:D)(h0:s.fin≠0): R.To 23 [.ptr 0 0,.d (i64 (k:Int)),.d de] s bs s (fun _=>encV [] (.num 0)):=by
 refine Rn.to_of hbs func23 rfl ntmps23 results23 rfl ?_
 intro wb St0 X fx
 exact yT
theorem zRi(R:Rn)(s:S)(bs:List Nat)(hbs:bs.length=s.cells.length)(k:Nat)(de:D)(h0:s.fin=0)(hf:(s.steps:Int)=(R.fuel:Int)): R.To 23 [.ptr 0 0,.d (i64 (k:Int)),.d de] s bs (s.stop 3).2 (fun _=>encV [] (.num 0)):=by
 have hE:=zEF R s bs hbs 3
 refine Rn.to_of hbs func23 rfl ntmps23 results23 rfl ?_
 intro wb St0 X fx
 exact yK
theorem zTq(R:Rn)(s:S)(bs:List Nat)(hbs:bs.length=s.cells.length){k:Nat}{x:Nd}{ks:List Tr}(de:D)(hL:R.L.length<=1000000)(hA:At R.L k (.mk x ks))(h0:s.fin=0)(hf:(s.steps:Int)≠(R.fuel:Int))(hs:s.steps<=1000000)(hk:x.kind=1): R.To 23 [.ptr 0 0,.d (i64 (k:Int)),.d de] s bs { s with steps:=s.steps+1 } (fun y=>encV y (.num x.num)):=by
 have hx:=hA.here
 have hK:=zCE R.L (k:Int) (by omega)
 have hkg:∀i,i<ks.length->(zBx R.L (k:Int))[i]?=some ((kidAt k ks i:Nat):Int):=fun i hi=>hA.kids_get hi
 have hkl:=hA.kids_len
 generalize zBx R.L (k:Int)=kf at *
 refine Rn.to_of hbs func23 rfl ntmps23 results23 rfl ?_
 intro wb St0 X fx
 exact yE
theorem zRh(R:Rn)(s:S)(bs:List Nat)(hbs:bs.length=s.cells.length){k:Nat}{x:Nd}{ks:List Tr}(de:D)(hL:R.L.length<=1000000)(hA:At R.L k (.mk x ks))(h0:s.fin=0)(hf:(s.steps:Int)≠(R.fuel:Int))(hs:s.steps<=1000000)(hk:x.kind=2): R.To 23 [.ptr 0 0,.d (i64 (k:Int)),.d de] s bs { s with steps:=s.steps+1 } (fun y=>encV y (.text x.text)):=by
 have hx:=hA.here
 have hK:=zCE R.L (k:Int) (by omega)
 have hkg:∀i,i<ks.length->(zBx R.L (k:Int))[i]?=some ((kidAt k ks i:Nat):Int):=fun i hi=>hA.kids_get hi
 have hkl:=hA.kids_len
 generalize zBx R.L (k:Int)=kf at *
 refine Rn.to_of hbs func23 rfl ntmps23 results23 rfl ?_
 intro wb St0 X fx
 exact yE
theorem zTn(R:Rn)(s:S)(bs:List Nat)(hbs:bs.length=s.cells.length){k:Nat}{x:Nd}{ks:List Tr}(de:D)(hL:R.L.length<=1000000)(hA:At R.L k (.mk x ks))(h0:s.fin=0)(hf:(s.steps:Int)≠(R.fuel:Int))(hs:s.steps<=1000000)(hk:x.kind=3)(env:Env)(hde:de=encE bs env): R.To 23 [.ptr 0 0,.d (i64 (k:Int)),.d de] s bs { s with steps:=s.steps+1 } (fun y=>encV y (told R.pg x.text env)):=by
 have hx:=hA.here
 have hK:=zCE R.L (k:Int) (by omega)
 have hkg:∀i,i<ks.length->(zBx R.L (k:Int))[i]?=some ((kidAt k ks i:Nat):Int):=fun i hi=>hA.kids_get hi
 have hkl:=hA.kids_len
 generalize zBx R.L (k:Int)=kf at *
 have hT:=zUR R { s with steps:=s.steps+1 } bs x.text env
 rw[<-hde]at hT
 refine Rn.to_of hbs func23 rfl ntmps23 results23 rfl ?_
 intro wb St0 X fx
 exact yE
theorem zTs(R:Rn)(s:S)(bs:List Nat)(hbs:bs.length=s.cells.length){k:Nat}{x:Nd}{ks:List Tr}(de:D)(hL:R.L.length<=1000000)(hA:At R.L k (.mk x ks))(h0:s.fin=0)(hf:(s.steps:Int)≠(R.fuel:Int))(hs:s.steps<=1000000)(hk:x.kind=4)(hT:DtL R.T){i j:Nat}{d:Dt}{c:Ct}(hfd:zD3 R.T x.text=some (i,j))(hd:R.T[i]?=some d)(hc:d.cons[j]?=some c): R.To 23 [.ptr 0 0,.d (i64 (k:Int)),.d de] s bs { s with steps:=s.steps+1 } (fun y=>encV y (.con x.text c.args.length [])):=by
 have hx:=hA.here
 have hK:=zCE R.L (k:Int) (by omega)
 have hkg:∀i,i<ks.length->(zBx R.L (k:Int))[i]?=some ((kidAt k ks i:Nat):Int):=fun i hi=>hA.kids_get hi
 have hkl:=hA.kids_len
 generalize zBx R.L (k:Int)=kf at *
 have hF:=zLv x.text hT.len hT.cons
 rw[hfd]at hF
 replace hF:zAc prog 48 [dts R.T,str x.text] (.tup [i64 (i:Int),i64 (j:Int),bl true]):=hF
 have hd':R.T[(i:Int).toNat]?=some d:=hd
 have hc':d.cons[(j:Int).toNat]?=some c:=hc
 refine Rn.to_of hbs func23 rfl ntmps23 results23 rfl ?_
 intro wb St0 X fx
 exact yE
theorem zTr(R:Rn)(s:S)(bs:List Nat)(hbs:bs.length=s.cells.length){k:Nat}{x:Nd}{ks:List Tr}(de:D)(hL:R.L.length<=1000000)(hA:At R.L k (.mk x ks))(h0:s.fin=0)(hf:(s.steps:Int)≠(R.fuel:Int))(hs:s.steps<=1000000)(hk:x.kind=5)(hl:1<=ks.length)(env:Env)(hde:de=encE bs env): R.To 23 [.ptr 0 0,.d (i64 (k:Int)),.d de] s bs { s with steps:=s.steps+1 } (fun y=>encV y (.fn x.text (kidAt k ks 0) [] env)):=by
 have hx:=hA.here
 have hK:=zCE R.L (k:Int) (by omega)
 have hkg:∀i,i<ks.length->(zBx R.L (k:Int))[i]?=some ((kidAt k ks i:Nat):Int):=fun i hi=>hA.kids_get hi
 have hkl:=hA.kids_len
 generalize zBx R.L (k:Int)=kf at *
 have hk0:kf[((0:Nat):Int).toNat]?=some ((kidAt k ks 0:Nat):Int):=hkg 0 (by omega)
 have hok:=zGC bs env
 have hfl:=zE9 bs env
 show R.To _ _ _ _ _ (fun y=>.ifc 112 (.ref [str x.text,i64 ((kidAt k ks 0:Nat):Int),encE y env,str []]))
 have hfill:zGb [(0,1),(1,1),(2,1),(3,1)] ([Value.string ByteArray.empty,.int .i64 0,.pointer none,.string ByteArray.empty].map zdv) ([(0,str x.text),(1,i64 ((kidAt k ks 0:Nat):Int)),(2,encE bs env),(3,str [])].map fun p=>(p.1,p.2.flat))=some [str x.text,i64 ((kidAt k ks 0:Nat):Int),encE bs env,str []]:=by
  show zGb _ _ [(0,[str x.text]),(1,[i64 ((kidAt k ks 0:Nat):Int)]),(2,(encE bs env).flat),(3,[str []])]=_
  rw[hfl];rfl
 subst hde
 refine Rn.to_of hbs func23 rfl ntmps23 results23 rfl ?_
 intro wb St0 X fx
 exact yE

/- Parts. -/
import Derived.Test.YtjcgiiedaccjpaaGreatDoorMAS
set_option maxHeartbeats 16000000
namespace Go.Proofs.YtjcgiiedaccjpaaGreatDoor
open _root_.Go.Proofs.Tryz
open Go.Sx Go.Ev
def zG2(P:Pg)(mt:Nat->V->Env->Env×Bool)(at_:Nat): Nat->List V->Env->Env×Bool
 |_,[],e=>(e,true)
 |j,v::r,e=>if(mt (P.kid at_ j) v e).2=true then zG2 P mt at_ (j+1) r (mt (P.kid at_ j) v e).1 else((mt (P.kid at_ j) v e).1,false)
def matP(P:Pg): Nat->Nat->V->Env->Env×Bool
 |0,_,_,e=>(e,false)
 |f+1,k,v,e =>
  if(P.node k).kind=21 then(e,true)
  else if(P.node k).kind=22 then(.cons (P.node k).text v e,true)
  else if(P.node k).kind=23 then(e,match v with
   | .num x=>decide (x=(P.node k).num)
   |_=>false)
  else match v with
   | .con m need args=>if m=(P.node k).text/\args.length=need/\need=(P.node k).kids then zG2 P (matP P f) k 0 args e else(e,false)
   |_=>(e,false)
theorem zMS{P:Pg}{mt:Nat->V->Env->Env×Bool}{mo:Nat->V->Env->Option Env}(h:∀k v e,mo k v e=if(mt k v e).2=true then some (mt k v e).1 else none)(at_:Nat): ∀(l:List V) (j:Nat) (e:Env),matK P mo at_ j l e=if(zG2 P mt at_ j l e).2=true then some (zG2 P mt at_ j l e).1 else none
 |[],_,_=>rfl
 |v::r,j,e=>by
  rw[matK,zG2,h]
  by_cases hq:(mt (P.kid at_ j) v e).2=true
  ·rw[if_pos hq,if_pos hq];exact zMS h at_ r (j+1) _
  ·rw[if_neg hq,if_neg hq];rfl
theorem zHe(P:Pg): ∀f k v e,mat P f k v e=if(matP P f k v e).2=true then some (matP P f k v e).1 else none
 |0,_,_,_=>rfl
 |f+1,k,v,e=>by
  unfold mat matP
  dsimp only
  by_cases h1:(P.node k).kind=21
  ·rw[if_pos h1,if_pos h1];rfl
  rw[if_neg h1,if_neg h1]
  by_cases h2:(P.node k).kind=22
  ·rw[if_pos h2,if_pos h2];rfl
  rw[if_neg h2,if_neg h2]
  by_cases h3:(P.node k).kind=23
  ·rw[if_pos h3,if_pos h3]
   cases v <;> simp
  rw[if_neg h3,if_neg h3]
  cases v with
  |con m need args =>
   dsimp only
   by_cases h4:m=(P.node k).text/\args.length=need/\need=(P.node k).kids
   ·simp only[if_pos h4];exact zMS (zHe P f) k args 0 e
   ·simp only[if_neg h4];rfl
  |_=>rfl
theorem zE9(bs:List Nat)(e:Env): (encE bs e).flat=[encE bs e]:=by cases e <;> rfl
theorem zGC(bs:List Nat)(e:Env): okc (encE bs e)=true:=by cases e <;> rfl
theorem zIc(x:List UInt8)(t1:TypeId)(d:D){de:D}(h:de.flat=[de]): zGb [(0,1),(1,1),(2,1)] ([Value.string ByteArray.empty,.nilIface,.pointer none].map zdv) ([(0,str x),(1,D.ifc t1 d),(2,de)].map fun p=>(p.1,p.2.flat))=some [str x,.ifc t1 d,de]:=by
 show zGb _ _ [(0,[str x]),(1,[D.ifc t1 d]),(2,de.flat)]=_
 rw[h];rfl
attribute [local irreducible] zAK Program.underlying Ylds zA3 alex zBc zBL awp zAc zBd zBi zBD zBI zDI zBS zA5 zBT zBY zBe zBs zC7 zBN VCall
abbrev zIB(R:Rn)(s:S)(bs:List Nat)(k:Nat)(v:V)(e:Env)(r:Env×Bool): Prop :=
 zBI prog 51 [.ptr 0 0,.d (i64 (k:Int)),.d (encV bs v),.d (encE bs e)] (R.MB s) (.tup [encE bs r.1,bl r.2])
theorem zO3(R:Rn)(s:S)(bs:List Nat){k:Nat}{x:Nd}(v:V)(e:Env)(_hL:R.L.length<=1000000)(hx:R.L[k]?=some x)(hk:x.kind=21): zIB R s bs k v e (e,true):=by
 have hi:=(qAA.1 hx).1
 have hx':R.L[(k:Int).toNat]?=some x:=hx
 refine zCt func51 rfl ntmps51 results51 rfl ?_
 intro wb St0
 exact yA
theorem zO0(R:Rn)(s:S)(bs:List Nat){k:Nat}{x:Nd}(v:V)(e:Env)(_hL:R.L.length<=1000000)(hx:R.L[k]?=some x)(hk:x.kind=22): zIB R s bs k v e (.cons x.text v e,true):=by
 have hi:=(qAA.1 hx).1
 have hx':R.L[(k:Int).toNat]?=some x:=hx
 obtain⟨d1,e1⟩:=zCR bs v
 have hokE:=zGC bs e
 have hflE:=zE9 bs e
 show zBI _ _ _ _ (.tup [.ref [str x.text,encV bs v,encE bs e],bl true])
 rw[e1]
 refine zCt func51 rfl ntmps51 results51 rfl ?_
 intro wb St0
 exact yN
theorem zO1(R:Rn)(s:S)(bs:List Nat){k:Nat}{x:Nd}(n:Int)(e:Env)(_hL:R.L.length<=1000000)(hx:R.L[k]?=some x)(hk:x.kind=23): zIB R s bs k (.num n) e (e,decide (n=x.num)):=by
 have hi:=(qAA.1 hx).1
 have hx':R.L[(k:Int).toNat]?=some x:=hx
 refine zCt func51 rfl ntmps51 results51 rfl ?_
 intro wb St0
 exact yA
theorem zJ5(R:Rn)(s:S)(bs:List Nat){k:Nat}{x:Nd}(v:V)(hv:∀n,v≠.num n)(e:Env)(_hL:R.L.length<=1000000)(hx:R.L[k]?=some x)(hk:x.kind=23): zIB R s bs k v e (e,false):=by
 have hi:=(qAA.1 hx).1
 have hx':R.L[(k:Int).toNat]?=some x:=hx
 obtain⟨d1,e1⟩:=zCR bs v
 have h1:=zFq hv
 show zBI _ _ _ _ (.tup [encE bs e,bl false])
 rw[e1]
 generalize tyV v=t1 at *
 refine zCt func51 rfl ntmps51 results51 rfl ?_
 intro wb St0
 exact yA
theorem zVB(v:V): (∃m need args,v=.con m need args)\/Nat.beq (tyV v) 108=false:=by cases v <;> first|exact .inl ⟨_,_,_,rfl⟩|exact .inr rfl
theorem zJ6(R:Rn)(s:S)(bs:List Nat){k:Nat}{x:Nd}(v:V)(h1:Nat.beq (tyV v) 108=false)(e:Env)(_hL:R.L.length<=1000000)(hx:R.L[k]?=some x)(k1:x.kind≠21)(k2:x.kind≠22)(k3:x.kind≠23): zIB R s bs k v e (e,false):=by
 have hi:=(qAA.1 hx).1
 have hx':R.L[(k:Int).toNat]?=some x:=hx
 obtain⟨d1,e1⟩:=zCR bs v
 show zBI _ _ _ _ (.tup [encE bs e,bl false])
 rw[e1]
 generalize tyV v=t1 at *
 refine zCt func51 rfl ntmps51 results51 rfl ?_
 intro wb St0
 exact yA
theorem zJ7(R:Rn)(s:S)(bs:List Nat){k:Nat}{x:Nd}(m:List UInt8)(need:Nat)(args:List V)(e:Env)(_hL:R.L.length<=1000000)(hx:R.L[k]?=some x)(k1:x.kind≠21)(k2:x.kind≠22)(k3:x.kind≠23)(hn:¬(m=x.text/\(args.length:Int)=need/\(need:Int)=x.kids)): zIB R s bs k (.con m need args) e (e,false):=by
 have hi:=(qAA.1 hx).1
 have hx':R.L[(k:Int).toNat]?=some x:=hx
 show zBI _ _ _ _ (.tup [encE bs e,bl false])
 rw[show encV bs (.con m need args)=.ifc 108 (.ref [str m,.slice (zCJ bs args),i64 (need:Int)])from rfl]
 have hal:=zCg bs args
 generalize zCJ bs args=da at *
 rw[<-hal]at hn
 refine zCt func51 rfl ntmps51 results51 rfl ?_
 intro wb St0
 exact yA

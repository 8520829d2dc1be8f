/- Parts. -/
import Derived.Test.YtjcgiiedaccjpaaGreatDoorMBS
set_option maxHeartbeats 16000000
namespace Go.Proofs.YtjcgiiedaccjpaaGreatDoor
open _root_.Go.Proofs.Tryz
open Go.Sx Go.Ev
theorem zDD: zEM prog 85=some (9,65):=by kernel_rfl
theorem zD4: prog.underlying 9=some .string:=by kernel_rfl
theorem zJS: zHK prog 65=some (.slice []):=by kernel_rfl
def earr: List UInt8:=[45,62]
def ehdA: Nd:=⟨32,earr,0,2⟩
def zJZ(A:List (List Nd))(i:Nat): List Nd:=(A.take i).flatMap fun a=>ehdA::a
theorem zNl{A:List (List Nd)}{i:Nat}{a:List Nd}(h:A[i]?=some a): zJZ A (i+1)=zJZ A i++[ehdA]++a:=by
 unfold zJZ;rw[qA3,h];simp
def zKZ(A:List (List Nd))(b:List Nd): List Nd:=zJZ A A.length++b
def bI: List Nd:=[⟨32,[105,110,116],0,0⟩]
def bT: List Nd:=[⟨32,[116,101,120,116],0,0⟩]
def bV: List Nd:=[⟨31,[],0,0⟩]
def bR: List Nd:=[⟨32,refT,0,1⟩,⟨31,[],0,0⟩]
def bRow: Nat->List (List Nd)×List Nd
 |7=>([bT,bT],bT)
 |8=>([bT],bI)
 |9=>([bV],bR)
 |10=>([bR],bV)
 |11=>([bR,bV],bI)
 |12=>([bI],bI)
 |13=>([bT],bI)
 |_=>([bI,bI],bI)
def sigD(p:Nat): D:=.agg [str (zES p),zAm (zKZ (bRow p).1 (bRow p).2)]
def bMap: List (List UInt8×D):=[(catT,zCG [bT,bT,bT]),(lenT,zCG [bT,bI]),(refT,zCG [bV,bR]),(getT,zCG [bR,bV]),(setT,zCG [bR,bV,bI]),(putT,zCG [bI,bI]),(sayT,zCG [bT,bI])]
theorem zR5: ∀i,i<14->(zC6 bMap (zES i)=none/\bRow i=([bI,bI],bI))\/(∃a b c,zC6 bMap (zES i)=some (zCG [a,b,c])/\bRow i=([a,b],c)/\a.length<=2/\b.length<=2/\c.length<=2)\/(∃a c,zC6 bMap (zES i)=some (zCG [a,c])/\bRow i=([a],c)/\a.length<=2/\c.length<=2)
 |0,_=>.inl ⟨rfl,rfl⟩|1,_=>.inl ⟨rfl,rfl⟩|2,_=>.inl ⟨rfl,rfl⟩|3,_=>.inl ⟨rfl,rfl⟩|4,_=>.inl ⟨rfl,rfl⟩|5,_=>.inl ⟨rfl,rfl⟩|6,_=>.inl ⟨rfl,rfl⟩
 |7,_=>.inr (.inl ⟨_,_,_,rfl,rfl,by decide,by decide,by decide⟩)
 |8,_=>.inr (.inr ⟨_,_,rfl,rfl,by decide,by decide⟩)
 |9,_=>.inr (.inr ⟨_,_,rfl,rfl,by decide,by decide⟩)
 |10,_=>.inr (.inr ⟨_,_,rfl,rfl,by decide,by decide⟩)
 |11,_=>.inr (.inl ⟨_,_,_,rfl,rfl,by decide,by decide,by decide⟩)
 |12,_=>.inr (.inr ⟨_,_,rfl,rfl,by decide,by decide⟩)
 |13,_=>.inr (.inr ⟨_,_,rfl,rfl,by decide,by decide⟩)
 |i+14,h=>absurd h (by omega)
theorem zGn{P:Program}{η:List Ob}{σ:Sl}{dst:Option Nat}{ty:TypeId}{pos:String}{after:Array Edge}{gd:Option (Nat×Bool)}{t:TypeId}{x y:Operand}{id k e:Nat}{kb:Option Nat}{L:List (List UInt8×D)}{a:List UInt8}{zd:D}{r:Option D}(hl:zC6 L a=r)(hx:oval σ x=.mp id)(ho:η[id]?=some (.map kb (kvs (fun l=>.string ⟨l.toArray⟩) L)))(hy:oval σ y=.d (str a))(ht:zEM P t=some (k,e))(hk:P.underlying k=some .string)(hz:zHK P e=some zd):
  Ylds P η σ ⟨dst,.lookup t x y true,ty,pos,after,gd⟩ (.d (.tup [r.getD zd,.val (.bool r.isSome)])):=by
 subst hl;exact zQb hx ho hy ht hk hz
attribute [local irreducible] zAK Program.underlying Ylds zA3 alex zBc zBL awp zAc zBd zBi zBD zBI zDI zBS zA5 zBT zBY zBe zBs zC7 zBN VCall
theorem zKd(s:List UInt8): zAc prog 35 [str s] (zAm [⟨32,s,0,0⟩]):=by
 refine zAX func35 rfl ntmps35 results35 rfl ?_
 intro wb St0
 repeat' first|apply en_n|apply zAE|apply zAA|apply zAD|apply w0|exact zAf zC5 zAx (PD_d rfl rfl (PD_d rfl rfl zA6)) rfl|apply ay (hd:=rfl)|exact zAC rfl|exact zAB rfl|exact zA4 rfl|(apply zCi;(with_reducible exact zCf);(with_reducible exact zAa);(with_reducible exact zFU);exact rfl;exact rfl;(first|exact zAP rfl zAF|exact zEC rfl rfl rfl zAF|exact zFE rfl zAF);exact rfl)|apply zAM|apply zAL|refine res1 rfl ?_
 rfl
theorem zKe(A:List (List Nd))(b:List Nd)(hA:∀i,(zJZ A i).length<=1000000)(hA2:∀a∈A,a.length<=1000000)(hAl:A.length<=1000000)(hb:b.length<=1000000): zAc prog 37 [zCG A,zAm b] (zAm (zKZ A b)):=by
 refine zAX func37 rfl ntmps37 results37 rfl ?_
 intro wb St0
 repeat' first|apply en_n|apply zAE|apply zAA|apply zAD|apply w0|apply ay (hd:=rfl)|exact zAC rfl|exact zAo rfl zCB|exact zA4 rfl|apply zAI
 refine zDV 5 false 47 4 rfl rfl ?_
 refine zAv (α:=Nat) (fun i=>i<=A.length) (fun i=>[(1,.d (zAm b)),(5,.buf 0 ((zJZ A i).map Nd.av).length),(8,.d (zCG A)),(9,.d (i64 (A.length:Int))),(10,.d (i64 (i:Int)))]) (fun i=>[.buf false 47 4 ((zJZ A i).map Nd.av)]) (fun i=>A.length-i) 0 (qAR _)
  (zAV (Le_cons rfl (zCu rfl rfl (Le_cons rfl (Le_d rfl rfl (Le_all rfl))))) (zBM rfl rfl rfl zAW) rfl rfl) ?_
 intro i hi
 have hbd:=hA i
 repeat' first|apply en_n|apply zAE|apply zAA|apply zAD|apply w0|(apply aApp (id:=0) (hd:=rfl) (hro:=rfl);exact rfl;exact rfl;(first|exact zAq rfl|exact Co_bb rfl rfl rfl|exact Co_nn rfl);(first|exact rfl|exact(by simp));exact rfl;(with_reducible exact zCf);(with_reducible exact zAa);(with_reducible exact zIw);(with_reducible exact zGF);(first|exact zC8 (fun _=>rfl)|exact zDK rfl))|(apply zAf (cs:=Nd.cells ehdA);exact zC5;exact zAx;exact PD_d rfl rfl (PD_d rfl rfl (PD_d rfl rfl zA6));exact rfl)|(apply aI (hd:=rfl);(first|exact zAq rfl|exact Co_bb rfl rfl rfl|exact Co_nn rfl);exact rfl;(with_reducible exact zBa);exact fun _=>rfl;rotate_left;intro v hv;rotate_right)|apply ay (hd:=rfl)|exact zAC rfl|exact zAB rfl|exact zAR rfl zAY|exact zCs rfl rfl|refine zBE rfl rfl ?_|exact zBA rfl|exact zAs rfl|(apply zCi;(with_reducible exact zCf);(with_reducible exact zAa);(with_reducible exact zFU);exact rfl;exact rfl;(first|exact zAP rfl zAF|exact zEC rfl rfl rfl zAF|exact zFE rfl zAF);exact rfl)|(apply zAw;exact rfl;all_goals intro hb)|apply zAI|apply zAO|apply zAM|apply zA0|apply en_e|apply eb_n|apply eb_e|apply zAL
 all_goals first|omega|skip
 ·simp only[qAK,qAJ,qAa];omega
 ·have:=hA2 v (qAE hv)
  simp only[qAK,qAJ,qAa];omega
 ·have e:=zNl (show A[i]?=some v from hv)
  exact⟨i+1,by omega,by omega,zAV (Le_cons rfl (zCu rfl (by rw[e];simp;omega) (Le_all rfl))) (zBM rfl rfl (by rw[e,qAh,qAh];rfl) zAW) rfl rfl⟩
 ·simp only[qAK];omega
 ·have:A.length=i:=by omega
  exact⟨_,_,_,rfl,by simp,by rw[qAn (by simp)];simp[zAm,zKZ,this]⟩
theorem zP2(a b c:List Nd)(h:a.length<=2/\b.length<=2/\c.length<=2): zAc prog 37 [zCG [a,b],zAm c] (zAm (zKZ [a,b] c)) :=
 zKe [a,b] c (fun i=>by unfold zJZ;match i with|0=>simp|1=>simp;omega|i+2=>simp;omega) (by simp;omega) (by simp) (by omega)
theorem zT2(a c:List Nd)(h:a.length<=2/\c.length<=2): zAc prog 37 [zCG [a],zAm c] (zAm (zKZ [a] c)) :=
 zKe [a] c (fun i=>by unfold zJZ;match i with|0=>simp|i+1=>simp;omega) (by simp;omega) (by simp) (by omega)

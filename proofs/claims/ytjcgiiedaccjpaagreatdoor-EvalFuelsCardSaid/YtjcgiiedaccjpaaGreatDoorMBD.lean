/- Parts. -/
import Derived.Test.YtjcgiiedaccjpaaGreatDoorMBC
set_option maxHeartbeats 16000000
namespace Go.Proofs.YtjcgiiedaccjpaaGreatDoor
open _root_.Go.Proofs.Tryz
open Go.Sx
abbrev encS: List UInt8->Value:=fun l=>.string ⟨l.toArray⟩
abbrev bagO(k:Option Nat)(S:Bag): Ob:=.mapq false k (kvs encS (mvB S))
abbrev fO(L:List Nd)(S:Bag)(F:List (List UInt8)): List Ob:=[.bx none (some 188) [.d (zAm L),.mp 1,.buf 2 (F.map str).length],bagO none S,.buf false 9 1 (F.map str)]
section
variable {P:Program}{η:List Ob}{σ:Sl}{dst:Option Nat}{ty:TypeId}{pos:String}{after:Array Edge}{gd:Option (Nat×Bool)}{t:TypeId}{x y:Operand}
theorem zGo{id k e:Nat}{kb:Option Nat}{S:Bag}{a:List UInt8}(hx:oval σ x=.mp id)(ho:η[id]?=some (bagO kb S))(hy:oval σ y=.d (str a))(ht:zEM P t=some (k,e))(hk:P.underlying k=some .string)(hz:zHK P e=some (.val (.int .i64 0))):
  Ylds P η σ ⟨dst,.lookup t x y false,ty,pos,after,gd⟩ (.d (i64 (lkB S a:Int))):=by
 have:=zSN (dst:=dst) (ty:=ty) (pos:=pos) (after:=after) (gd:=gd) hx ho hy ht hk hz
 rw[zO7]at this;exact this
end
section
variable {C:Ctx}{ops:Array Oper}{rest:List Oper}{K:Sl->List Ob->Prop}{σ:Sl}{η:List Ob}{ty:TypeId}{pos:String}{after:Array Edge}{gd:Option (Nat×Bool)}{t:TypeId}{x y z:Operand}
theorem aUpB{id k e:Nat}{kb:Option Nat}{S:Bag}{a:List UInt8}(hx:oval σ x=.mp id)(ho:η[id]?=some (bagO kb S))(hy:oval σ y=.d (str a))(hz:oval σ z=.d (.val (.int .i64 ((lkB S a:Int)+1))))(ht:zEM C.P t=some (k,e))(hk:C.P.underlying k=some .string)(hro:Nat.ble C.ro id=true)
  (h:alex C false ops rest K σ (η.set id (bagO kb (upB S a)))):zA3 C false ops ⟨none,.mapUpdate t x y z,ty,pos,after,gd⟩ rest K σ η :=
 zKz (dv:=i64 ((lkB S a+1:Nat):Int)) hx ho hy (zAq (by rw[hz,Int.natCast_add];rfl)) ht hk hro (by rw[zOm];exact h)
theorem aDnB{id k e:Nat}{kb:Option Nat}{S:Bag}{a:List UInt8}(hx:oval σ x=.mp id)(ho:η[id]?=some (bagO kb S))(hy:oval σ y=.d (str a))(hz:oval σ z=.d (.val (.int .i64 ((lkB S a:Int)-1))))(h1:1<=lkB S a)(ht:zEM C.P t=some (k,e))(hk:C.P.underlying k=some .string)(hro:Nat.ble C.ro id=true)
  (h:alex C false ops rest K σ (η.set id (bagO kb (putB S a (lkB S a-1))))):zA3 C false ops ⟨none,.mapUpdate t x y z,ty,pos,after,gd⟩ rest K σ η :=
 zKz (dv:=i64 ((lkB S a-1:Nat):Int)) hx ho hy (zAq (by rw[hz,Int.natCast_sub h1];rfl)) ht hk hro (by rw[zOm];exact h)
theorem zV7{id k e:Nat}{kb:Option Nat}{S:Bag}{a:List UInt8}{ts:Array TypeId}(hx:oval σ x=.mp id)(ho:η[id]?=some (bagO kb S))(hy:oval σ y=.d (str a))(hts:ts[0]?=some t)(ht:zEM C.P t=some (k,e))(hk:C.P.underlying k=some .string)(hro:Nat.ble C.ro id=true)
  (h:alex C false ops rest K σ (η.set id (bagO kb (delB S a)))):zA3 C false ops ⟨none,.call ⟨.builtin .delete, #[x,y],ts⟩,ty,pos,after,gd⟩ rest K σ η :=
 zQU hx ho hy hts ht hk hro (by rw[zSh];exact h)
end
attribute [local irreducible] zAK Program.underlying Ylds zA3 alex zBc zBL awp zAc zBd zBi zBD zBI zBS zA5 zBT zBY zBe zBs zBN VCall
theorem zHL(L:List Nd)(q r:Int)(S:Bag)(F F' ns:List (List UInt8))(hS:GoodB S)(hn:ns.length<=1000000)(hb:∀a,lkB S a<=1000000)
  (hc:zBD prog 143 [.ptr 0 0,.d (i64 q)] (fO L (upsB S ns) F) (.d (i64 r)) (fO L (upsB S ns) F')) :
  zBD prog 174 [.ptr 0 0,.d (i64 q),.d (strs ns)] (fO L S F) (.d (i64 r)) (fO L S F'):=by
 refine zB3 func174 rfl ntmps174 results174 rfl rfl rfl ?_
 intro wb St0 X fx
 have hback:=zVD hS ns
 repeat' first|apply en_n|apply zAE|apply zAA|apply zAD|apply w0|apply ay (hd:=rfl)|exact zAC rfl|exact zAB rfl|(apply zAo;exact rfl;(with_reducible first|exact zCa|exact zCa))|apply zAI
 refine zAv (α:=Nat) (fun i=>i<=ns.length) (fun i=>[(0,.ptr 0 0),(1,.d (i64 q)),(2,.d (strs ns)),(12,.d (strs ns)),(13,.d (i64 (ns.length:Int))),(14,.d (i64 (i:Int)))])
  (fun i=>[.bx (fx 0) (some 188) [.d (zAm L),.mp 1,.buf 2 (F.map str).length],bagO (fx 1) (upsB S (ns.take i)),.buf false 9 1 (F.map str)]) (fun i=>ns.length-i) 0 (qAR _)
  (zAV (Le_cons rfl (Le_cons rfl (Le_cons rfl (Le_cons rfl (Le_d rfl rfl (Le_all rfl)))))) (zAT rfl rfl (zAT rfl rfl (zBM rfl rfl rfl zAW))) rfl rfl) ?_
 intro i hi
 rcases qAI i ns.length with hlt|hge
 ·obtain⟨v,hv⟩:∃v,ns[i]?=some v:=⟨_,qAB hlt⟩
  have hli:(i:Int)<(ns.length:Int):=by omega
  have hlk:lkB (upsB S (ns.take i)) v<=2000000:=by
   rw[zFY]
   have h1:(ns.take i).count v<=i:=qAi qBO (by rw[qAT];omega)
   have:=hb v;omega
  have hnx:=zOM (S:=S) hv
  repeat' first|apply en_n|apply zAE|apply zAA|apply zAD|apply w0|exact zBh rfl rfl|exact zAS rfl|exact zGo rfl rfl rfl zHd ustr zGP|refine aUpB rfl rfl rfl rfl zHd ustr rfl ?_|(apply aJ (hd:=rfl);(first|exact zAq rfl|exact Co_bb rfl rfl rfl|exact Co_nn rfl);exact rfl;(with_reducible first|exact zBZ|exact zBZ);assumption;omega;exact fun _=>rfl)|apply ay (hd:=rfl)|exact zAC rfl|exact zAB rfl|exact zAR rfl zAr|refine zBE rfl rfl ?_|exact zAG rfl|exact zAH rfl fd_1|exact zAJ rfl zIN rfl rfl|(refine w0' ?_)|refine zAN rfl ?_|apply zAI|apply zAO|apply eb_n
  all_goals try omega
  exact⟨i+1,by omega,by omega,zAV (Le_all rfl) (zAT rfl rfl (zAT rfl (by rw[hnx]) (zBM rfl rfl rfl zAW))) rfl rfl⟩
 ·have hli:¬(i:Int)<(ns.length:Int):=by omega
  have e:ns.take i=ns:=qAn hge
  rw[e]
  clear e
  repeat' first|apply en_n|apply zAE|apply zAA|apply zAD|apply w0|exact zCT rfl rfl|(refine zDf [0,1,2] zHp (hc) (SArgs_all rfl) rfl rfl (by decide) rfl rfl rfl rfl rfl rfl ?_)|apply ay (hd:=rfl)|exact zAC rfl|exact zAB rfl|(apply zAo;exact rfl;(with_reducible first|exact zCa|exact zCa))|exact zAG rfl|refine zAQ rfl ?_|apply zAI|apply zA0|apply en_e|apply eb_e
  refine zAv (α:=Nat) (fun i=>i<=ns.length) (fun i=>[(0,.ptr 0 0),(9,.d (i64 r)),(29,.d (strs ns)),(30,.d (i64 (ns.length:Int))),(31,.d (i64 (i:Int)))])
   (fun i=>[.bx (fx 0) (some 188) [.d (zAm L),.mp 1,.buf 2 (F'.map str).length],bagO (fx 1) (dnsB (upsB S ns) (ns.take i)),.buf false 9 1 (F'.map str)]) (fun i=>ns.length-i) 0 (qAR _)
   (zAV (Le_cons rfl (Le_cons rfl (Le_cons rfl (Le_cons rfl (Le_d rfl rfl Le_nil))))) (zAT rfl rfl (zAT rfl rfl (zBM rfl rfl rfl zAW))) rfl rfl) ?_
  intro i hi
  rcases qAI i ns.length with hlt|hge
  ·obtain⟨v,hv⟩:∃v,ns[i]?=some v:=⟨_,qAB hlt⟩
   have hli:(i:Int)<(ns.length:Int):=by omega
   obtain⟨hl1,hl2⟩:=zRG hS hv
   have hnx:=zP4 (S:=upsB S ns) hv
   have hbv:=hb v
   generalize dnsB (upsB S ns) (ns.take i)=B at *
   have hp:lkB (putB B v (lkB B v-1)) v=lkB B v-1:=by rw[zLN,if_pos rfl]
   have fin:∀σ' η',Fits [(0,.ptr 0 0),(9,.d (i64 r)),(29,.d (strs ns)),(30,.d (i64 (ns.length:Int))),(31,.d (i64 ((i+1:Nat):Int)))] [.bx (fx 0) (some 188) [.d (zAm L),.mp 1,.buf 2 (F'.map str).length],bagO (fx 1) (dnsB (upsB S ns) (ns.take (i+1))),.buf false 9 1 (F'.map str)] σ' η'->
     ∃y,y<=ns.length/\ns.length-y<ns.length-i/\Fits [(0,.ptr 0 0),(9,.d (i64 r)),(29,.d (strs ns)),(30,.d (i64 (ns.length:Int))),(31,.d (i64 (y:Int)))] [.bx (fx 0) (some 188) [.d (zAm L),.mp 1,.buf 2 (F'.map str).length],bagO (fx 1) (dnsB (upsB S ns) (ns.take y)),.buf false 9 1 (F'.map str)] σ' η' :=
    fun σ' η' hf=>⟨i+1,by omega,by omega,hf⟩
   by_cases h0:lkB B v-1=0
   ·have h0':((lkB (putB B v (lkB B v-1)) v:Nat):Int)=0:=by rw[hp,h0];rfl
    rw[dnB,if_pos h0]at hnx
    exact yP
   ·have h0':¬((lkB (putB B v (lkB B v-1)) v:Nat):Int)=0:=by rw[hp];omega
    rw[dnB,if_neg h0]at hnx
    exact yP
  ·have hli:¬(i:Int)<(ns.length:Int):=by omega
   have e:ns.take i=ns:=qAn hge
   rw[e,hback]
   exact yV

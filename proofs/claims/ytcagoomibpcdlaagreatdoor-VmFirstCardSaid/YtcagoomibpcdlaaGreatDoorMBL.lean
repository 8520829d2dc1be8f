/- Parts of the proof. -/
import Derived.Test.YtcagoomibpcdlaaGreatDoorMBK
set_option maxHeartbeats 16000000
namespace Go.Proofs.YtcagoomibpcdlaaGreatDoor
open _root_.Go.Proofs.Tryz
open Go.Sx Go.Vm
theorem zU4: zM1 prog 146=some (3,3):=by kernel_rfl
theorem zXy: zOx prog 3=some (i64 0):=by kernel_rfl
attribute [local irreducible] zAN Program.underlying Ylds zA9 alex zB3 zBf awp zAi zCC zCB zAU zBl zAz zDt zBq zBj zBB zBr zB2 zB8 zD7 zBi zBd zBg
abbrev conQ(m:Img)(c:CK)(k:Int)(b:Bool): Prop:=zAz prog 121 [.ptr 0 0,.d (i64 k)] (CX m c) (bl b)
abbrev numQ(m:Img)(c:CK)(k:Int)(b:Bool): Prop:=zAz prog 125 [.ptr 0 0,.d (i64 k)] (CX m c) (bl b)
theorem zXH(m:Img)(c:CK)(k:Int)(h:¬k<(m.pool.length:Int)): conQ m c k false:=by
 refine zCX func121 rfl ntmps121 results121 rfl ?_
 intro wb St0
 repeat' first|apply en_n|apply zAH|apply zAA|apply zAD|apply w0|exact zAK rfl|exact zAE rfl zAv rfl rfl|(apply k1u (hd:=rfl);exact rfl;exact rfl)|exact zCm rfl rfl|apply ay (hd:=rfl)|exact zAF rfl|exact zAB rfl|exact zBI rfl zDz|exact zAX rfl rfl|exact zAG rfl|(apply zAC;exact rfl;(with_reducible first|exact zCM|exact zDJ))|apply zAQ|apply zAR|refine res1 rfl ?_
 all_goals rfl
theorem zY1(m:Img)(c:CK)(k:Int){t:Bool}{x:Int}{s:List UInt8}(h0:0<=k)(hk:m.pool[k.toNat]?=some ⟨t,x,s⟩): conQ m c k (t&&conF s):=by
 have hlt:=(qAA.1 hk).1
 have h:k<(m.pool.length:Int):=by omega
 have hat:(m.pool.map enCn)[k.toNat]?=some (enCn ⟨t,x,s⟩):=by rw[qAL,hk];rfl
 have hC:=zVr s
 refine zCX func121 rfl ntmps121 results121 rfl ?_
 intro wb St0
 cases t
 all_goals
  repeat' first|apply en_n|apply zAH|apply zAA|apply zAD|apply w0|exact zAK rfl|exact zAE rfl zAv rfl rfl|(apply k1u (hd:=rfl);exact rfl;exact rfl)|exact zC9 rfl rfl|(refine zAb zW8 hC (zAY rfl zAM))|(apply aJ (hd:=rfl);(first|exact zCW rfl|exact zC3 rfl rfl rfl|exact Co_nn rfl);exact rfl;(with_reducible exact zCd);assumption;omega;exact fun _=>rfl)|apply ay (hd:=rfl)|exact zAF rfl|exact zAB rfl|(apply zDc;exact rfl;(with_reducible first|exact zCZ|exact zCp))|(apply zCb;exact rfl;(with_reducible first|exact zDk|exact zAc))|exact zBI rfl zDz|exact zAa rfl rfl|exact zAX rfl rfl|exact zAG rfl|(apply zAC;exact rfl;(with_reducible first|exact zCM|exact zDJ))|refine w1 rfl rfl ?_|apply zAQ|apply zAR|refine res1 rfl ?_
  all_goals rfl
theorem zWh(m:Img)(c:CK)(k:Int)(h:¬k<(m.pool.length:Int)): numQ m c k false:=by
 refine zCX func125 rfl ntmps125 results125 rfl ?_
 intro wb St0
 repeat' first|apply en_n|apply zAH|apply zAA|apply zAD|apply w0|exact zAK rfl|exact zAE rfl zAv rfl rfl|(apply k1u (hd:=rfl);exact rfl;exact rfl)|exact zCm rfl rfl|apply ay (hd:=rfl)|exact zAF rfl|exact zAB rfl|exact zBI rfl zDz|exact zAX rfl rfl|exact zAG rfl|(apply zAC;exact rfl;(with_reducible first|exact zCM|exact zDJ))|apply zAQ|apply zAR|refine res1 rfl ?_
 all_goals rfl
theorem zYj(m:Img)(c:CK)(k:Int){t:Bool}{x:Int}{s:List UInt8}(h0:0<=k)(hk:m.pool[k.toNat]?=some ⟨t,x,s⟩): numQ m c k (!t):=by
 have hlt:=(qAA.1 hk).1
 have h:k<(m.pool.length:Int):=by omega
 have hat:(m.pool.map enCn)[k.toNat]?=some (enCn ⟨t,x,s⟩):=by rw[qAL,hk];rfl
 refine zCX func125 rfl ntmps125 results125 rfl ?_
 intro wb St0
 cases t
 all_goals
  repeat' first|apply en_n|apply zAH|apply zAA|apply zAD|apply w0|exact zAK rfl|exact zAE rfl zAv rfl rfl|exact zC9 rfl rfl|(apply aJ (hd:=rfl);(first|exact zCW rfl|exact zC3 rfl rfl rfl|exact Co_nn rfl);exact rfl;(with_reducible exact zCd);assumption;omega;exact fun _=>rfl)|apply ay (hd:=rfl)|exact zAF rfl|exact zAB rfl|exact zDc rfl zCZ|exact zCb rfl zAc|exact zBI rfl zDz|exact zBX rfl|exact zAa rfl rfl|exact zAG rfl|(apply zAC;exact rfl;(with_reducible first|exact zCM|exact zDJ))|refine w1 rfl rfl ?_|apply zAQ|apply zAR|refine res1 rfl ?_
  all_goals rfl
theorem zVD(m:Img)(c:CK)(k:Int)(h0:0<=k): conQ m c k (zIW conF m k):=by
 unfold zIW
 cases h:m.pool[k.toNat]? with
 |none=>exact zXH m c k (by have:=qBa.1 h;omega)
 |some q=>obtain⟨t,x,s⟩:=q;exact zY1 m c k h0 h
theorem zYi(m:Img)(c:CK)(k:Int)(h0:0<=k): numQ m c k (zKu m k):=by
 unfold zKu
 cases h:m.pool[k.toNat]? with
 |none=>exact zWh m c k (by have:=qBa.1 h;omega)
 |some q=>obtain⟨t,x,s⟩:=q;exact zYj m c k h0 h
section
variable {η:List Ob}{σ:Sl}{dst:Option Nat}{ty:TypeId}{pos:String}{after:Array Edge}{gd:Option (Nat×Bool)}{x y z:Operand}
theorem zHQ{id:Nat}{kb:Option Nat}{L:List (Int×Int)}{a:Int}(hx:oval σ x=.mp id)(ho:η[id]?=some (.map kb (kvs cki (hasD L))))(hy:oval σ y=.d (i64 a)): Ylds prog η σ ⟨dst,.lookup 146 x y false,ty,pos,after,gd⟩ (.d (i64 (getI L a))):=by
 rw[<-zLq]
 exact zXb hx ho hy zU4 uint zXy
theorem zZF{C:Ctx}{ops:Array Oper}{rest:List Oper}{K:Sl->List Ob->Prop}{id:Nat}{kb:Option Nat}{L:List (Int×Int)}{a v:Int}(hP:C.P=prog)(hx:oval σ x=.mp id)(ho:η[id]?=some (.map kb (kvs cki (hasD L))))(hy:oval σ y=.d (i64 a))(hz:oval σ z=.d (i64 v))(hro:Nat.ble C.ro id=true)
  (h:alex C false ops rest K σ (η.set id (.map kb (kvs cki (hasD (putI L a v)))))):zA9 C false ops ⟨none,.mapUpdate 146 x y z,ty,pos,after,gd⟩ rest K σ η:=by
 obtain⟨P,N,w0,St0,X,ro⟩:=C
 dsimp only at hP
 subst hP
 rw[<-zNv]at h
 exact zXX (k:=3) (e:=3) (enc:=cki) (dv:=i64 v) hx ho hy (by rw[hz];rfl) zU4 (zU8 uint) hro h
end
abbrev zNW(m:Img)(c c':CK)(k n:Int): Prop:=zAU prog 124 [.ptr 0 0,.d (i64 k),.d (i64 n)] (CX m c) .top (CX m c')
theorem zUR(m:Img)(c:CK)(k n:Int)(hn:0<=n/\n<=1048576)(hC:zHz m { c with has:=putI c.has k (n+1) } (({ c with has:=putI c.has k (n+1) }:CK).come k ⟨k,1,[]⟩) k ⟨k,1,[]⟩): zNW m c (c.begin k n) k n:=by
 refine zDA func124 rfl ntmps124 results124 rfl ?_
 intro wb St0 X fx
 unfold CK.begin
 by_cases h1:getI c.has k>0
 ·by_cases h2:getI c.has k=n+1
  ·have h3:¬getI c.has k≠n+1:=fun e=>e h2
   rw[if_neg (fun e=>h3 e.2)]
   repeat' first|apply en_n|apply zAH|apply zAA|apply zAD|apply w0|(refine zHQ rfl rfl rfl)|exact zAK rfl|(refine zZF rfl rfl rfl rfl rfl rfl ?_)|(refine zBY (cs:=[i64 k,i64 1,zCK [],bl false]) zGh zEn (PD_d rfl rfl (PD_d rfl rfl zCf)) rfl)|(refine aCK (r:={ c with has:=putI c.has k (n+1) }) (tl:=[]) (tl':=[]) zFr hC (SArgs_all rfl) rfl rfl rfl rfl ?_)|exact zEk rfl rfl|exact zFI rfl rfl|apply ay (hd:=rfl)|exact zAF rfl|refine zBE rfl rfl ?_|exact zAa rfl rfl|exact zAG rfl|exact zAC rfl zEI|exact zAE rfl zA0 rfl rfl|refine w1 rfl rfl ?_|(refine w0' ?_)|refine zAJ rfl ?_|apply zAS
   all_goals first|omega|skip
   all_goals exact zBL rfl
  ·rw[if_pos ⟨h1,h2⟩]
   repeat' first|apply en_n|apply zAH|apply zAA|apply zAD|apply w0|(refine zHQ rfl rfl rfl)|exact zAK rfl|exact zEk rfl rfl|exact zGI rfl rfl|apply ay (hd:=rfl)|exact zAF rfl|refine zBE rfl rfl ?_|exact zAa rfl rfl|exact zAG rfl|(apply zAC;exact rfl;(with_reducible first|exact zEI|exact zC4))|exact zAE rfl zA0 rfl rfl|refine w1 rfl rfl ?_|(refine w0' ?_)|refine zAh rfl rfl rfl zAc rfl rfl rfl rfl ?_|refine zAI rfl ?_|apply zAQ|apply en_r
   all_goals first|omega|skip
   all_goals exact zWn rfl
 ·rw[if_neg (fun e=>h1 e.1)]
  repeat' first|apply en_n|apply zAH|apply zAA|apply zAD|apply w0|(refine zHQ rfl rfl rfl)|exact zAK rfl|(refine zZF rfl rfl rfl rfl rfl rfl ?_)|(refine zBY (cs:=[i64 k,i64 1,zCK [],bl false]) zGh zEn (PD_d rfl rfl (PD_d rfl rfl zCf)) rfl)|(refine aCK (r:={ c with has:=putI c.has k (n+1) }) (tl:=[]) (tl':=[]) zFr hC (SArgs_all rfl) rfl rfl rfl rfl ?_)|(apply k1u (hd:=rfl);exact rfl;exact rfl)|exact zDs rfl rfl|apply ay (hd:=rfl)|exact zAF rfl|refine zBE rfl rfl ?_|exact zAX rfl rfl|exact zAG rfl|exact zAC rfl zEI|exact zAE rfl zA0 rfl rfl|(refine w0' ?_)|refine zAJ rfl ?_|apply zAS
  all_goals first|omega|skip
  all_goals exact zBL rfl
end Go.Proofs.YtcagoomibpcdlaaGreatDoor

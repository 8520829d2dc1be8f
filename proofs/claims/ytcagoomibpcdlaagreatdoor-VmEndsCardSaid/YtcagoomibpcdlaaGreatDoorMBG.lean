/- Parts of the proof. -/
import Derived.Test.YtcagoomibpcdlaaGreatDoorMBF
set_option maxHeartbeats 16000000
namespace Go.Proofs.YtcagoomibpcdlaaGreatDoor
open _root_.Go.Proofs.Tryz
open Go.Sx Go.Vm
theorem zVl: zNa prog 146=some (3,3):=by kernel_rfl
theorem zYg: zPW prog 3=some (i64 0):=by kernel_rfl
attribute [local irreducible] zAO Program.underlying Ylds zBE alex zB0 zBk awp zAg zB9 zB8 zAU zBj zA6 zDJ zBl zBn zBC zBq zBz zB7 zDQ zBm zBc zBe
abbrev conQ(m:Img)(c:CK)(k:Int)(b:Bool): Prop:=zA6 prog 121 [.ptr 0 0,.d (i64 k)] (CX m c) (bl b)
abbrev numQ(m:Img)(c:CK)(k:Int)(b:Bool): Prop:=zA6 prog 125 [.ptr 0 0,.d (i64 k)] (CX m c) (bl b)
theorem zX2(m:Img)(c:CK)(k:Int)(h:¬k<(m.pool.length:Int)): conQ m c k false:=by
 refine zCb func121 rfl ntmps121 results121 rfl ?_
 intro wb St0
 repeat' first|apply en_n|apply zAG|apply zAA|apply zAD|apply w0|exact zAL rfl|exact zAE rfl zAx rfl rfl|refine k1u (hd:=rfl) rfl rfl ?_|exact zCY rfl rfl|apply ay (hd:=rfl)|exact zAF rfl|exact zAB rfl|exact zBD rfl zD4|exact zAV rfl rfl|exact zAH rfl|(apply zAC;exact rfl;(with_reducible first|exact zB2|exact zDK))|apply zAQ|apply zAT|refine res1 rfl ?_
 all_goals rfl
theorem zZr(m:Img)(c:CK)(k:Int){t:Bool}{x:Int}{s:List UInt8}(h0:0<=k)(hk:m.pool[k.toNat]?=some ⟨t,x,s⟩): conQ m c k (t&&conF s):=by
 have hlt:=(qAA.1 hk).1
 have h:k<(m.pool.length:Int):=by omega
 have hat:(m.pool.map enCn)[k.toNat]?=some (enCn ⟨t,x,s⟩):=by rw[qAL,hk];rfl
 have hC:=zWa s
 refine zCb func121 rfl ntmps121 results121 rfl ?_
 intro wb St0
 cases t
 all_goals
  repeat' first|apply en_n|apply zAG|apply zAA|apply zAD|apply w0|exact zAL rfl|exact zAE rfl zAx rfl rfl|refine k1u (hd:=rfl) rfl rfl ?_|exact zCf rfl rfl|(refine zAd zXr hC (CoLA rfl))|(apply aJ (hd:=rfl);(first|exact zCQ rfl|exact zCp rfl rfl rfl|exact Co_nn rfl);exact rfl;(with_reducible exact zDF);assumption;omega;exact fun _=>rfl)|apply ay (hd:=rfl)|exact zAF rfl|exact zAB rfl|(apply zDB;exact rfl;(with_reducible first|exact zCc|exact zC4))|(apply zCK;exact rfl;(with_reducible first|exact zEO|exact zAb))|exact zBD rfl zD4|exact zAZ rfl rfl|exact zAV rfl rfl|exact zAH rfl|(apply zAC;exact rfl;(with_reducible first|exact zB2|exact zDK))|refine w1 rfl rfl ?_|apply zAQ|apply zAT|refine res1 rfl ?_
  all_goals rfl
theorem zXO(m:Img)(c:CK)(k:Int)(h:¬k<(m.pool.length:Int)): numQ m c k false:=by
 refine zCb func125 rfl ntmps125 results125 rfl ?_
 intro wb St0
 repeat' first|apply en_n|apply zAG|apply zAA|apply zAD|apply w0|exact zAL rfl|exact zAE rfl zAx rfl rfl|refine k1u (hd:=rfl) rfl rfl ?_|exact zCY rfl rfl|apply ay (hd:=rfl)|exact zAF rfl|exact zAB rfl|exact zBD rfl zD4|exact zAV rfl rfl|exact zAH rfl|(apply zAC;exact rfl;(with_reducible first|exact zB2|exact zDK))|apply zAQ|apply zAT|refine res1 rfl ?_
 all_goals rfl
theorem zZX(m:Img)(c:CK)(k:Int){t:Bool}{x:Int}{s:List UInt8}(h0:0<=k)(hk:m.pool[k.toNat]?=some ⟨t,x,s⟩): numQ m c k (!t):=by
 have hlt:=(qAA.1 hk).1
 have h:k<(m.pool.length:Int):=by omega
 have hat:(m.pool.map enCn)[k.toNat]?=some (enCn ⟨t,x,s⟩):=by rw[qAL,hk];rfl
 refine zCb func125 rfl ntmps125 results125 rfl ?_
 intro wb St0
 cases t
 all_goals
  repeat' first|apply en_n|apply zAG|apply zAA|apply zAD|apply w0|exact zAL rfl|exact zAE rfl zAx rfl rfl|exact zCf rfl rfl|(apply aJ (hd:=rfl);(first|exact zCQ rfl|exact zCp rfl rfl rfl|exact Co_nn rfl);exact rfl;(with_reducible exact zDF);assumption;omega;exact fun _=>rfl)|apply ay (hd:=rfl)|exact zAF rfl|exact zAB rfl|exact zDB rfl zCc|exact zCK rfl zAb|exact zBD rfl zD4|exact zBS rfl|exact zAZ rfl rfl|exact zAH rfl|(apply zAC;exact rfl;(with_reducible first|exact zB2|exact zDK))|refine w1 rfl rfl ?_|apply zAQ|apply zAT|refine res1 rfl ?_
  all_goals rfl
theorem zVv(m:Img)(c:CK)(k:Int)(h0:0<=k): conQ m c k (zFk conF m k):=by
 unfold zFk
 cases h:m.pool[k.toNat]? with
 |none=>exact zX2 m c k (by have:=qBR.1 h;omega)
 |some q=>obtain⟨t,x,s⟩:=q;exact zZr m c k h0 h
theorem zZW(m:Img)(c:CK)(k:Int)(h0:0<=k): numQ m c k (zHu m k):=by
 unfold zHu
 cases h:m.pool[k.toNat]? with
 |none=>exact zXO m c k (by have:=qBR.1 h;omega)
 |some q=>obtain⟨t,x,s⟩:=q;exact zZX m c k h0 h
section
variable {η:List Ob}{σ:Sl}{dst:Option Nat}{ty:TypeId}{pos:String}{after:Array Edge}{gd:Option (Nat×Bool)}{x y z:Operand}
theorem zHb{id:Nat}{kb:Option Nat}{L:List (Int×Int)}{a:Int}(hx:oval σ x=.mp id)(ho:η[id]?=some (.map kb (kvs cki (hasD L))))(hy:oval σ y=.d (i64 a)): Ylds prog η σ ⟨dst,.lookup 146 x y false,ty,pos,after,gd⟩ (.d (i64 (getI L a))):=by
 rw[<-zMQ]
 exact zYL hx ho hy zVl uint zYg
theorem zZ4{C:Ctx}{ops:Array Oper}{rest:List Oper}{K:Sl->List Ob->Prop}{id:Nat}{kb:Option Nat}{L:List (Int×Int)}{a v:Int}(hP:C.P=prog)(hx:oval σ x=.mp id)(ho:η[id]?=some (.map kb (kvs cki (hasD L))))(hy:oval σ y=.d (i64 a))(hz:oval σ z=.d (i64 v))(hro:Nat.ble C.ro id=true)
  (h:alex C false ops rest K σ (η.set id (.map kb (kvs cki (hasD (putI L a v)))))):zBE C false ops ⟨none,.mapUpdate 146 x y z,ty,pos,after,gd⟩ rest K σ η:=by
 obtain⟨P,N,w0,St0,X,ro⟩:=C
 dsimp only at hP
 subst hP
 rw[<-zOZ]at h
 exact zYI (k:=3) (e:=3) (enc:=cki) (dv:=i64 v) hx ho hy (by rw[hz];rfl) zVl (zVp uint) hro h
end
abbrev zN3(m:Img)(c c':CK)(k n:Int): Prop:=zAU prog 124 [.ptr 0 0,.d (i64 k),.d (i64 n)] (CX m c) .top (CX m c')
theorem zU9(m:Img)(c:CK)(k n:Int)(hn:0<=n/\n<=1048576)(hC:zIE m { c with has:=putI c.has k (n+1) } (({ c with has:=putI c.has k (n+1) }:CK).come k ⟨k,1,[]⟩) k ⟨k,1,[]⟩): zN3 m c (c.begin k n) k n:=by
 refine zDC func124 rfl ntmps124 results124 rfl ?_
 intro wb St0 X fx
 unfold CK.begin
 by_cases h1:getI c.has k>0
 ·by_cases h2:getI c.has k=n+1
  ·have h3:¬getI c.has k≠n+1:=fun e=>e h2
   rw[if_neg (fun e=>h3 e.2)]
   repeat' first|apply en_n|apply zAG|apply zAA|apply zAD|apply w0|(refine zHb rfl rfl rfl)|exact zAL rfl|(refine zZ4 rfl rfl rfl rfl rfl rfl ?_)|(refine zBr (cs:=[i64 k,i64 1,zBW [],bl false]) zGq zEv (PD_d rfl rfl (PD_d rfl rfl zCi)) rfl)|(refine aCK (r:={ c with has:=putI c.has k (n+1) }) (tl:=[]) (tl':=[]) zFx hC (SArgs_all rfl) rfl rfl rfl rfl ?_)|exact zEr rfl rfl|exact zGi rfl rfl|apply ay (hd:=rfl)|exact zAF rfl|refine zBG rfl rfl ?_|exact zAZ rfl rfl|exact zAH rfl|exact zAC rfl zEN|exact zAE rfl zBB rfl rfl|refine w1 rfl rfl ?_|(refine w0' ?_)|refine zAJ rfl ?_|apply zAR
   all_goals first|omega|skip
   all_goals exact zBP rfl
  ·rw[if_pos ⟨h1,h2⟩]
   repeat' first|apply en_n|apply zAG|apply zAA|apply zAD|apply w0|(refine zHb rfl rfl rfl)|exact zAL rfl|exact zEr rfl rfl|exact zGh rfl rfl|apply ay (hd:=rfl)|exact zAF rfl|refine zBG rfl rfl ?_|exact zAZ rfl rfl|exact zAH rfl|(apply zAC;exact rfl;(with_reducible first|exact zEN|exact zC6))|exact zAE rfl zBB rfl rfl|refine w1 rfl rfl ?_|(refine w0' ?_)|refine zAj rfl rfl rfl zAb rfl rfl rfl rfl ?_|refine zAI rfl ?_|apply zAQ|apply en_r
   all_goals first|omega|skip
   all_goals exact zXW rfl
 ·rw[if_neg (fun e=>h1 e.1)]
  repeat' first|apply en_n|apply zAG|apply zAA|apply zAD|apply w0|(refine zHb rfl rfl rfl)|exact zAL rfl|(refine zZ4 rfl rfl rfl rfl rfl rfl ?_)|(refine zBr (cs:=[i64 k,i64 1,zBW [],bl false]) zGq zEv (PD_d rfl rfl (PD_d rfl rfl zCi)) rfl)|(refine aCK (r:={ c with has:=putI c.has k (n+1) }) (tl:=[]) (tl':=[]) zFx hC (SArgs_all rfl) rfl rfl rfl rfl ?_)|refine k1u (hd:=rfl) rfl rfl ?_|exact zDx rfl rfl|apply ay (hd:=rfl)|exact zAF rfl|refine zBG rfl rfl ?_|exact zAV rfl rfl|exact zAH rfl|exact zAC rfl zEN|exact zAE rfl zBB rfl rfl|(refine w0' ?_)|refine zAJ rfl ?_|apply zAR
  all_goals first|omega|skip
  all_goals exact zBP rfl
end Go.Proofs.YtcagoomibpcdlaaGreatDoor

/- Parts of the proof. -/
import Derived.Test.YtcagoomibpcdlaaGreatDoorMBO
import Derived.Test.YtcagoomibpcdlaaGreatDoorMBP
import Derived.Test.YtcagoomibpcdlaaGreatDoorMBQ
set_option maxHeartbeats 16000000
namespace Go.Proofs.YtcagoomibpcdlaaGreatDoor
open _root_.Go.Proofs.Tryz
open Go.Sx Go.Vm
attribute [local irreducible] zAN Program.underlying Ylds zA9 alex zB3 zBf awp zAi zCC zCB zAU zBl zAz zDt zBq zBj zBB zBr zB2 zB8 zD7 zBi zBd zBg JFit
theorem zVx{C:Ctx}{Q:Exit->Sl->List Ob->Prop}{σ:Sl}{η:List Ob}{id:Nat}{o:Array Oper}(h:Stop (awp C (.region id o true) Q σ η)): awp C (.region id o true) Q σ η:=by
 unfold Stop at h;exact h
theorem zY0(m:Img)(c:CK){k a b:Int}{s:CS}(hd:DoAt m c k ⟨14,a,b⟩ s)(ht:s.tries=[]): DoTo m c { c with bad:=true } k:=by
 have hCl:=zMf s.tries (by rw[ht];simp)
 have ht0:¬(s.tries.length:Int)>0:=by rw[ht];simp
 refine zDA func74 rfl ntmps74 results74 rfl ?_
 intro wb St0 X fx
 refine zCu m c hd wb St0 X fx _ ?_
 obtain⟨hk0,hat0,hst0,hbig,hlen,hh,htr,ha,hb,_⟩:=hd
 have hr0:=(qAA.1 hst0).1
 have hk1:k<(c.at_.length:Int):=by omega
 dsimp only at ha hb
 clear hat0 hst0
 conv=>arg 2;whnf
 repeat' first|apply en_n|apply zAH|apply zAA|apply zAD|apply w0|(refine zAb zEO hCl (zAY rfl zAM))|exact zAK rfl|(apply zAE;exact rfl;(first|with_reducible exact zAP|with_reducible exact zAw|with_reducible exact zAu|with_reducible exact zAv|with_reducible exact zAd|with_reducible exact zA0|with_reducible exact zAc);exact rfl;exact rfl)|(apply zAh;exact rfl;exact rfl;exact rfl;(first|with_reducible exact zAP|with_reducible exact zAc|with_reducible exact zAw);exact rfl;exact rfl;exact rfl;exact rfl)|exact zDs rfl rfl|exact zAk rfl rfl|exact zAm rfl rfl|apply ay (hd:=rfl)|exact zAB rfl|exact zBI rfl zCc|(apply zAC;exact rfl;(with_reducible first|exact zBm|exact zC4))|(refine w0' ?_)|refine zAI rfl ?_|refine zAJ rfl ?_|apply zAL|apply eb_n
 all_goals first|omega|skip
 all_goals exact zBL rfl
theorem zZ5(m:Img)(c c':CK){k a b:Int}{s:CS}(hd:DoAt m c k ⟨14,a,b⟩ s)(ht:s.tries≠[])(hS:zEH m c c' { s with tries:=s.tries.dropLast } true 0 0 0 true (.d (zCK [k+1]))): DoTo m c c' k:=by
 have hCl:=zMf s.tries hd.tr
 have hpos:=qBi.2 ht
 have ht0:(s.tries.length:Int)>0:=by omega
 refine zDA func74 rfl ntmps74 results74 rfl ?_
 intro wb St0 X fx
 refine zCu m c hd wb St0 X fx _ ?_
 obtain⟨hk0,hat0,hst0,hbig,hlen,hh,htr,ha,hb,_⟩:=hd
 have hr0:=(qAA.1 hst0).1
 have hk1:k<(c.at_.length:Int):=by omega
 dsimp only at ha hb
 clear hat0 hst0
 conv=>arg 2;whnf
 repeat' first|(refine zEj (id:=39) ?_)|apply en_n|apply zAH|apply zAA|apply zAD|apply w0|(refine zAb zEO hCl (zAY rfl zAM))|(apply zAE;exact rfl;(first|with_reducible exact zAP|with_reducible exact zAw|with_reducible exact zAu|with_reducible exact zAv|with_reducible exact zAd|with_reducible exact zA0|with_reducible exact zAc);exact rfl;exact rfl)|(apply zAh;exact rfl;exact rfl;exact rfl;(first|with_reducible exact zAP|with_reducible exact zAc|with_reducible exact zAw);exact rfl;exact rfl;exact rfl;exact rfl)|exact zEk rfl rfl|exact zAk rfl rfl|exact zAm rfl rfl|apply ay (hd:=rfl)|exact zAB rfl|exact zBI rfl zCc|exact zAC rfl zBm|(refine w0' ?_)|refine zAI rfl ?_|refine zAJ rfl ?_|apply zAL
 all_goals first|omega|skip
 refine Stop.go ?_
 have hdl:s.tries.take ((s.tries.length:Int)-1).toNat=s.tries.dropLast:=by rw[qBe];congr 1;omega
 repeat' first|(refine zFV (id:=40) (s:=[(1,.d (i64 k)),(5,.ptr 6 0),(6,.ptr 7 0),(8,.clo 120 [6,7,4])]) (h:=CA fx m c++[.box [.ptr 0 0],.box [.d (i64 14),.d (i64 a),.d (i64 b)],.box [.d (i64 s.of),.d (i64 s.height),.d (zCK s.tries.dropLast),.d (bl true)],.box [.d (i64 0)]]) (zAT (Le_all rfl) (zAO rfl rfl (zAO rfl rfl (zAO rfl rfl (zAO rfl rfl (zAO rfl rfl (zAO rfl rfl (zAO rfl (by rw[<-hdl];rfl) (zAO rfl rfl zAt)))))))) rfl rfl) ?_)|apply en_n|apply zAH|apply zAA|apply zAD|apply w0|(refine zVO (L:=s.tries) (enc:=ival) (zCW rfl) zBJ rfl (fun _=>rfl) ?_)|(refine zCI zA7 zBJ zCL rfl rfl (zAY rfl zAM) rfl)|(refine zCs [0,1,2,3,6,7,4] [4,5,6] rfl rfl zAo (hS) rfl (SArgs_all rfl) rfl rfl (by decide) rfl rfl rfl rfl rfl rfl ?_)|(apply zAE;exact rfl;(first|with_reducible exact zAP|with_reducible exact zAw|with_reducible exact zAu|with_reducible exact zAv|with_reducible exact zAd|with_reducible exact zA0|with_reducible exact zAc);exact rfl;exact rfl)|(apply zAh;exact rfl;exact rfl;exact rfl;(first|with_reducible exact zAP|with_reducible exact zAc|with_reducible exact zAw);exact rfl;exact rfl;exact rfl;exact rfl)|apply ay (hd:=rfl)|exact zAF rfl|exact zBI rfl zCc|refine zBE rfl rfl ?_|refine zDb rfl rfl ?_|exact zAf rfl|exact zAC rfl zBm|(refine w0' ?_)|apply eb_n
 all_goals first|omega|skip
 all_goals exact zBL rfl
theorem zZ1(m:Img)(c c1 c':CK){k a b:Int}{s:CS}(hd:DoAt m c k ⟨18,a,b⟩ s)(hS:zEH m c c1 s true (flo s) b 1 true (.d (zCK [k+1])))(hB:zNW m c1 c' a b): DoTo m c c' k:=by
 refine zDA func74 rfl ntmps74 results74 rfl ?_
 intro wb St0 X fx
 refine zCu m c hd wb St0 X fx _ ?_
 obtain⟨hk0,hat0,hst0,hbig,hlen,hh,htr,ha,hb,_⟩:=hd
 have hr0:=(qAA.1 hst0).1
 have hk1:k<(c.at_.length:Int):=by omega
 dsimp only at ha hb
 clear hat0 hst0
 conv=>arg 2;whnf
 repeat' first|(refine zFV (id:=51) (s:=[(2,.ptr 4 0),(4,.ptr 5 0)]) (h:=CA fx m c1++doB 18 a b s) (zAT (Le_all rfl) (zB5 _) rfl rfl) ?_)|apply en_n|apply zAH|apply zAA|apply zAD|apply w0|(refine aCK (r:=c1) (tl:=doB 18 a b s) (tl':=doB 18 a b s) zNC hB (SArgs_all rfl) rfl rfl rfl rfl ?_)|(refine zCI zA7 zBJ zCL rfl rfl (zAY rfl zAM) rfl)|(refine zCs [0,1,2,3,6,7,4] [4,5,6] rfl rfl zAo (hS) rfl (SArgs_all rfl) rfl rfl (by decide) rfl rfl rfl rfl rfl rfl ?_)|(apply zAE;exact rfl;(first|with_reducible exact zAP|with_reducible exact zAw|with_reducible exact zAu|with_reducible exact zAv|with_reducible exact zAd|with_reducible exact zA0|with_reducible exact zAc);exact rfl;exact rfl)|exact zAk rfl rfl|exact zAm rfl rfl|apply ay (hd:=rfl)|exact zAF rfl|exact zAB rfl|refine zBE rfl rfl ?_|exact zAf rfl|(apply zAC;exact rfl;(with_reducible first|exact zAp|exact zCY))|refine zAI rfl ?_|refine zAJ rfl ?_|apply zAL|apply eb_n
 all_goals first|omega|skip
 all_goals exact zBL rfl
theorem zZ2(m:Img)(c c1 c':CK){k a b:Int}{s:CS}(hd:DoAt m c k ⟨17,a,b⟩ s)(hS:zEH m c c1 s true (flo s) 0 1 true (.d (zCK [a])))(hC:zHz m c1 c' (k+1) ⟨s.of,s.height,s.tries++[s.height]⟩): DoTo m c c' k:=by
 have hCl:=CloneI_row s.tries hd.tr
 refine zDA func74 rfl ntmps74 results74 rfl ?_
 intro wb St0 X fx
 refine zCu m c hd wb St0 X fx _ ?_
 obtain⟨hk0,hat0,hst0,hbig,hlen,hh,htr,ha,hb,_⟩:=hd
 have hr0:=(qAA.1 hst0).1
 have hk1:k<(c.at_.length:Int):=by omega
 dsimp only at ha hb
 clear hat0 hst0
 conv=>arg 2;whnf
 have hk2:-9223372036854775808<=k+1/\k+1<=9223372036854775807:=by omega
 repeat' first|(refine zVx (id:=48) ?_)|apply en_n|apply zAH|apply zAA|apply zAD|apply w0|(refine zCI zA7 zBJ zCL rfl rfl (zAY rfl zAM) rfl)|(refine zCs [0,1,2,3,6,7,4] [4,5,6] rfl rfl zAo (hS) rfl (SArgs_all rfl) rfl rfl (by decide) rfl rfl rfl rfl rfl rfl ?_)|(apply zAE;exact rfl;(first|with_reducible exact zAP|with_reducible exact zAw|with_reducible exact zAu|with_reducible exact zAv|with_reducible exact zAd|with_reducible exact zA0|with_reducible exact zAc);exact rfl;exact rfl)|exact zAk rfl rfl|exact zAm rfl rfl|apply ay (hd:=rfl)|exact zAB rfl|exact zAf rfl|exact zAC rfl zAp|refine zAI rfl ?_|refine zAJ rfl ?_|apply zAL
 all_goals first|omega|skip
 refine Stop.go ?_
 refine zDa (s:=[(1,.d (i64 k)),(2,.ptr 4 0),(4,.ptr 5 0),(5,.ptr 6 0)]) (h:=CA fx m c1++doB 17 a b s) (zAT (Le_all rfl) (zB5 _) rfl rfl) ?_
 have hη2:((zFC 8 (CA fx m c1++doB 17 a b s++[.buf true 3 1 (s.tries.map ival)])).set 8 (.buf true 3 1 (s.tries.map ival++[i64 s.height]))).set 8 (.buf false 3 1 (s.tries.map ival++[i64 s.height]))=CA fx m c1++doB 17 a b s++[.buf false 3 1 (s.tries.map ival++[i64 s.height])]:=rfl
 have hG2:∀(τ:Sl) (t:Nat),get ((267,.d (zCK (s.tries++[s.height])))::(267,.buf 8 (s.tries.length+1))::zFM 8 τ) t=get ((267,FF (zWr 8) 2 (.d (zCK (s.tries++[s.height]))))::zWq 8 1 τ) t:=fun τ t=>by
  rw[zBV,zBV,zBV]
  by_cases h:267=t
  ·rw[if_pos h,if_pos h];rfl
  ·rw[if_neg h,if_neg h,if_neg h];rfl
 refine zRv [.ptr 0 0,.d (i64 k),.d (i64 (k+1)),.ptr 6 (0+0),.d (i64 s.of),.ptr 6 (0+1),.d (i64 s.height),.ptr 6 (0+2),.d (zCK s.tries),.buf 8 s.tries.length,.ptr 6 (0+1),.d (i64 s.height),.d (.slice [i64 s.height]),.d (zCK (s.tries++[s.height])),.d (.agg [i64 s.of,i64 s.height,zCK (s.tries++[s.height]),bl false])] [9,13] [CA fx m c1++doB 17 a b s,CA fx m c1++doB 17 a b s++[.buf true 3 1 (s.tries.map ival)],CA fx m c1++doB 17 a b s++[.buf false 3 1 (s.tries.map ival++[i64 s.height])]] (zWr 8) (zWq 8) (by kernel_rfl) (by kernel_rfl) (by kernel_rfl) (.inr (by kernel_rfl)) (by kernel_rfl) (by kernel_rfl) rfl rfl (zYp 8) ?_ ?_
 ·refine zEJ 0 rfl rfl rfl rfl rfl (by decide +kernel) (fun _=>zAE rfl zAu rfl rfl) (fun _=>zAE rfl zAu rfl rfl) (zAE rfl zAu rfl rfl) ?_
  refine zEJ 0 rfl rfl rfl rfl rfl (by decide +kernel) (fun _=>zAF rfl) (fun _=>zAF rfl) (zAF rfl) ?_
  refine zEJ 0 rfl rfl rfl rfl rfl (by decide +kernel) (fun _=>zBE rfl rfl hk2) (fun _=>zBE rfl rfl hk2) (zBE rfl rfl hk2) ?_
  refine zEJ 0 rfl rfl rfl rfl rfl (by decide +kernel) (fun _=>zAC rfl zC5) (fun _=>zAC rfl zC5) (zAC rfl zC5) ?_
  refine zEJ 0 rfl rfl rfl rfl rfl (by decide +kernel) (fun _=>zAE rfl zAP rfl rfl) (fun _=>zAE rfl zAP rfl rfl) (zAE rfl zAP rfl rfl) ?_
  refine zEJ 0 rfl rfl rfl rfl rfl (by decide +kernel) (fun _=>zAC rfl zB0) (fun _=>zAC rfl zB0) (zAC rfl zB0) ?_
  refine zEJ 0 rfl rfl rfl rfl rfl (by decide +kernel) (fun _=>zAE rfl zAP rfl rfl) (fun _=>zAE rfl zAP rfl rfl) (zAE rfl zAP rfl rfl) ?_
  refine zEJ 0 rfl rfl rfl rfl rfl (by decide +kernel) (fun _=>zAC rfl zBm) (fun _=>zAC rfl zBm) (zAC rfl zBm) ?_
  refine zEJ 0 rfl rfl rfl rfl rfl (by decide +kernel) (fun _=>zAE rfl zAw rfl rfl) (fun _=>zAE rfl zAw rfl rfl) (zAE rfl zAw rfl rfl) ?_
  refine zUz 0 263 rfl rfl rfl rfl ?_ ?_
  ·intro τ hτ
   have h262:get τ 262=.d (zCK s.tries):=(hτ 262 (by decide +kernel)).trans rfl
   refine EStep.of (ops:=#[]) ?_
   refine zVM [] zEO hCl ?_ rfl rfl (by decide) rfl rfl rfl rfl rfl ?_
   ·exact SArgs_cons h262 SArgs_nil
   ·exact zAD ⟨fun t=>rfl,rfl⟩
  refine zEJ 0 rfl rfl rfl rfl rfl (by decide +kernel) (fun _=>zAC rfl zB0) (fun _=>zAC rfl zB0) (zAC rfl zB0) ?_
  refine zEJ 0 rfl rfl rfl rfl rfl (by decide +kernel) (fun _=>zAE rfl zAP rfl rfl) (fun _=>zAE rfl zAP rfl rfl) (zAE rfl zAP rfl rfl) ?_
  refine zEJ 0 rfl rfl rfl rfl rfl (by decide +kernel) (fun _=>zCI zA7 zBJ zCL rfl rfl (zAY rfl zAM) rfl) (fun _=>zCI zA7 zBJ zCL rfl rfl (zAY rfl zAM) rfl) (zCI zA7 zBJ zCL rfl rfl (zAY rfl zAM) rfl) ?_
  refine zUz 1 267 rfl rfl rfl rfl ?_ ?_
  ·intro τ hτ
   have h263:get τ 263=.buf 8 s.tries.length:=(hτ 263 (by decide +kernel)).trans rfl
   have h266:get τ 266=.d (.slice [i64 s.height]):=(hτ 266 (by decide +kernel)).trans rfl
   refine EStep.of (ops:=#[]) ?_
   refine aApp (id:=8) (n:=s.tries.length) (m:=1) (ys:=[i64 s.height]) (mu:=true) (xs:=s.tries.map ival) h263 rfl (zCW h266) (qAC _).symm rfl zA7 zBJ zJ4 zIE rfl rfl (fun d hd=>by rw[qAO]at hd;subst hd;rfl) (by omega) ?_
   refine zNR 8 rfl rfl rfl ?_
   refine zPq 267 (d:=zCK (s.tries++[s.height])) rfl ?_ ?_
   ·rw[show zCK (s.tries++[s.height])=.slice (s.tries.map ival++[i64 s.height])from by unfold zCK;rw[qAk];rfl]
    exact zGJ rfl (by rw[qAE,qAC];rfl)
   ·exact zAD ⟨fun t=>hG2 τ t,hη2⟩
  refine zEJ 2 rfl rfl rfl rfl rfl (by decide +kernel) (fun h=>absurd h (by decide)) (fun h=>absurd h (by decide)) (zBY (cs:=[i64 s.of,i64 s.height,zCK (s.tries++[s.height]),bl false]) zGh zEn (PD_d rfl rfl (PD_d rfl rfl (PD_d rfl rfl zCf))) rfl) ?_
  exact zTF
 ·skip
  repeat' first|apply zAD|apply w0|(refine zBv (by kernel_rfl) ?_;refine aCK (r:=c1) (tl:=doB 17 a b s++[.buf false 3 1 (s.tries.map ival++[i64 s.height])]) (tl':=doB 17 a b s++[.buf false 3 1 (s.tries.map ival++[i64 s.height])]) zFr hC (SArgs_all rfl) rfl rfl rfl rfl ?_)|apply eb_n
  all_goals exact zBL rfl
end Go.Proofs.YtcagoomibpcdlaaGreatDoor
namespace Go.Proofs.YtcagoomibpcdlaaGreatDoor
open Go.Sx Go.Vm
variable {m:Img}
theorem zRf(him:ImgOk m){c:CK}(hc:CInv m c)(hb:CB c){k:Int}(hk:0<=k)(s:CS): zHz m c (c.come k s) k s:=by
 have h1:=zKM c
 have h2:=hc.len
 have h3:=him.code
 have h4:=hb.wrk
 exact zXJ m c k s hk hc (by omega) (by omega) fun q x hq=>by have:=(hb.hgt q x hq).2;omega
theorem zXI(him:ImgOk m){s:CS}{c:CK}(hc:CInv m c)(hb:CB c){l:List Int}(h0:∀t∈l,0<=t)(hs:s.of = -1\/(0<=s.of/\0<getI c.has s.of))(ht:TrOk (fullV c s))(h1:s.height<=cnt c+1)(h2:s.tries.length<=cnt c+1):
  ∀i t,l[i]?=some t->zHz m ((l.take i).foldl (fun c t=>c.come t s) c) ((l.take (i+1)).foldl (fun c t=>c.come t s) c) t s:=by
 intro i t hi
 have hm:=qAK hi
 have hlt:=(qAA.1 hi).1
 have e:l.take (i+1)=l.take i++[t]:=by
  rw[List.take_succ_eq_append_getElem hlt,(qAA.1 hi).2]
 rw[e,List.foldl_append,List.foldl_cons,List.foldl_nil]
 obtain⟨_,c2,_⟩:=zJb (l.take i) hc (fun t ht=>h0 t (qAW ht)) hs ht
 obtain⟨b2,_⟩:=zK9 (s:=s) (l.take i) hb h1 h2
 exact zRf him c2 b2 (h0 t hm) s
theorem zQN(him:ImgOk m){c:CK}(hc:CInv m c)(hb:CB c){s:CS}(b:Bool){fl takes puts:Int}{holds:Bool}{l:List Int}(h0:∀t∈l,0<=t)(hl:l.length<=1000)(hs:s.of = -1\/(0<=s.of/\0<getI c.has s.of))(ht:TrOk (fullV c s))(hf:zA6 (fullV c s)<=fl\/zA6 (fullV c s)<=s.height-takes)
  (htk:0<=takes/\takes<=1048577) (hp:0<=puts/\puts<=1) (hg:s.height<=cnt c/\s.tries.length<=cnt c):zEH m c (c.stepC s fl takes puts holds l) s b fl takes puts holds (.d (zCK l)):=by
 have q1:=zKM c
 have q2:=hc.len
 have q3:=him.code
 have q4:0<=s.height:=ht.nn
 unfold CK.stepC
 cases holds with
 |false=>exact zNe m c s b fl takes puts _
 |true =>
  by_cases h:s.height-takes<fl
  ·rw[if_pos (by simp[h])]
   exact zLR m c s b fl takes puts _ h ⟨q4,by omega,by omega,by omega⟩
  ·rw[if_neg (by simp[h])]
   have htr:TrOk (fullV c ⟨s.of,s.height-takes+puts,s.tries⟩):=ht.tw (h:=s.height-takes+puts) (by rcases hf with h|h <;> omega)
   have hC:=zXI him (s:=⟨s.of,s.height-takes+puts,s.tries⟩) hc hb h0 hs htr (by show s.height-takes+puts<=_;omega) (by show s.tries.length<=_;omega)
   have:=zS5 m s b fl takes puts l (fun i=>(l.take i).foldl (fun c t=>c.come t ⟨s.of,s.height-takes+puts,s.tries⟩) c) h ⟨q4,by omega,by omega,by omega,by omega,by omega⟩ hl hC
   rw[qA4]at this
   exact this
theorem zWE(him:ImgOk m){c:CK}(hc:CInv m c)(_hb:CB c){s:CS}(b:Bool){fl takes puts:Int}{holds:Bool}(ht:TrOk (fullV c s))(htk:0<=takes/\takes<=1048577)(hp:0<=puts/\puts<=1)(hg:s.height<=cnt c): zEH m c (c.stepC s fl takes puts holds []) s b fl takes puts holds .nil:=by
 have q1:=zKM c
 have q2:=hc.len
 have q3:=him.code
 have q4:0<=s.height:=ht.nn
 unfold CK.stepC
 cases holds with
 |false=>exact zNe m c s b fl takes puts _
 |true =>
  by_cases h:s.height-takes<fl
  ·rw[if_pos (by simp[h])]
   exact zLR m c s b fl takes puts _ h ⟨q4,by omega,by omega,by omega⟩
  ·rw[if_neg (by simp[h])]
   exact zQK m s b fl takes puts c h ⟨q4,by omega,by omega,by omega,by omega,by omega⟩
theorem zXP(him:ImgOk m){c:CK}(hc:CInv m c)(hb:CB c){k n:Int}(hk:0<=k)(hn:0<=n/\n<=1048576): zNW m c (c.begin k n) k n:=by
 refine zUR m c k n hn ?_
 have h1:=zKM c
 have h2:=hc.len
 have h3:=him.code
 have h4:=hb.wrk
 have hl:=hc.len
 have ek:k=(k.toNat:Int):=(qAw hk).symm
 unfold CK.come
 dsimp only
 cases h:c.at_[k.toNat]? with
 |none =>
  have:=qBa.1 h
  exact zOR m _ k _ (by omega)
 |some o =>
  cases o with
  |none =>
   have:=zOT m { c with has:=putI c.has k (n+1) } k.toNat ⟨k,1,[]⟩ hl h (by show c.work.length<=_;omega) (by omega)
   rw[<-ek]at this;exact this
  |some s' =>
   have:=zOS m { c with has:=putI c.has k (n+1) } k.toNat ⟨k,1,[]⟩ s' hl h (by have:=(hb.hgt _ _ h).2;omega) (by omega)
   rw[<-ek]at this;exact this
end Go.Proofs.YtcagoomibpcdlaaGreatDoor
namespace Go.Proofs.YtcagoomibpcdlaaGreatDoor
open Go.Sx Go.Vm
variable {m:Img}
theorem do_m(him:ImgOk m){c:CK}(hc:CInv m c)(hb:CB c){k:Int}{s:CS}(hk:0<=k)(hat:c.at_[k.toNat]?=some (some s)): DoTo m c (c.doC conF m k s) k:=by
 have hs:=hc.of _ _ hat
 have ht:=hc.tr _ _ hat
 have hlt:=zIO hc hat
 have hgt:=hb.hgt _ _ hat
 have q1:=zKM c
 have q2:=hc.len
 have q3:=him.code
 have hnn:0<=s.height:=ht.nn
 obtain⟨i,hi⟩:∃i,m.code[k.toNat]?=some i:=⟨_,qAB hlt⟩
 have hg:m.code.getD k.toNat default=i:=by rw[qAD,hi];rfl
 obtain⟨o0,o20,a0,a1,b0,b1,hgo⟩:=him.ins i (qAK hi)
 have hd:DoAt m c k i s:=⟨hk,hi,hat,by omega,q2,⟨hnn,by omega⟩,by omega,⟨a0,a1⟩,⟨b0,b1⟩,rfl⟩
 obtain⟨op,a,b⟩:=i
 dsimp only at *
 have hof:decide ((fullV c s).of>=0) = !decide (s.of = -1):=by
  show decide (s.of>=0)=_
  by_cases h:s.of = -1
  ·rw[decide_eq_true h,decide_eq_false (by omega)];rfl
  ·rw[decide_eq_false h,decide_eq_true (by omega)];rfl
 have hte:(fullV c s).tries.isEmpty=decide ((s.tries.length:Int)=0):=by
  show s.tries.isEmpty=_
  cases s.tries with
  |nil=>rfl
  |cons x r=>exact(decide_eq_false (by simp;omega)).symm
 have hS:∀(takes puts:Int) (holds:Bool) (l:List Int),(∀t∈l,0<=t)->l.length<=1000->0<=takes->takes<=1048577->0<=puts->puts<=1->zEH m c (c.stepC s (zA6 (fullV c s)) takes puts holds l) s true (flo s) takes puts holds (.d (zCK l)) :=
  fun takes puts holds l h0 hl g0' g1' g2' g3'=>zQN him hc hb true h0 hl hs ht (.inl (qA6 _)) ⟨g0',g1'⟩ ⟨g2',g3'⟩ hgt
 have hN:∀(takes puts:Int) (holds:Bool),0<=takes->takes<=1048577->0<=puts->puts<=1->zEH m c (c.stepC s (zA6 (fullV c s)) takes puts holds []) s true (flo s) takes puts holds .nil :=
  fun takes puts holds g0' g1' g2' g3'=>zWE him hc hb true ht ⟨g0',g1'⟩ ⟨g2',g3'⟩ hgt.1
 have m1:∀t∈[k+1],0<=t:=fun t ht=>by rw[qAO]at ht;omega
 have m2:∀t∈[a,k+1],0<=t:=fun t ht=>by simp at ht;omega
 have ma:∀t∈[a],0<=t:=fun t ht=>by rw[qAO]at ht;omega
 unfold CK.doC
 dsimp only
 rw[hg]
 dsimp only
 by_cases c14:op=14
 ·subst c14
  rw[if_pos rfl]
  by_cases he:s.tries=[]
  ·rw[if_pos (by rw[he];rfl)]
   exact zY0 m c hd he
  ·rw[if_neg (by cases hq:s.tries with|nil=>exact absurd hq he|cons x r=>simp)]
   have ht':TrOk (fullV c { s with tries:=s.tries.dropLast }):=⟨ht.pw.sublist (List.dropLast_sublist _),fun x hx=>ht.le x (qBZ _ hx),ht.nn⟩
   have hf':zA6 (fullV c { s with tries:=s.tries.dropLast })<=s.height-0:=by
    cases hq:s.tries.dropLast.getLast? with
    |none =>have:zA6 (fullV c { s with tries:=s.tries.dropLast })=0:=by unfold zA6;show (s.tries.dropLast.getLast?).getD 0=0;rw[hq];rfl
            omega
    |some x=>rw[zD5 (v:=fullV c { s with tries:=s.tries.dropLast }) (h:=x) hq];have:=(ht'.le x (qBP hq)).2;show x<=s.height-0;change x<=s.height at this;omega
   exact zZ5 m c _ hd he (zQN him hc hb true m1 (by simp) hs ht' (.inr hf') (by omega) (by omega) ⟨hgt.1,by show s.tries.dropLast.length<=_;rw[qAt];omega⟩)
 rw[if_neg c14]
 by_cases c17:op=17
 ·subst c17
  rw[if_pos rfl]
  have hst:=hS 0 1 true [a] ma (by simp) (by omega) (by omega) (by omega) (by omega)
  have x2:CInv m (c.stepC s (zA6 (fullV c s)) 0 1 true [a]):=zLS hc [a] ma hs ht (.inl (qA6 _)) (by decide)
  obtain⟨y1,y2⟩:=zGp hb (s:=s) (fl:=zA6 (fullV c s)) (a:=0) (b:=1) (h:=true) (l:=[a]) (by omega) (by omega)
  exact zZ2 m c _ _ hd hst (zRf him x2 y1 (by omega) _)
 rw[if_neg c17]
 by_cases c18:op=18
 ·subst c18
  rw[if_pos rfl]
  have hst:=hS b 1 true [k+1] m1 (by simp) b0 (by omega) (by omega) (by omega)
  have x2:CInv m (c.stepC s (zA6 (fullV c s)) b 1 true [k+1]):=zLS hc [k+1] m1 hs ht (.inl (qA6 _)) (by decide)
  obtain⟨y1,y2⟩:=zGp hb (s:=s) (fl:=zA6 (fullV c s)) (a:=b) (b:=1) (h:=true) (l:=[k+1]) (by omega) (by omega)
  exact zZ1 m c _ _ hd hst (zXP him x2 y1 a0 ⟨b0,b1⟩)
 rw[if_neg c18]
 have hop:op=0\/op=1\/op=2\/op=3\/op=4\/op=5\/op=6\/op=7\/op=8\/op=9\/op=10\/op=11\/op=12\/op=13\/op=15\/op=16\/op=19\/op=20:=by omega
 rcases hop with rfl|rfl|rfl|rfl|rfl|rfl|rfl|rfl|rfl|rfl|rfl|rfl|rfl|rfl|rfl|rfl|rfl|rfl
 ·have e:eff conF m ⟨0,a,b⟩ (fullV c s)=⟨1,0, !decide ((fullV c s).of>=0)&&(fullV c s).tries.isEmpty,false,false⟩:=by simp[eff]
  rw[e,hof,hte,Bool.not_not]
  exact do_0 m c _ hd (hN 1 0 _ (by omega) (by omega) (by omega) (by omega))
 ·have e:eff conF m ⟨1,a,b⟩ (fullV c s)=⟨0,1,decide (a<m.pool.length),true,false⟩:=by simp[eff]
  rw[e]
  exact do_1 m c _ hd (hS 0 1 _ [k+1] m1 (by simp) (by omega) (by omega) (by omega) (by omega))
 ·have e:eff conF m ⟨2,a,b⟩ (fullV c s)=⟨0,1,decide (a<(fullV c s).height),true,false⟩:=by simp[eff]
  rw[e]
  exact do_2 m c _ hd (hS 0 1 _ [k+1] m1 (by simp) (by omega) (by omega) (by omega) (by omega))
 ·have e:eff conF m ⟨3,a,b⟩ (fullV c s)=⟨0,1,decide ((fullV c s).of>=0)&&decide (a<(fullV c s).has),true,false⟩:=by simp[eff]
  have e2:(decide ((fullV c s).of>=0)&&decide (a<(fullV c s).has))=(!decide (s.of = -1)&&decide (a<getI c.has s.of-1)):=by
   rw[hof]
   by_cases h:s.of = -1
   ·rw[decide_eq_true h];rfl
   ·show (_&&decide (a<if s.of = -1 then 0 else getI c.has s.of-1))=_
    rw[if_neg h]
  rw[e,e2]
  have hgi:0<=getI c.has s.of/\getI c.has s.of<=2000000:=by
   have:=hb.has s.of
   by_cases h0:getI c.has s.of=0
   ·omega
   ·have:=hc.has _ h0;omega
  exact do_3 m c _ hd hgi (hS 0 1 _ [k+1] m1 (by simp) (by omega) (by omega) (by omega) (by omega))
 ·have e:eff conF m ⟨4,a,b⟩ (fullV c s)=⟨0,1,decide ((fullV c s).of>=0),true,false⟩:=by simp[eff]
  have e2:decide ((fullV c s).of>=0)=decide (s.of≠-1):=by rw[hof];by_cases h:s.of = -1 <;> simp[h]
  rw[e,e2]
  exact do_4 m c _ hd (hS 0 1 _ [k+1] m1 (by simp) (by omega) (by omega) (by omega) (by omega))
 ·have e:eff conF m ⟨5,a,b⟩ (fullV c s)=⟨a,0,true,true,false⟩:=by simp[eff]
  rw[e]
  exact do_5 m c _ hd (hS a 0 _ [k+1] m1 (by simp) (by omega) (by omega) (by omega) (by omega))
 ·have e:eff conF m ⟨6,a,b⟩ (fullV c s)=⟨a+1,1,true,true,false⟩:=by simp[eff]
  rw[e]
  exact do_6 m c _ hd (hS (a+1) 1 _ [k+1] m1 (by simp) (by omega) (by omega) (by omega) (by omega))
 ·have e:eff conF m ⟨7,a,b⟩ (fullV c s)=⟨2,1,true,true,false⟩:=by simp[eff]
  rw[e]
  exact do_7 m c _ hd (hS 2 1 _ [k+1] m1 (by simp) (by omega) (by omega) (by omega) (by omega))
 ·have e:eff conF m ⟨8,a,b⟩ (fullV c s)=⟨2,0,decide ((fullV c s).of>=0)&&(fullV c s).tries.isEmpty,false,false⟩:=by simp[eff]
  rw[e,hof,hte]
  exact do_8 m c _ hd (hN 2 0 _ (by omega) (by omega) (by omega) (by omega))
 ·have e:eff conF m ⟨9,a,b⟩ (fullV c s)=⟨1,0,decide ((fullV c s).of>=0)&&(fullV c s).tries.isEmpty,false,false⟩:=by simp[eff]
  rw[e,hof,hte]
  exact do_9 m c _ hd (hN 1 0 _ (by omega) (by omega) (by omega) (by omega))
 ·have e:eff conF m ⟨10,a,b⟩ (fullV c s)=⟨b,1,zIW conF m a&&decide (b<=8),true,false⟩:=by simp[eff]
  rw[e]
  exact zZ9 m c _ hd (zVD m c a a0) (hS b 1 _ [k+1] m1 (by simp) (by omega) (by omega) (by omega) (by omega))
 ·have e:eff conF m ⟨11,a,b⟩ (fullV c s)=⟨1,1,decide (a<=7),true,false⟩:=by simp[eff]
  have e2:decide (a<=7)=decide (a<8):=decide_eq_decide.2 (by omega)
  rw[e,e2]
  exact zZ8 m c _ hd (hS 1 1 _ [k+1] m1 (by simp) (by omega) (by omega) (by omega) (by omega))
 ·have e:eff conF m ⟨12,a,b⟩ (fullV c s)=⟨takes a,1,decide (a<=13),true,false⟩:=by simp[eff]
  have e2:decide (a<=13)=decide (takes a>0):=decide_eq_decide.2 (by unfold takes;split <;> (try split) <;> omega)
  have e3:0<=takes a/\takes a<=2:=by unfold takes;split <;> (try split) <;> omega
  rw[e,e2]
  exact zZ7 m c _ hd (hS (takes a) 1 _ [k+1] m1 (by simp) (by omega) (by omega) (by omega) (by omega))
 ·have e:eff conF m ⟨13,a,b⟩ (fullV c s)=⟨1,0,true,false,false⟩:=by simp[eff]
  rw[e]
  exact zZ6 m c _ hd (hN 1 0 _ (by omega) (by omega) (by omega) (by omega))
 ·have e:eff conF m ⟨15,a,b⟩ (fullV c s)=⟨0,0,true,false,true⟩:=by simp[eff]
  rw[e]
  exact zZ4 m c _ hd (hS 0 0 _ [a] ma (by simp) (by omega) (by omega) (by omega) (by omega))
 ·have e:eff conF m ⟨16,a,b⟩ (fullV c s)=⟨1,0,true,true,true⟩:=by simp[eff]
  rw[e]
  exact zZ3 m c _ hd (hS 1 0 _ [a,k+1] m2 (by simp) (by omega) (by omega) (by omega) (by omega))
 ·have e:eff conF m ⟨19,a,b⟩ (fullV c s)=⟨0,0,decide ((fullV c s).height>=1)&&zIW conF m b,true,true⟩:=by simp[eff]
  have e2:decide ((fullV c s).height>=1)=decide (s.height>0):=decide_eq_decide.2 (by show s.height>=1↔_;omega)
  rw[e,e2]
  exact zZ0 m c _ hd (zVD m c b b0) (hS 0 0 _ [a,k+1] m2 (by simp) (by omega) (by omega) (by omega) (by omega))
 ·have e:eff conF m ⟨20,a,b⟩ (fullV c s)=⟨0,0,decide ((fullV c s).height>=1)&&zKu m b,true,true⟩:=by simp[eff]
  have e2:decide ((fullV c s).height>=1)=decide (s.height>0):=decide_eq_decide.2 (by show s.height>=1↔_;omega)
  rw[e,e2]
  exact zZz m c _ hd (zYi m c b b0) (hS 0 0 _ [a,k+1] m2 (by simp) (by omega) (by omega) (by omega) (by omega))
end Go.Proofs.YtcagoomibpcdlaaGreatDoor

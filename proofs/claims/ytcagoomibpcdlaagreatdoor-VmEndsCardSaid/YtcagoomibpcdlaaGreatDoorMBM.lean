/- Parts of the proof. -/
import Derived.Test.YtcagoomibpcdlaaGreatDoorMBJ
import Derived.Test.YtcagoomibpcdlaaGreatDoorMBK
import Derived.Test.YtcagoomibpcdlaaGreatDoorMBL
set_option maxHeartbeats 16000000
namespace Go.Proofs.YtcagoomibpcdlaaGreatDoor
open _root_.Go.Proofs.Tryz
open Go.Sx Go.Vm
attribute [local irreducible] zAO Program.underlying Ylds zBE alex zB0 zBk awp zAg zB9 zB8 zAU zBj zA6 zDJ zBl zBn zBC zBq zBz zB7 zDQ zBm zBc zBe JFit
theorem zWe{C:Ctx}{Q:Exit->Sl->List Ob->Prop}{σ:Sl}{η:List Ob}{id:Nat}{o:Array Oper}(h:Stop (awp C (.region id o true) Q σ η)): awp C (.region id o true) Q σ η:=by
 unfold Stop at h;exact h
theorem zZq(m:Img)(c:CK){k a b:Int}{s:CS}(hd:DoAt m c k ⟨14,a,b⟩ s)(ht:s.tries=[]): DoTo m c { c with bad:=true } k:=by
 have hCl:=zNE s.tries (by rw[ht];simp)
 have ht0:¬(s.tries.length:Int)>0:=by rw[ht];simp
 refine zDC func74 rfl ntmps74 results74 rfl ?_
 intro wb St0 X fx
 refine zCv m c hd wb St0 X fx _ ?_
 obtain⟨hk0,hat0,hst0,hbig,hlen,hh,htr,ha,hb,_⟩:=hd
 have hr0:=(qAA.1 hst0).1
 have hk1:k<(c.at_.length:Int):=by omega
 dsimp only at ha hb
 clear hat0 hst0
 conv=>arg 2;whnf
 repeat' first|apply en_n|apply zAG|apply zAA|apply zAD|apply w0|(refine zAd zEV hCl (CoLA rfl))|exact zAL rfl|(apply zAE;exact rfl;(first|with_reducible exact zAP|with_reducible exact zAt|with_reducible exact zA1|with_reducible exact zAx|with_reducible exact zAa|with_reducible exact zBB|with_reducible exact zAb);exact rfl;exact rfl)|(apply zAj;exact rfl;exact rfl;exact rfl;(first|with_reducible exact zAP|with_reducible exact zAb|with_reducible exact zAt);exact rfl;exact rfl;exact rfl;exact rfl)|exact zDx rfl rfl|exact zAi rfl rfl|exact zAn rfl rfl|apply ay (hd:=rfl)|exact zAB rfl|exact zBD rfl zCP|(apply zAC;exact rfl;(with_reducible first|exact zBv|exact zC6))|(refine w0' ?_)|refine zAI rfl ?_|refine zAJ rfl ?_|apply zAK|apply eb_n
 all_goals first|omega|skip
 all_goals exact zBP rfl
theorem za0(m:Img)(c c':CK){k a b:Int}{s:CS}(hd:DoAt m c k ⟨14,a,b⟩ s)(ht:s.tries≠[])(hS:zEL m c c' { s with tries:=s.tries.dropLast } true 0 0 0 true (.d (zBW [k+1]))): DoTo m c c' k:=by
 have hCl:=zNE s.tries hd.tr
 have hpos:=qBe.2 ht
 have ht0:(s.tries.length:Int)>0:=by omega
 refine zDC func74 rfl ntmps74 results74 rfl ?_
 intro wb St0 X fx
 refine zCv m c hd wb St0 X fx _ ?_
 obtain⟨hk0,hat0,hst0,hbig,hlen,hh,htr,ha,hb,_⟩:=hd
 have hr0:=(qAA.1 hst0).1
 have hk1:k<(c.at_.length:Int):=by omega
 dsimp only at ha hb
 clear hat0 hst0
 conv=>arg 2;whnf
 repeat' first|(refine zEd (id:=39) ?_)|apply en_n|apply zAG|apply zAA|apply zAD|apply w0|(refine zAd zEV hCl (CoLA rfl))|(apply zAE;exact rfl;(first|with_reducible exact zAP|with_reducible exact zAt|with_reducible exact zA1|with_reducible exact zAx|with_reducible exact zAa|with_reducible exact zBB|with_reducible exact zAb);exact rfl;exact rfl)|(apply zAj;exact rfl;exact rfl;exact rfl;(first|with_reducible exact zAP|with_reducible exact zAb|with_reducible exact zAt);exact rfl;exact rfl;exact rfl;exact rfl)|exact zEr rfl rfl|exact zAi rfl rfl|exact zAn rfl rfl|apply ay (hd:=rfl)|exact zAB rfl|exact zBD rfl zCP|exact zAC rfl zBv|(refine w0' ?_)|refine zAI rfl ?_|refine zAJ rfl ?_|apply zAK
 all_goals first|omega|skip
 refine Stop.go ?_
 have hdl:s.tries.take ((s.tries.length:Int)-1).toNat=s.tries.dropLast:=by rw[qBY];congr 1;omega
 repeat' first|(refine zFZ (id:=40) (s:=[(1,.d (i64 k)),(5,.ptr 6 0),(6,.ptr 7 0),(8,.clo 120 [6,7,4])]) (h:=CA fx m c++[.box [.ptr 0 0],.box [.d (i64 14),.d (i64 a),.d (i64 b)],.box [.d (i64 s.of),.d (i64 s.height),.d (zBW s.tries.dropLast),.d (bl true)],.box [.d (i64 0)]]) (zAS (Le_all rfl) (zAN rfl rfl (zAN rfl rfl (zAN rfl rfl (zAN rfl rfl (zAN rfl rfl (zAN rfl rfl (zAN rfl (by rw[<-hdl];rfl) (zAN rfl rfl zAs)))))))) rfl rfl) ?_)|apply en_n|apply zAG|apply zAA|apply zAD|apply w0|(refine zV5 (L:=s.tries) (enc:=ival) (zCQ rfl) zA5 rfl (fun _=>rfl) ?_)|(refine zCC zA0 zA5 zCL rfl rfl (zAY rfl zAM) rfl)|(refine zCs [0,1,2,3,6,7,4] [4,5,6] rfl rfl zAq (hS) rfl (SArgs_all rfl) rfl rfl (by decide) rfl rfl rfl rfl rfl rfl ?_)|(apply zAE;exact rfl;(first|with_reducible exact zAP|with_reducible exact zAt|with_reducible exact zA1|with_reducible exact zAx|with_reducible exact zAa|with_reducible exact zBB|with_reducible exact zAb);exact rfl;exact rfl)|(apply zAj;exact rfl;exact rfl;exact rfl;(first|with_reducible exact zAP|with_reducible exact zAb|with_reducible exact zAt);exact rfl;exact rfl;exact rfl;exact rfl)|apply ay (hd:=rfl)|exact zAF rfl|exact zBD rfl zCP|refine zBG rfl rfl ?_|refine zC2 rfl rfl ?_|exact zAh rfl|exact zAC rfl zBv|(refine w0' ?_)|apply eb_n
 all_goals first|omega|skip
 all_goals exact zBP rfl
theorem zaw(m:Img)(c c1 c':CK){k a b:Int}{s:CS}(hd:DoAt m c k ⟨18,a,b⟩ s)(hS:zEL m c c1 s true (flo s) b 1 true (.d (zBW [k+1])))(hB:zN3 m c1 c' a b): DoTo m c c' k:=by
 refine zDC func74 rfl ntmps74 results74 rfl ?_
 intro wb St0 X fx
 refine zCv m c hd wb St0 X fx _ ?_
 obtain⟨hk0,hat0,hst0,hbig,hlen,hh,htr,ha,hb,_⟩:=hd
 have hr0:=(qAA.1 hst0).1
 have hk1:k<(c.at_.length:Int):=by omega
 dsimp only at ha hb
 clear hat0 hst0
 conv=>arg 2;whnf
 repeat' first|(refine zFZ (id:=51) (s:=[(2,.ptr 4 0),(4,.ptr 5 0)]) (h:=CA fx m c1++doB 18 a b s) (zAS (Le_all rfl) (zBF _) rfl rfl) ?_)|apply en_n|apply zAG|apply zAA|apply zAD|apply w0|(refine aCK (r:=c1) (tl:=doB 18 a b s) (tl':=doB 18 a b s) zNk hB (SArgs_all rfl) rfl rfl rfl rfl ?_)|(refine zCC zA0 zA5 zCL rfl rfl (zAY rfl zAM) rfl)|(refine zCs [0,1,2,3,6,7,4] [4,5,6] rfl rfl zAq (hS) rfl (SArgs_all rfl) rfl rfl (by decide) rfl rfl rfl rfl rfl rfl ?_)|(apply zAE;exact rfl;(first|with_reducible exact zAP|with_reducible exact zAt|with_reducible exact zA1|with_reducible exact zAx|with_reducible exact zAa|with_reducible exact zBB|with_reducible exact zAb);exact rfl;exact rfl)|exact zAi rfl rfl|exact zAn rfl rfl|apply ay (hd:=rfl)|exact zAF rfl|exact zAB rfl|refine zBG rfl rfl ?_|exact zAh rfl|(apply zAC;exact rfl;(with_reducible first|exact zAl|exact zCE))|refine zAI rfl ?_|refine zAJ rfl ?_|apply zAK|apply eb_n
 all_goals first|omega|skip
 all_goals exact zBP rfl
theorem zax(m:Img)(c c1 c':CK){k a b:Int}{s:CS}(hd:DoAt m c k ⟨17,a,b⟩ s)(hS:zEL m c c1 s true (flo s) 0 1 true (.d (zBW [a])))(hC:zIE m c1 c' (k+1) ⟨s.of,s.height,s.tries++[s.height]⟩): DoTo m c c' k:=by
 have hCl:=CloneI_row s.tries hd.tr
 refine zDC func74 rfl ntmps74 results74 rfl ?_
 intro wb St0 X fx
 refine zCv m c hd wb St0 X fx _ ?_
 obtain⟨hk0,hat0,hst0,hbig,hlen,hh,htr,ha,hb,_⟩:=hd
 have hr0:=(qAA.1 hst0).1
 have hk1:k<(c.at_.length:Int):=by omega
 dsimp only at ha hb
 clear hat0 hst0
 conv=>arg 2;whnf
 have hk2:-9223372036854775808<=k+1/\k+1<=9223372036854775807:=by omega
 repeat' first|(refine zWe (id:=48) ?_)|apply en_n|apply zAG|apply zAA|apply zAD|apply w0|(refine zCC zA0 zA5 zCL rfl rfl (zAY rfl zAM) rfl)|(refine zCs [0,1,2,3,6,7,4] [4,5,6] rfl rfl zAq (hS) rfl (SArgs_all rfl) rfl rfl (by decide) rfl rfl rfl rfl rfl rfl ?_)|(apply zAE;exact rfl;(first|with_reducible exact zAP|with_reducible exact zAt|with_reducible exact zA1|with_reducible exact zAx|with_reducible exact zAa|with_reducible exact zBB|with_reducible exact zAb);exact rfl;exact rfl)|exact zAi rfl rfl|exact zAn rfl rfl|apply ay (hd:=rfl)|exact zAB rfl|exact zAh rfl|exact zAC rfl zAl|refine zAI rfl ?_|refine zAJ rfl ?_|apply zAK
 all_goals first|omega|skip
 refine Stop.go ?_
 refine zCI (s:=[(1,.d (i64 k)),(2,.ptr 4 0),(4,.ptr 5 0),(5,.ptr 6 0)]) (h:=CA fx m c1++doB 17 a b s) (zAS (Le_all rfl) (zBF _) rfl rfl) ?_
 have hη2:((zFI 8 (CA fx m c1++doB 17 a b s++[.buf true 3 1 (s.tries.map ival)])).set 8 (.buf true 3 1 (s.tries.map ival++[i64 s.height]))).set 8 (.buf false 3 1 (s.tries.map ival++[i64 s.height]))=CA fx m c1++doB 17 a b s++[.buf false 3 1 (s.tries.map ival++[i64 s.height])]:=rfl
 have hG2:∀(τ:Sl) (t:Nat),get ((267,.d (zBW (s.tries++[s.height])))::(267,.buf 8 (s.tries.length+1))::zFP 8 τ) t=get ((267,FF (zXb 8) 2 (.d (zBW (s.tries++[s.height]))))::zXa 8 1 τ) t:=fun τ t=>by
  rw[zBi,zBi,zBi]
  by_cases h:267=t
  ·rw[if_pos h,if_pos h];rfl
  ·rw[if_neg h,if_neg h,if_neg h];rfl
 refine zSj [.ptr 0 0,.d (i64 k),.d (i64 (k+1)),.ptr 6 (0+0),.d (i64 s.of),.ptr 6 (0+1),.d (i64 s.height),.ptr 6 (0+2),.d (zBW s.tries),.buf 8 s.tries.length,.ptr 6 (0+1),.d (i64 s.height),.d (.slice [i64 s.height]),.d (zBW (s.tries++[s.height])),.d (.agg [i64 s.of,i64 s.height,zBW (s.tries++[s.height]),bl false])] [9,13] [CA fx m c1++doB 17 a b s,CA fx m c1++doB 17 a b s++[.buf true 3 1 (s.tries.map ival)],CA fx m c1++doB 17 a b s++[.buf false 3 1 (s.tries.map ival++[i64 s.height])]] (zXb 8) (zXa 8) (by kernel_rfl) (by kernel_rfl) (by kernel_rfl) (.inr (by kernel_rfl)) (by kernel_rfl) (by kernel_rfl) rfl rfl (zZb 8) ?_ ?_
 ·refine zEQ 0 rfl rfl rfl rfl rfl (by decide +kernel) (fun _=>zAE rfl zA1 rfl rfl) (fun _=>zAE rfl zA1 rfl rfl) (zAE rfl zA1 rfl rfl) ?_
  refine zEQ 0 rfl rfl rfl rfl rfl (by decide +kernel) (fun _=>zAF rfl) (fun _=>zAF rfl) (zAF rfl) ?_
  refine zEQ 0 rfl rfl rfl rfl rfl (by decide +kernel) (fun _=>zBG rfl rfl hk2) (fun _=>zBG rfl rfl hk2) (zBG rfl rfl hk2) ?_
  refine zEQ 0 rfl rfl rfl rfl rfl (by decide +kernel) (fun _=>zAC rfl zC7) (fun _=>zAC rfl zC7) (zAC rfl zC7) ?_
  refine zEQ 0 rfl rfl rfl rfl rfl (by decide +kernel) (fun _=>zAE rfl zAP rfl rfl) (fun _=>zAE rfl zAP rfl rfl) (zAE rfl zAP rfl rfl) ?_
  refine zEQ 0 rfl rfl rfl rfl rfl (by decide +kernel) (fun _=>zAC rfl zCA) (fun _=>zAC rfl zCA) (zAC rfl zCA) ?_
  refine zEQ 0 rfl rfl rfl rfl rfl (by decide +kernel) (fun _=>zAE rfl zAP rfl rfl) (fun _=>zAE rfl zAP rfl rfl) (zAE rfl zAP rfl rfl) ?_
  refine zEQ 0 rfl rfl rfl rfl rfl (by decide +kernel) (fun _=>zAC rfl zBv) (fun _=>zAC rfl zBv) (zAC rfl zBv) ?_
  refine zEQ 0 rfl rfl rfl rfl rfl (by decide +kernel) (fun _=>zAE rfl zAt rfl rfl) (fun _=>zAE rfl zAt rfl rfl) (zAE rfl zAt rfl rfl) ?_
  refine zVh 0 263 rfl rfl rfl rfl ?_ ?_
  ·intro τ hτ
   have h262:get τ 262=.d (zBW s.tries):=(hτ 262 (by decide +kernel)).trans rfl
   refine EStep.of (ops:=#[]) ?_
   refine zV3 [] zEV hCl ?_ rfl rfl (by decide) rfl rfl rfl rfl rfl ?_
   ·exact SArgs_cons h262 SArgs_nil
   ·exact zAD ⟨fun t=>rfl,rfl⟩
  refine zEQ 0 rfl rfl rfl rfl rfl (by decide +kernel) (fun _=>zAC rfl zCA) (fun _=>zAC rfl zCA) (zAC rfl zCA) ?_
  refine zEQ 0 rfl rfl rfl rfl rfl (by decide +kernel) (fun _=>zAE rfl zAP rfl rfl) (fun _=>zAE rfl zAP rfl rfl) (zAE rfl zAP rfl rfl) ?_
  refine zEQ 0 rfl rfl rfl rfl rfl (by decide +kernel) (fun _=>zCC zA0 zA5 zCL rfl rfl (zAY rfl zAM) rfl) (fun _=>zCC zA0 zA5 zCL rfl rfl (zAY rfl zAM) rfl) (zCC zA0 zA5 zCL rfl rfl (zAY rfl zAM) rfl) ?_
  refine zVh 1 267 rfl rfl rfl rfl ?_ ?_
  ·intro τ hτ
   have h263:get τ 263=.buf 8 s.tries.length:=(hτ 263 (by decide +kernel)).trans rfl
   have h266:get τ 266=.d (.slice [i64 s.height]):=(hτ 266 (by decide +kernel)).trans rfl
   refine EStep.of (ops:=#[]) ?_
   refine aApp (id:=8) (n:=s.tries.length) (m:=1) (ys:=[i64 s.height]) (mu:=true) (xs:=s.tries.map ival) h263 rfl (zCQ h266) (qAC _).symm rfl zA0 zA5 zHD zFl rfl rfl (fun d hd=>by rw[qAO]at hd;subst hd;rfl) (by omega) ?_
   refine zNy 8 rfl rfl rfl ?_
   refine zQU 267 (d:=zBW (s.tries++[s.height])) rfl ?_ ?_
   ·rw[show zBW (s.tries++[s.height])=.slice (s.tries.map ival++[i64 s.height])from by unfold zBW;rw[qAl];rfl]
    exact zF3 rfl (by rw[qAD,qAC];rfl)
   ·exact zAD ⟨fun t=>hG2 τ t,hη2⟩
  refine zEQ 2 rfl rfl rfl rfl rfl (by decide +kernel) (fun h=>absurd h (by decide)) (fun h=>absurd h (by decide)) (zBr (cs:=[i64 s.of,i64 s.height,zBW (s.tries++[s.height]),bl false]) zGq zEv (PD_d rfl rfl (PD_d rfl rfl (PD_d rfl rfl zCi))) rfl) ?_
  exact zT0
 ·skip
  repeat' first|apply zAD|apply w0|(refine zBs (by kernel_rfl) ?_;refine aCK (r:=c1) (tl:=doB 17 a b s++[.buf false 3 1 (s.tries.map ival++[i64 s.height])]) (tl':=doB 17 a b s++[.buf false 3 1 (s.tries.map ival++[i64 s.height])]) zFx hC (SArgs_all rfl) rfl rfl rfl rfl ?_)|apply eb_n
  all_goals exact zBP rfl
end Go.Proofs.YtcagoomibpcdlaaGreatDoor
namespace Go.Proofs.YtcagoomibpcdlaaGreatDoor
open Go.Sx Go.Vm
variable {m:Img}
theorem zST(him:ImgOk m){c:CK}(hc:CInv m c)(hb:CB c){k:Int}(hk:0<=k)(s:CS): zIE m c (c.come k s) k s:=by
 have h1:=zKp c
 have h2:=hc.len
 have h3:=him.code
 have h4:=hb.wrk
 exact zX4 m c k s hk hc (by omega) (by omega) fun q x hq=>by have:=(hb.hgt q x hq).2;omega
theorem zX3(him:ImgOk m){s:CS}{c:CK}(hc:CInv m c)(hb:CB c){l:List Int}(h0:∀t∈l,0<=t)(hs:s.of = -1\/(0<=s.of/\0<getI c.has s.of))(ht:TrOk (fullV c s))(h1:s.height<=cnt c+1)(h2:s.tries.length<=cnt c+1):
  ∀i t,l[i]?=some t->zIE m ((l.take i).foldl (fun c t=>c.come t s) c) ((l.take (i+1)).foldl (fun c t=>c.come t s) c) t s:=by
 intro i t hi
 have hm:=qAH hi
 have hlt:=(qAA.1 hi).1
 have e:l.take (i+1)=l.take i++[t]:=by
  rw[List.take_succ_eq_append_getElem hlt,(qAA.1 hi).2]
 rw[e,List.foldl_append,List.foldl_cons,List.foldl_nil]
 obtain⟨_,c2,_⟩:=zJ4 (l.take i) hc (fun t ht=>h0 t (qAY ht)) hs ht
 obtain⟨b2,_⟩:=zLc (s:=s) (l.take i) hb h1 h2
 exact zST him c2 b2 (h0 t hm) s
theorem zQ2(him:ImgOk m){c:CK}(hc:CInv m c)(hb:CB c){s:CS}(b:Bool){fl takes puts:Int}{holds:Bool}{l:List Int}(h0:∀t∈l,0<=t)(hl:l.length<=1000)(hs:s.of = -1\/(0<=s.of/\0<getI c.has s.of))(ht:TrOk (fullV c s))(hf:zA4 (fullV c s)<=fl\/zA4 (fullV c s)<=s.height-takes)
  (htk:0<=takes/\takes<=1048577) (hp:0<=puts/\puts<=1) (hg:s.height<=cnt c/\s.tries.length<=cnt c):zEL m c (c.stepC s fl takes puts holds l) s b fl takes puts holds (.d (zBW l)):=by
 have q1:=zKp c
 have q2:=hc.len
 have q3:=him.code
 have q4:0<=s.height:=ht.nn
 unfold CK.stepC
 cases holds with
 |false=>exact zOE m c s b fl takes puts _
 |true =>
  by_cases h:s.height-takes<fl
  ·rw[if_pos (by simp[h])]
   exact zLy m c s b fl takes puts _ h ⟨q4,by omega,by omega,by omega⟩
  ·rw[if_neg (by simp[h])]
   have htr:TrOk (fullV c ⟨s.of,s.height-takes+puts,s.tries⟩):=ht.tw (h:=s.height-takes+puts) (by rcases hf with h|h <;> omega)
   have hC:=zX3 him (s:=⟨s.of,s.height-takes+puts,s.tries⟩) hc hb h0 hs htr (by show s.height-takes+puts<=_;omega) (by show s.tries.length<=_;omega)
   have:=zTp m s b fl takes puts l (fun i=>(l.take i).foldl (fun c t=>c.come t ⟨s.of,s.height-takes+puts,s.tries⟩) c) h ⟨q4,by omega,by omega,by omega,by omega,by omega⟩ hl hC
   rw[qA8]at this
   exact this
theorem zWv(him:ImgOk m){c:CK}(hc:CInv m c)(_hb:CB c){s:CS}(b:Bool){fl takes puts:Int}{holds:Bool}(ht:TrOk (fullV c s))(htk:0<=takes/\takes<=1048577)(hp:0<=puts/\puts<=1)(hg:s.height<=cnt c): zEL m c (c.stepC s fl takes puts holds []) s b fl takes puts holds .nil:=by
 have q1:=zKp c
 have q2:=hc.len
 have q3:=him.code
 have q4:0<=s.height:=ht.nn
 unfold CK.stepC
 cases holds with
 |false=>exact zOE m c s b fl takes puts _
 |true =>
  by_cases h:s.height-takes<fl
  ·rw[if_pos (by simp[h])]
   exact zLy m c s b fl takes puts _ h ⟨q4,by omega,by omega,by omega⟩
  ·rw[if_neg (by simp[h])]
   exact zQ0 m s b fl takes puts c h ⟨q4,by omega,by omega,by omega,by omega,by omega⟩
theorem zYA(him:ImgOk m){c:CK}(hc:CInv m c)(hb:CB c){k n:Int}(hk:0<=k)(hn:0<=n/\n<=1048576): zN3 m c (c.begin k n) k n:=by
 refine zU9 m c k n hn ?_
 have h1:=zKp c
 have h2:=hc.len
 have h3:=him.code
 have h4:=hb.wrk
 have hl:=hc.len
 have ek:k=(k.toNat:Int):=(qAy hk).symm
 unfold CK.come
 dsimp only
 cases h:c.at_[k.toNat]? with
 |none =>
  have:=qBR.1 h
  exact zO4 m _ k _ (by omega)
 |some o =>
  cases o with
  |none =>
   have:=zO6 m { c with has:=putI c.has k (n+1) } k.toNat ⟨k,1,[]⟩ hl h (by show c.work.length<=_;omega) (by omega)
   rw[<-ek]at this;exact this
  |some s' =>
   have:=zO5 m { c with has:=putI c.has k (n+1) } k.toNat ⟨k,1,[]⟩ s' hl h (by have:=(hb.hgt _ _ h).2;omega) (by omega)
   rw[<-ek]at this;exact this
end Go.Proofs.YtcagoomibpcdlaaGreatDoor
namespace Go.Proofs.YtcagoomibpcdlaaGreatDoor
open Go.Sx Go.Vm
variable {m:Img}
theorem do_m(him:ImgOk m){c:CK}(hc:CInv m c)(hb:CB c){k:Int}{s:CS}(hk:0<=k)(hat:c.at_[k.toNat]?=some (some s)): DoTo m c (c.doC conF m k s) k:=by
 have hs:=hc.of _ _ hat
 have ht:=hc.tr _ _ hat
 have hlt:=zIg hc hat
 have hgt:=hb.hgt _ _ hat
 have q1:=zKp c
 have q2:=hc.len
 have q3:=him.code
 have hnn:0<=s.height:=ht.nn
 obtain⟨i,hi⟩:∃i,m.code[k.toNat]?=some i:=⟨_,qAB hlt⟩
 have hg:m.code.getD k.toNat default=i:=by rw[qAE,hi];rfl
 obtain⟨o0,o20,a0,a1,b0,b1,hgo⟩:=him.ins i (qAH hi)
 have hd:DoAt m c k i s:=⟨hk,hi,hat,by omega,q2,⟨hnn,by omega⟩,by omega,⟨a0,a1⟩,⟨b0,b1⟩,rfl⟩
 obtain⟨op,a,b⟩:=i
 dsimp only at *
 have hof:decide ((fullV c s).of>=0) = !decide (s.of = -1):=by
  show decide (s.of>=0)=_
  by_cases h:s.of = -1
  ·rw[decide_eq_true h,decide_eq_false (by omega)];rfl
  ·rw[decide_eq_false h,decide_eq_true (by omega)];rfl
 have hte:(fullV c s).tries.isEmpty=decide ((s.tries.length:Int)=0):=by
  show s.tries.isEmpty=_
  cases s.tries with
  |nil=>rfl
  |cons x r=>exact(decide_eq_false (by simp;omega)).symm
 have hS:∀(takes puts:Int) (holds:Bool) (l:List Int),(∀t∈l,0<=t)->l.length<=1000->0<=takes->takes<=1048577->0<=puts->puts<=1->zEL m c (c.stepC s (zA4 (fullV c s)) takes puts holds l) s true (flo s) takes puts holds (.d (zBW l)) :=
  fun takes puts holds l h0 hl g0' g1' g2' g3'=>zQ2 him hc hb true h0 hl hs ht (.inl (qBG _)) ⟨g0',g1'⟩ ⟨g2',g3'⟩ hgt
 have hN:∀(takes puts:Int) (holds:Bool),0<=takes->takes<=1048577->0<=puts->puts<=1->zEL m c (c.stepC s (zA4 (fullV c s)) takes puts holds []) s true (flo s) takes puts holds .nil :=
  fun takes puts holds g0' g1' g2' g3'=>zWv him hc hb true ht ⟨g0',g1'⟩ ⟨g2',g3'⟩ hgt.1
 have m1:∀t∈[k+1],0<=t:=fun t ht=>by rw[qAO]at ht;omega
 have m2:∀t∈[a,k+1],0<=t:=fun t ht=>by simp at ht;omega
 have ma:∀t∈[a],0<=t:=fun t ht=>by rw[qAO]at ht;omega
 unfold CK.doC
 dsimp only
 rw[hg]
 dsimp only
 by_cases c14:op=14
 ·subst c14
  rw[if_pos rfl]
  by_cases he:s.tries=[]
  ·rw[if_pos (by rw[he];rfl)]
   exact zZq m c hd he
  ·rw[if_neg (by cases hq:s.tries with|nil=>exact absurd hq he|cons x r=>simp)]
   have ht':TrOk (fullV c { s with tries:=s.tries.dropLast }):=⟨ht.pw.sublist (List.dropLast_sublist _),fun x hx=>ht.le x (qBT _ hx),ht.nn⟩
   have hf':zA4 (fullV c { s with tries:=s.tries.dropLast })<=s.height-0:=by
    cases hq:s.tries.dropLast.getLast? with
    |none =>have:zA4 (fullV c { s with tries:=s.tries.dropLast })=0:=by unfold zA4;show (s.tries.dropLast.getLast?).getD 0=0;rw[hq];rfl
            omega
    |some x=>rw[zD9 (v:=fullV c { s with tries:=s.tries.dropLast }) (h:=x) hq];have:=(ht'.le x (qBU hq)).2;show x<=s.height-0;change x<=s.height at this;omega
   exact za0 m c _ hd he (zQ2 him hc hb true m1 (by simp) hs ht' (.inr hf') (by omega) (by omega) ⟨hgt.1,by show s.tries.dropLast.length<=_;rw[qAv];omega⟩)
 rw[if_neg c14]
 by_cases c17:op=17
 ·subst c17
  rw[if_pos rfl]
  have hst:=hS 0 1 true [a] ma (by simp) (by omega) (by omega) (by omega) (by omega)
  have x2:CInv m (c.stepC s (zA4 (fullV c s)) 0 1 true [a]):=zLz hc [a] ma hs ht (.inl (qBG _)) (by decide)
  obtain⟨y1,y2⟩:=zGw hb (s:=s) (fl:=zA4 (fullV c s)) (a:=0) (b:=1) (h:=true) (l:=[a]) (by omega) (by omega)
  exact zax m c _ _ hd hst (zST him x2 y1 (by omega) _)
 rw[if_neg c17]
 by_cases c18:op=18
 ·subst c18
  rw[if_pos rfl]
  have hst:=hS b 1 true [k+1] m1 (by simp) b0 (by omega) (by omega) (by omega)
  have x2:CInv m (c.stepC s (zA4 (fullV c s)) b 1 true [k+1]):=zLz hc [k+1] m1 hs ht (.inl (qBG _)) (by decide)
  obtain⟨y1,y2⟩:=zGw hb (s:=s) (fl:=zA4 (fullV c s)) (a:=b) (b:=1) (h:=true) (l:=[k+1]) (by omega) (by omega)
  exact zaw m c _ _ hd hst (zYA him x2 y1 a0 ⟨b0,b1⟩)
 rw[if_neg c18]
 have hop:op=0\/op=1\/op=2\/op=3\/op=4\/op=5\/op=6\/op=7\/op=8\/op=9\/op=10\/op=11\/op=12\/op=13\/op=15\/op=16\/op=19\/op=20:=by omega
 rcases hop with rfl|rfl|rfl|rfl|rfl|rfl|rfl|rfl|rfl|rfl|rfl|rfl|rfl|rfl|rfl|rfl|rfl|rfl
 ·have e:eff conF m ⟨0,a,b⟩ (fullV c s)=⟨1,0, !decide ((fullV c s).of>=0)&&(fullV c s).tries.isEmpty,false,false⟩:=by simp[eff]
  rw[e,hof,hte,Bool.not_not]
  exact do_0 m c _ hd (hN 1 0 _ (by omega) (by omega) (by omega) (by omega))
 ·have e:eff conF m ⟨1,a,b⟩ (fullV c s)=⟨0,1,decide (a<m.pool.length),true,false⟩:=by simp[eff]
  rw[e]
  exact do_1 m c _ hd (hS 0 1 _ [k+1] m1 (by simp) (by omega) (by omega) (by omega) (by omega))
 ·have e:eff conF m ⟨2,a,b⟩ (fullV c s)=⟨0,1,decide (a<(fullV c s).height),true,false⟩:=by simp[eff]
  rw[e]
  exact do_2 m c _ hd (hS 0 1 _ [k+1] m1 (by simp) (by omega) (by omega) (by omega) (by omega))
 ·have e:eff conF m ⟨3,a,b⟩ (fullV c s)=⟨0,1,decide ((fullV c s).of>=0)&&decide (a<(fullV c s).has),true,false⟩:=by simp[eff]
  have e2:(decide ((fullV c s).of>=0)&&decide (a<(fullV c s).has))=(!decide (s.of = -1)&&decide (a<getI c.has s.of-1)):=by
   rw[hof]
   by_cases h:s.of = -1
   ·rw[decide_eq_true h];rfl
   ·show (_&&decide (a<if s.of = -1 then 0 else getI c.has s.of-1))=_
    rw[if_neg h]
  rw[e,e2]
  have hgi:0<=getI c.has s.of/\getI c.has s.of<=2000000:=by
   have:=hb.has s.of
   by_cases h0:getI c.has s.of=0
   ·omega
   ·have:=hc.has _ h0;omega
  exact do_3 m c _ hd hgi (hS 0 1 _ [k+1] m1 (by simp) (by omega) (by omega) (by omega) (by omega))
 ·have e:eff conF m ⟨4,a,b⟩ (fullV c s)=⟨0,1,decide ((fullV c s).of>=0),true,false⟩:=by simp[eff]
  have e2:decide ((fullV c s).of>=0)=decide (s.of≠-1):=by rw[hof];by_cases h:s.of = -1 <;> simp[h]
  rw[e,e2]
  exact do_4 m c _ hd (hS 0 1 _ [k+1] m1 (by simp) (by omega) (by omega) (by omega) (by omega))
 ·have e:eff conF m ⟨5,a,b⟩ (fullV c s)=⟨a,0,true,true,false⟩:=by simp[eff]
  rw[e]
  exact do_5 m c _ hd (hS a 0 _ [k+1] m1 (by simp) (by omega) (by omega) (by omega) (by omega))
 ·have e:eff conF m ⟨6,a,b⟩ (fullV c s)=⟨a+1,1,true,true,false⟩:=by simp[eff]
  rw[e]
  exact do_6 m c _ hd (hS (a+1) 1 _ [k+1] m1 (by simp) (by omega) (by omega) (by omega) (by omega))
 ·have e:eff conF m ⟨7,a,b⟩ (fullV c s)=⟨2,1,true,true,false⟩:=by simp[eff]
  rw[e]
  exact do_7 m c _ hd (hS 2 1 _ [k+1] m1 (by simp) (by omega) (by omega) (by omega) (by omega))
 ·have e:eff conF m ⟨8,a,b⟩ (fullV c s)=⟨2,0,decide ((fullV c s).of>=0)&&(fullV c s).tries.isEmpty,false,false⟩:=by simp[eff]
  rw[e,hof,hte]
  exact do_8 m c _ hd (hN 2 0 _ (by omega) (by omega) (by omega) (by omega))
 ·have e:eff conF m ⟨9,a,b⟩ (fullV c s)=⟨1,0,decide ((fullV c s).of>=0)&&(fullV c s).tries.isEmpty,false,false⟩:=by simp[eff]
  rw[e,hof,hte]
  exact do_9 m c _ hd (hN 1 0 _ (by omega) (by omega) (by omega) (by omega))
 ·have e:eff conF m ⟨10,a,b⟩ (fullV c s)=⟨b,1,zFk conF m a&&decide (b<=8),true,false⟩:=by simp[eff]
  rw[e]
  exact za4 m c _ hd (zVv m c a a0) (hS b 1 _ [k+1] m1 (by simp) (by omega) (by omega) (by omega) (by omega))
 ·have e:eff conF m ⟨11,a,b⟩ (fullV c s)=⟨1,1,decide (a<=7),true,false⟩:=by simp[eff]
  have e2:decide (a<=7)=decide (a<8):=decide_eq_decide.2 (by omega)
  rw[e,e2]
  exact za3 m c _ hd (hS 1 1 _ [k+1] m1 (by simp) (by omega) (by omega) (by omega) (by omega))
 ·have e:eff conF m ⟨12,a,b⟩ (fullV c s)=⟨takes a,1,decide (a<=13),true,false⟩:=by simp[eff]
  have e2:decide (a<=13)=decide (takes a>0):=decide_eq_decide.2 (by unfold takes;split <;> (try split) <;> omega)
  have e3:0<=takes a/\takes a<=2:=by unfold takes;split <;> (try split) <;> omega
  rw[e,e2]
  exact za2 m c _ hd (hS (takes a) 1 _ [k+1] m1 (by simp) (by omega) (by omega) (by omega) (by omega))
 ·have e:eff conF m ⟨13,a,b⟩ (fullV c s)=⟨1,0,true,false,false⟩:=by simp[eff]
  rw[e]
  exact za1 m c _ hd (hN 1 0 _ (by omega) (by omega) (by omega) (by omega))
 ·have e:eff conF m ⟨15,a,b⟩ (fullV c s)=⟨0,0,true,false,true⟩:=by simp[eff]
  rw[e]
  exact zaz m c _ hd (hS 0 0 _ [a] ma (by simp) (by omega) (by omega) (by omega) (by omega))
 ·have e:eff conF m ⟨16,a,b⟩ (fullV c s)=⟨1,0,true,true,true⟩:=by simp[eff]
  rw[e]
  exact zay m c _ hd (hS 1 0 _ [a,k+1] m2 (by simp) (by omega) (by omega) (by omega) (by omega))
 ·have e:eff conF m ⟨19,a,b⟩ (fullV c s)=⟨0,0,decide ((fullV c s).height>=1)&&zFk conF m b,true,true⟩:=by simp[eff]
  have e2:decide ((fullV c s).height>=1)=decide (s.height>0):=decide_eq_decide.2 (by show s.height>=1↔_;omega)
  rw[e,e2]
  exact zav m c _ hd (zVv m c b b0) (hS 0 0 _ [a,k+1] m2 (by simp) (by omega) (by omega) (by omega) (by omega))
 ·have e:eff conF m ⟨20,a,b⟩ (fullV c s)=⟨0,0,decide ((fullV c s).height>=1)&&zHu m b,true,true⟩:=by simp[eff]
  have e2:decide ((fullV c s).height>=1)=decide (s.height>0):=decide_eq_decide.2 (by show s.height>=1↔_;omega)
  rw[e,e2]
  exact zau m c _ hd (zZW m c b b0) (hS 0 0 _ [a,k+1] m2 (by simp) (by omega) (by omega) (by omega) (by omega))
end Go.Proofs.YtcagoomibpcdlaaGreatDoor

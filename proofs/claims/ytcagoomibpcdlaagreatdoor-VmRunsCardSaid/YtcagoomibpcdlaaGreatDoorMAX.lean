import Derived.Test.YtcagoomibpcdlaaGreatDoorMAW
set_option maxHeartbeats 16000000
namespace Go.Proofs.YtcagoomibpcdlaaGreatDoor
section
open _root_.Go.Proofs.Tryz
open Go.Sx Go.Vm
theorem zGa: zCj prog 49=some [(0,1),(1,1),(2,1),(3,1)]:=by kernel_rfl
def nnD(n:Nn): D:=.agg [i64 n.kind,str n.text,i64 n.num,i64 n.kids]
abbrev nnC(n:Nn): List D:=[i64 n.kind,str n.text,i64 n.num,i64 n.kids]
abbrev MXr(m:Img)(r:Raw)(xs:List D): List Ob:=MX m r++[.buf true 49 4 xs]
def MAr(fx:Nat->Option Nat)(m:Img)(r:Raw)(xs:List D): List Ob:=MA fx m r++[.buf true 49 4 xs]
theorem zb6(fx:Nat->Option Nat)(m:Img)(r r':Raw)(xs ys:List D): zD6 (zFT (zB2 ids10 (MXr m r xs)) ids10 (MAr fx m r xs)) ids10 ((MXr m r' ys).map (Ob.ren ids10))=MAr fx m r' ys:=rfl
theorem zV6(fx:Nat->Option Nat)(m:Img)(r:Raw)(xs:List D): Picks (MAr fx m r xs) ids10 (MXr m r xs):=rfl
theorem zV7(fx:Nat->Option Nat)(m:Img)(r:Raw)(xs:List D): (MAr fx m r xs).all (Ob.below (MAr fx m r xs).length)=true:=rfl
theorem zOV{f:FuncId}{fn:Func}{c:Code}{avs:List SV}{m:Img}{r r':Raw}{xs ys:List D}{res:SV}{N:Nat}{rs:Array ResultVar}(hf:prog.funcs[f]?=some fn)(hb:fn.body=some c)(hN:fn.ntmps=N)(hrs:fn.results=rs)(hl:Nat.ble avs.length N=true)
  (h:∀(w0:World) (St0:Stab) (X:Nat->Prop) (fx:Nat->Option Nat),awp ⟨prog,N,w0,St0,X,0⟩ c (zBM rs res (MAr fx m r' ys)) (zHx avs 0) (MAr fx m r xs)):zAW prog f avs (MXr m r xs) res (MXr m r' ys) :=
 zEh hf hb hN hrs hl rfl rfl h
theorem zLQ{fx:Nat->Option Nat}{m:Img}{r:Raw}{xs ys:List D}{σ:Sl}{η:List Ob}{k n n':Nat}(he:η=MAr fx m r ys)(e2:xs=ys)(hs:get σ k=.buf 9 n')(en:n=n'): zBM #[.tmp k] (.buf 9 n) (MAr fx m r xs) .ret σ η:=by
 subst he e2 en;exact zDe (zAU (Le_cons hs Le_nil) (zA4 _) rfl (zV7 fx m r xs))
attribute [local irreducible] zAL Program.underlying Ylds zA2 alex zBZ zBP awp zAb zBh zBg zAW zBF zAp zCO zBG zBR zAr zBV zBY zBe zCQ zBM zA8 zBE
theorem aVMr{N d:Nat}{w0:World}{St0:Stab}{X:Nat->Prop}{ops:Array Oper}{rest:List Oper}{K:Sl->List Ob->Prop}{σ:Sl}{ty:TypeId}{pos:String}{after:Array Edge}{gd:Option (Nat×Bool)}{f:FuncId}{args:List Operand}{ts:Array TypeId}{avs:List SV}{m:Img}{r r':Raw}{xs ys:List D}{res:SV}{fx:Nat->Option Nat}
  (hb:zAL prog f=true) (hc:zAW prog f avs (MXr m r xs) res (MXr m r' ys)) (ha:SArgs σ ids10 args avs) (hd:Nat.blt d N=true) (hba:avs.all (SV.bel 10)=true)
  (h:alex ⟨prog,N,w0,St0,X,0⟩ false ops rest K ((d,res.ren ids10)::zEl (zB2 ids10 (MXr m r xs)) ids10 σ) (MAr fx m r' ys)) :
  zA2 ⟨prog,N,w0,St0,X,0⟩ false ops ⟨some d,.call ⟨.value (.func f),args.toArray,ts⟩,ty,pos,after,gd⟩ rest K σ (MAr fx m r xs):=by
 have hh:=(congrArg (alex ⟨prog,N,w0,St0,X,0⟩ false ops rest K ((d,res.ren ids10)::zEl (zB2 ids10 (MXr m r xs)) ids10 σ)) (zb6 fx m r r' xs ys)).mpr h
 refine zHi (C:=⟨prog,N,w0,St0,X,0⟩) (η:=MAr fx m r xs) ids10 hb hc ha (zV6 fx m r xs) hd zNH ?_ ?_ ?_ hba ?_ ?_ hh
 ·rfl
 ·rfl
 ·rfl
 ·rfl
 ·rfl
abbrev zJh(m:Img)(r:Raw)(l l':List Nn)(w:Nat): Prop:=zAW prog 23 [.ptr 0 0,.buf 9 l.length,.d (w64 w)] (MXr m r (l.map nnD)) (.buf 9 l'.length) (MXr m r (l'.map nnD))
theorem zTo(m:Img)(r:Raw)(w:Nat){l:List Nn}(h:4000<l.length)(hl:l.length<=4001): zJh m r l l w:=by
 have h1:(l.length:Int)>4000:=by omega
 refine zOV func23 rfl ntmps23 results23 rfl ?_
 intro wb St0 X fx
 repeat' first|apply en_n|apply zAE|apply zAA|apply zAB|apply w0|exact zFo rfl rfl|apply ay (hd:=rfl)|exact zA9 rfl|exact zAl rfl|exact zAf rfl|exact zAy rfl zDK|refine zAJ rfl ?_|apply zAM|apply en_r
 all_goals exact zLQ rfl rfl rfl rfl
theorem zWw(m:Img)(r:Raw){w:Nat}{v:Int}{l:List Nn}(h:¬4000<l.length)(hI:zAb prog 54 [w64 w] (.tup [i64 v,bl true])): zJh m r l (l++[⟨51,[],v,0⟩]) w:=by
 have h1:¬(l.length:Int)>4000:=by omega
 refine zOV func23 rfl ntmps23 results23 rfl ?_
 intro wb St0 X fx
 exact yJ
theorem zTl(m:Img)(r:Raw){w:Nat}{tag n:Int}{t:List UInt8}{l:List Nn}(h:¬4000<l.length)(hI:zAb prog 54 [w64 w] (.tup [i64 0,bl false]))(hB:BlkQ r w 4 tag n true)(hX:TxtQ r w t): zJh m r l (l++[⟨52,t,0,0⟩]) w:=by
 have h1:¬(l.length:Int)>4000:=by omega
 refine zOV func23 rfl ntmps23 results23 rfl ?_
 intro wb St0 X fx
 exact yJ
theorem zWx(m:Img)(r:Raw){w:Nat}{k tag n:Int}{l:List Nn}(h:¬4000<l.length)(hI:zAb prog 54 [w64 w] (.tup [i64 0,bl false]))(hB:BlkQ r w k tag n true)(k1:k≠4)(k2:k≠1): zJh m r l (l++[⟨54,[],0,0⟩]) w:=by
 have h1:¬(l.length:Int)>4000:=by omega
 refine zOV func23 rfl ntmps23 results23 rfl ?_
 intro wb St0 X fx
 exact yJ
abbrev zeg(r:Raw)(w k x:Nat): Prop:=zAp prog 41 [.ptr 0 0,.d (w64 w),.d (i64 (k:Int))] (HO r.size r.now r.oth r.beg) (.tup [w64 x,bl true])
theorem zWy(m:Img)(r:Raw){w:Nat}{tag:Int}{n:Nat}{b:Bool}{x:Int}{t:List UInt8}{l:List Nn}{ws:Nat->Nat}{acc:Nat->List Nn}(h:¬4000<l.length)(hI:zAb prog 54 [w64 w] (.tup [i64 0,bl false]))(hB:BlkQ r w 1 tag (n:Int) true)
  (ht:0<=tag) (_hpl:m.pool.length<=1048576) (hk:m.pool[tag.toNat]?=some ⟨b,x,t⟩) (h0:acc 0=l++[⟨53,t,0,(n:Int)⟩]) (hn:n<=4000) (hP:∀i,i<n->zeg r w i (ws i)) (hS:∀i,i<n->zJh m r (acc i) (acc (i+1)) (ws i)):zJh m r l (acc n) w:=by
 have h1:¬(l.length:Int)>4000:=by omega
 have hbd:=(qAA.1 hk).1
 have hat:=zGL (f:=enCn) hk
 refine zOV func23 rfl ntmps23 results23 rfl ?_
 intro wb St0 X fx
 repeat' first|apply en_n|apply zAE|apply zAA|apply zAB|apply w0|(apply zAG;exact rfl;(first|with_reducible exact zCC|with_reducible exact zB5);exact rfl;exact rfl)|exact ycA zEM hI|exact qcA [1,2,3,4] [] zC3 (hB)|(refine zBI (cs:=nnC ⟨53,t,0,(n:Int)⟩) zGa zHj (PD_d rfl rfl (PD_d rfl rfl (PD_d rfl rfl zCI))) rfl)|(refine zCA zDT zDW zIn rfl rfl (zAN rfl zAH) rfl)|refine aApA (id:=9) ?_ ?_|refine aJA ?_|refine ayA rfl ?_|refine ayQ rfl ?_|apply ay (hd:=rfl)|refine zAJ rfl ?_|refine zAI rfl ?_|apply zAO|apply zAP
 all_goals first|omega|(simp only[qAN,qAj];omega)|skip
 refine zBA (α:=Nat) (fun i=>i<=n) (fun i=>[(0,.ptr 0 0),(1,.buf 9 (acc i).length),(2,.d (w64 w)),(77,.d (i64 (n:Int))),(78,.d (i64 (i:Int)))]) (fun i=>MAr fx m r ((acc i).map nnD)) (fun i=>n-i) 0 (qAQ _) ?_ ?_
 ·rw[h0]
  refine zAU (Le_cons rfl (zRs rfl (by simp) (Le_all rfl))) ?_ rfl rfl
  rw[qAU]
  exact zA4 (MAr fx m r _)
 ·intro i hi
  rcases qAR i n with hlt|hge
  ·have hPi:=hP i hlt
   have hSi:=hS i hlt
   have hc:(i:Int)<n:=by omega
   repeat' first|apply en_n|apply zAE|apply zAA|apply zAB|apply w0|(apply zAG;exact rfl;(first|with_reducible exact zCC|with_reducible exact zB5);exact rfl;exact rfl)|exact qcA [1,2,3,4] [] zF8 (hPi)|(refine aVMr zHA hSi (SArgs_all rfl) rfl rfl ?_)|refine ayA rfl ?_|refine ayQ rfl ?_|apply ay (hd:=rfl)|refine zBp rfl rfl ?_|refine zAJ rfl ?_|apply zAO|apply zAP|apply eb_n
   all_goals first|omega|(simp only[qAN,qAj];omega)|skip
   refine⟨i+1,hlt,by omega,zAU (Le_cons rfl (Le_cons rfl (Le_cons rfl (Le_cons rfl (Le_d rfl (by push_cast;rfl) Le_nil))))) (zA4 _) rfl (zV7 fx m r _)⟩
  ·have e:i=n:=by omega
   subst e
   have hc:¬(i:Int)<i:=by omega
   repeat' first|apply en_n|apply zAE|apply zAA|apply zAB|apply w0|exact zBm rfl rfl|apply ay (hd:=rfl)|exact zAl rfl|exact zAf rfl|refine zAI rfl ?_|apply zAM|apply zBH|apply en_r|apply en_e|apply eb_r|apply eb_e
   all_goals first|omega|(simp only[qAN,qAj];omega)|skip
   all_goals exact zLQ rfl rfl rfl rfl
end
section
open _root_.Go.Proofs.Tryz
open Go.Sx Go.Vm
theorem zMd{k:Option Nat}{et:Option TypeId}{cs:List SV}: WOb (.bx none none cs) (.bx k et cs):=fun g w id h=>by
 obtain⟨b,e,us,h1,h2,h3,h4,h5,h6,h7,h8⟩:=h
 exact⟨b,e,us,h1,h2,h3,h4,h5,h6,(fun c hc=>by cases hc),(fun t ht=>by cases ht)⟩
theorem zNy{C:Ctx}{Q:Exit->Sl->List Ob->Prop}{σ:Sl}{η:List Ob}{id:Nat}{o:Array Oper}{dr:Bool}{c:Code}(h:Stop (awp C ((Code.region id o dr).seq c) Q σ η)): awp C ((Code.region id o dr).seq c) Q σ η:=by
 unfold Stop at h;exact h
abbrev idsR: List Nat:=[6,2,3,4,5,7,8,9,10]
def RA(sb:List SV)(m:Img)(r:Raw): List Ob :=
 [.gone,.box sb,.box [.buf 3 r.now.length,.buf 4 r.oth.length,.d (i64 r.size),.buf 5 r.beg.length],
  .buf true 58 1 (w64s r.now),.buf true 58 1 (w64s r.oth),.buf true 4 1 (bls r.beg),
  .box [.d (.slice (m.pool.map enCn)),.d (.slice (m.code.map enIn)),.ptr 2 0,.buf 7 r.stk.length,.d (i64 r.c.at_),.d (i64 r.c.base),.d (w64 r.c.fn),.buf 8 r.cls.length,.buf 9 r.trs.length,.d (i64 r.fin),.nil,.d (i64 r.num),.buf 10 r.out.length,.d (i64 r.steps)],
  .buf true 58 1 (w64s r.stk),.buf true 60 3 (r.cls.map enCl),.buf true 114 5 (r.trs.map enTy),.buf true 9 1 (r.out.map str)]
abbrev sb0: List SV:=[.d (i64 0),.nil,.d (i64 0),.nil,.d (i64 0)]
theorem zd4(m:Img)(r r':Raw): zD6 (zFT (zB2 idsR (MX m r)) idsR (RA sb0 m r)) idsR ((MX m r').map (Ob.ren idsR))=RA sb0 m r':=rfl
theorem zRp(m:Img)(r:Raw): Picks (RA sb0 m r) idsR (MX m r):=rfl
theorem zd5(m:Img)(r:Raw)(xs:List D): ηOf idsR (MX m r) (MXr m r xs) (RA sb0 m r)=RA sb0 m r++[.buf true 49 4 xs]:=rfl
theorem zUv: idsR.Nodup:=by decide
theorem zJi(m:Img)(r:Raw): (RA sb0 m r).all (Ob.below (RA sb0 m r).length)=true:=rfl
attribute [local irreducible] zAL Program.underlying Ylds zA2 alex zBZ zBP awp zAb zBh zBg zAW zBF zAp zCO zBG zBR zAr zBV zBY zBe zCQ zBM zA8 zBE
section
variable {N d:Nat}{w0:World}{St0:Stab}{X:Nat->Prop}{ops:Array Oper}{rest:List Oper}{K:Sl->List Ob->Prop}{σ:Sl}{ty:TypeId}{pos:String}{after:Array Edge}{gd:Option (Nat×Bool)}{f:FuncId}{args:List Operand}{ts:Array TypeId}{avs:List SV}{m:Img}{r r':Raw}{res:SV}{η:List Ob}
theorem aVMx(he:η=RA sb0 m r)(hb:zAL prog f=true)(hc:zAW prog f avs (MX m r) res (MX m r'))(ha:SArgs σ idsR args avs)(hd:Nat.blt d N=true)(hba:avs.all (SV.bel 9)=true)
  (h:alex ⟨prog,N,w0,St0,X,0⟩ false ops rest K ((d,res.ren idsR)::zEl (zB2 idsR (MX m r)) idsR σ) (RA sb0 m r')) :
  zA2 ⟨prog,N,w0,St0,X,0⟩ false ops ⟨some d,.call ⟨.value (.func f),args.toArray,ts⟩,ty,pos,after,gd⟩ rest K σ η:=by
 subst he
 have hh:=(congrArg (alex ⟨prog,N,w0,St0,X,0⟩ false ops rest K ((d,res.ren idsR)::zEl (zB2 idsR (MX m r)) idsR σ)) (zd4 m r r')).mpr h
 refine zHi (C:=⟨prog,N,w0,St0,X,0⟩) (η:=RA sb0 m r) idsR hb hc ha (zRp m r) hd zUv ?_ ?_ ?_ hba ?_ ?_ hh
 ·rfl
 ·rfl
 ·rfl
 ·rfl
 ·rfl
theorem aVMs{xs:List D}{n:Nat}(hb:zAL prog f=true)(hc:zAW prog f avs (MX m r) (.buf 9 n) (MXr m r xs))(ha:SArgs σ idsR args avs)(hd:Nat.blt d N=true)(hba:avs.all (SV.bel 9)=true)
  (h:alex ⟨prog,N,w0,St0,X,0⟩ false ops rest K ((d,.buf 11 n)::zEl (zB2 idsR (MX m r)) idsR σ) (RA sb0 m r++[.buf true 49 4 xs])) :
  zA2 ⟨prog,N,w0,St0,X,0⟩ false ops ⟨some d,.call ⟨.value (.func f),args.toArray,ts⟩,ty,pos,after,gd⟩ rest K σ (RA sb0 m r):=by
 have hh:=(congrArg (alex ⟨prog,N,w0,St0,X,0⟩ false ops rest K ((d,.buf 11 n)::zEl (zB2 idsR (MX m r)) idsR σ)) (zd5 m r xs)).mpr h
 refine zPF (C:=⟨prog,N,w0,St0,X,0⟩) (η:=RA sb0 m r) idsR hb hc ha (zRp m r) hd zUv ?_ ?_ ?_ hba ?_ ?_ hh
 ·rfl
 ·rfl
 ·rfl
 ·rfl
 ·rfl
end
theorem zTn{m:Img}{A:Nat->Option VS}{s:St}(h:Lay m A s)(him:ImgOk m)(hw:s.words<=1048576)(oth:List Nat): ∀(f:Nat) (l:List Nn) (r:Rf),rkR r<f->Val s r->l.length<=4001->zJh m (rawS s oth) l (shN m s.all f l r) (wdN s.all s.ly r)
 |0,_,_,hf,_,_=>absurd hf (by omega)
 |f+1,l,r,hf,hv,hl=>by
  unfold shN
  by_cases h4:4000<l.length
  ·rw[if_pos h4];exact zTo m _ _ h4 hl
  rw[if_neg h4]
  cases r with
  |n v=>exact zWw m _ h4 (zIA s.all s.ly hv.num)
  |b i =>
   have hi:=hv.ly i rfl
   have ho:=h.objs i (h.lt i hi)
   have hI:=zI9 s.all s.ly (zT1 h hw hv)
   have hB:=zKK h hw oth hi
   dsimp only
   by_cases k4:(zAc s.all i).kind=4
   ·rw[if_pos k4]
    rw[k4]at hB
    exact zTl m _ h4 hI hB (zTP h hw oth hi k4)
   rw[if_neg k4]
   by_cases k1':(zAc s.all i).kind=1
   ·rw[if_pos k1']
    rw[if_neg k4,k1',zM9 k4]at hB
    have hlt:=ho.con k1'
    have hp:(zAc s.all i).tag.toNat<m.pool.length:=by have:=ho.tag;omega
    have hg:m.pool[(zAc s.all i).tag.toNat]?=some (m.pool.getD (zAc s.all i).tag.toNat default):=by rw[qAD,qAB hp];rfl
    have hfew:=ho.few
    have hval:∀k,k<(zAc s.all i).parts.length->Val s ((zAc s.all i).parts.getD k default):=fun k hk=>h.part hi (by rw[qAD,qAB hk];exact qA8 _)
    have hC:=zWy m (rawS s oth) (n:=(zAc s.all i).parts.length) (l:=l) (ws:=fun k=>wdN s.all s.ly ((zAc s.all i).parts.getD k default))
     (acc:=fun k=>((zAc s.all i).parts.take k).foldl (shN m s.all f) (l++[⟨53,(m.pool.getD (zAc s.all i).tag.toNat default).text,0,(zAc s.all i).parts.length⟩])) h4 hI hB ho.tag.1 (by have:=him.pool;omega)
     (show m.pool[(zAc s.all i).tag.toNat]?=some ⟨(m.pool.getD (zAc s.all i).tag.toNat default).isText,(m.pool.getD (zAc s.all i).tag.toNat default).num,(m.pool.getD (zAc s.all i).tag.toNat default).text⟩from hg) rfl (by omega) (fun k hk=>zQw h hw oth hi k4 hk) (fun k hk=>?_)
    ·rw[qAw]at hC
     exact hC
    ·have e:(zAc s.all i).parts.take (k+1)=(zAc s.all i).parts.take k++[(zAc s.all i).parts.getD k default]:=by
      rw[qAD,qAB hk,qBY,List.take_succ_eq_append_getElem hk]
     rw[e,List.foldl_append,List.foldl_cons,List.foldl_nil]
     refine zTn h him hw oth f _ _ ?_ (hval k hk) (zNR (P:=fun l=>l.length<=4001) (fun b a _ hb=>zK8 m s.all f b a hb) (by rw[qAE,qAz];omega))
     have hm:(zAc s.all i).parts.getD k default∈(zAc s.all i).parts:=by rw[qAD,qAB hk];exact qA8 _
     generalize (zAc s.all i).parts.getD k default=p at hm
     cases p with
     |n v=>simp only[rkR]at *;omega
     |b j =>
      have:=h.old i (h.lt i hi) k1' j hm
      simp only[rkR]at *;omega
   ·rw[if_neg k1']
    exact zWx m _ h4 hI hB k4 k1'

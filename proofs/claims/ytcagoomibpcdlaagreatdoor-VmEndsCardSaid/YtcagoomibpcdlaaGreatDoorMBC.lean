/- Parts of the proof. -/
import Derived.Test.YtcagoomibpcdlaaGreatDoorMBI
set_option maxHeartbeats 16000000
namespace Go.Proofs.YtcagoomibpcdlaaGreatDoor
open _root_.Go.Proofs.Tryz
open Go.Sx Go.Vm
theorem zIs: zCr prog 49=some [(0,1),(1,1),(2,1),(3,1)]:=by kernel_rfl
def nnD(n:Nn): D:=.agg [i64 n.kind,str n.text,i64 n.num,i64 n.kids]
abbrev nnC(n:Nn): List D:=[i64 n.kind,str n.text,i64 n.num,i64 n.kids]
abbrev MXr(m:Img)(r:Raw)(xs:List D): List Ob:=MX m r++[.buf true 49 4 xs]
def MAr(fx:Nat->Option Nat)(m:Img)(r:Raw)(xs:List D): List Ob:=MA fx m r++[.buf true 49 4 xs]
theorem zYY(fx:Nat->Option Nat)(m:Img)(r r':Raw)(xs ys:List D): zDT (zEc (zBo ids10 (MXr m r xs)) ids10 (MAr fx m r xs)) ids10 ((MXr m r' ys).map (Ob.ren ids10))=MAr fx m r' ys:=rfl
theorem zS9(fx:Nat->Option Nat)(m:Img)(r:Raw)(xs:List D): Picks (MAr fx m r xs) ids10 (MXr m r xs):=rfl
theorem zTA(fx:Nat->Option Nat)(m:Img)(r:Raw)(xs:List D): (MAr fx m r xs).all (Ob.below (MAr fx m r xs).length)=true:=rfl
theorem zMO{f:FuncId}{fn:Func}{c:Code}{avs:List SV}{m:Img}{r r':Raw}{xs ys:List D}{res:SV}{N:Nat}{rs:Array ResultVar}(hf:prog.funcs[f]?=some fn)(hb:fn.body=some c)(hN:fn.ntmps=N)(hrs:fn.results=rs)(hl:Nat.ble avs.length N=true)
  (h:∀(w0:World) (St0:Stab) (X:Nat->Prop) (fx:Nat->Option Nat),awp ⟨prog,N,w0,St0,X,0⟩ c (zBm rs res (MAr fx m r' ys)) (zGU avs 0) (MAr fx m r xs)):zAU prog f avs (MXr m r xs) res (MXr m r' ys) :=
 zFV hf hb hN hrs hl rfl rfl h
theorem zJl{fx:Nat->Option Nat}{m:Img}{r:Raw}{xs ys:List D}{σ:Sl}{η:List Ob}{k n n':Nat}(he:η=MAr fx m r ys)(e2:xs=ys)(hs:get σ k=.buf 9 n')(en:n=n'): zBm #[.tmp k] (.buf 9 n) (MAr fx m r xs) .ret σ η:=by
 subst he e2 en;exact zDI (zAS (Le_cons hs Le_nil) (zBF _) rfl (zTA fx m r xs))
attribute [local irreducible] zAO Program.underlying Ylds zBE alex zB0 zBk awp zAg zB9 zB8 zAU zBj zA6 zDJ zBl zBn zBC zBq zBz zB7 zDQ zBm zBc zBe
theorem aVMr{N d:Nat}{w0:World}{St0:Stab}{X:Nat->Prop}{ops:Array Oper}{rest:List Oper}{K:Sl->List Ob->Prop}{σ:Sl}{ty:TypeId}{pos:String}{after:Array Edge}{gd:Option (Nat×Bool)}{f:FuncId}{args:List Operand}{ts:Array TypeId}{avs:List SV}{m:Img}{r r':Raw}{xs ys:List D}{res:SV}{fx:Nat->Option Nat}
  (hb:zAO prog f=true) (hc:zAU prog f avs (MXr m r xs) res (MXr m r' ys)) (ha:SArgs σ ids10 args avs) (hd:Nat.blt d N=true) (hba:avs.all (SV.bel 10)=true)
  (h:alex ⟨prog,N,w0,St0,X,0⟩ false ops rest K ((d,res.ren ids10)::zD2 (zBo ids10 (MXr m r xs)) ids10 σ) (MAr fx m r' ys)) :
  zBE ⟨prog,N,w0,St0,X,0⟩ false ops ⟨some d,.call ⟨.value (.func f),args.toArray,ts⟩,ty,pos,after,gd⟩ rest K σ (MAr fx m r xs):=by
 have hh:=(congrArg (alex ⟨prog,N,w0,St0,X,0⟩ false ops rest K ((d,res.ren ids10)::zD2 (zBo ids10 (MXr m r xs)) ids10 σ)) (zYY fx m r r' xs ys)).mpr h
 refine zGg (C:=⟨prog,N,w0,St0,X,0⟩) (η:=MAr fx m r xs) ids10 hb hc ha (zS9 fx m r xs) hd zLU ?_ ?_ ?_ hba ?_ ?_ hh
 ·rfl
 ·rfl
 ·rfl
 ·rfl
 ·rfl
abbrev zIA(m:Img)(r:Raw)(l l':List Nn)(w:Nat): Prop:=zAU prog 23 [.ptr 0 0,.buf 9 l.length,.d (w64 w)] (MXr m r (l.map nnD)) (.buf 9 l'.length) (MXr m r (l'.map nnD))
theorem zQ7(m:Img)(r:Raw)(w:Nat){l:List Nn}(h:4000<l.length)(hl:l.length<=4001): zIA m r l l w:=by
 have h1:(l.length:Int)>4000:=by omega
 refine zMO func23 rfl ntmps23 results23 rfl ?_
 intro wb St0 X fx
 repeat' first|apply en_n|apply zAG|apply zAA|apply zAD|apply w0|exact zEr rfl rfl|apply ay (hd:=rfl)|exact zBN rfl|exact zAz rfl|exact zAp rfl|exact zA3 rfl zEJ|refine zAI rfl ?_|apply zAQ|apply en_r
 all_goals exact zJl rfl rfl rfl rfl
theorem zTx(m:Img)(r:Raw){w:Nat}{v:Int}{l:List Nn}(h:¬4000<l.length)(hI:zAg prog 54 [w64 w] (.tup [i64 v,bl true])): zIA m r l (l++[⟨51,[],v,0⟩]) w:=by
 have h1:¬(l.length:Int)>4000:=by omega
 refine zMO func23 rfl ntmps23 results23 rfl ?_
 intro wb St0 X fx
 repeat' first|apply en_n|apply zAG|apply zAA|apply zAD|apply w0|exact zDx rfl rfl|(refine zAd zDh hI (CoLA rfl))|(refine zBr (cs:=nnC ⟨51,[],v,0⟩) zIs zKx (PD_d rfl rfl (PD_d rfl rfl zCi)) rfl)|(refine zCC zEj zE2 zKw rfl rfl (zAY rfl zAM) rfl)|(apply aApp (id:=9) (hd:=rfl) (hro:=rfl);exact rfl;exact rfl;(first|exact zCQ rfl|exact zCp rfl rfl rfl|exact Co_nn rfl);(first|exact rfl|exact(by simp));exact rfl;(with_reducible exact zEj);(with_reducible exact zE2);(with_reducible exact zKy);(with_reducible exact zI7);(first|exact zFE (fun _=>rfl)|exact zDS rfl))|apply ay (hd:=rfl)|exact zAF rfl|exact zAB rfl|exact zAk rfl rfl|exact zBN rfl|exact zAz rfl|exact zAp rfl|exact zA3 rfl zEJ|refine zAI rfl ?_|refine zAJ rfl ?_|apply zAR|apply zAQ|apply en_r
 all_goals first|omega|(simp only[qAP,qAp];omega)|skip
 refine zJl rfl ?_ rfl ?_
 ·rw[qAl];rfl
 ·rw[qAD];rfl
theorem zQ5(m:Img)(r:Raw){w:Nat}{tag n:Int}{t:List UInt8}{l:List Nn}(h:¬4000<l.length)(hI:zAg prog 54 [w64 w] (.tup [i64 0,bl false]))(hB:BlkQ r w 4 tag n true)(hX:TxtQ r w t): zIA m r l (l++[⟨52,t,0,0⟩]) w:=by
 have h1:¬(l.length:Int)>4000:=by omega
 refine zMO func23 rfl ntmps23 results23 rfl ?_
 intro wb St0 X fx
 repeat' first|apply en_n|apply zAG|apply zAA|apply zAD|apply w0|exact zDx rfl rfl|exact zAi rfl rfl|exact zAL rfl|(apply zAE;exact rfl;(first|with_reducible exact zBw|with_reducible exact zAx);exact rfl;exact rfl)|(refine zAd zDh hI (CoLA rfl))|(refine zAX [1,2,3,4] [] rfl rfl zCk (hB) rfl (SArgs_all rfl) rfl (by decide) rfl rfl rfl rfl)|(refine zAX [1,2,3,4] [] rfl rfl zEW (hX) rfl (SArgs_all rfl) rfl (by decide) rfl rfl rfl rfl)|(refine zBr (cs:=nnC ⟨52,t,0,0⟩) zIs zKx (PD_d rfl rfl (PD_d rfl rfl zCi)) rfl)|(refine zCC zEj zE2 zKw rfl rfl (zAY rfl zAM) rfl)|(apply aApp (id:=9) (hd:=rfl) (hro:=rfl);exact rfl;exact rfl;(first|exact zCQ rfl|exact zCp rfl rfl rfl|exact Co_nn rfl);(first|exact rfl|exact(by simp));exact rfl;(with_reducible exact zEj);(with_reducible exact zE2);(with_reducible exact zKy);(with_reducible exact zI7);(first|exact zFE (fun _=>rfl)|exact zDS rfl))|apply ay (hd:=rfl)|exact zAF rfl|exact zAB rfl|exact zAk rfl rfl|exact zBN rfl|exact zAz rfl|exact zAp rfl|exact zA3 rfl zEJ|exact zAH rfl|exact zAC rfl zBb|refine zAI rfl ?_|refine zAJ rfl ?_|apply zAK|apply zAR|apply zAQ|apply en_r|apply eb_r
 all_goals first|omega|(simp only[qAP,qAp];omega)|skip
 refine zJl rfl ?_ rfl ?_
 ·rw[qAl];rfl
 ·rw[qAD];rfl
theorem zTy(m:Img)(r:Raw){w:Nat}{k tag n:Int}{l:List Nn}(h:¬4000<l.length)(hI:zAg prog 54 [w64 w] (.tup [i64 0,bl false]))(hB:BlkQ r w k tag n true)(k1:k≠4)(k2:k≠1): zIA m r l (l++[⟨54,[],0,0⟩]) w:=by
 have h1:¬(l.length:Int)>4000:=by omega
 refine zMO func23 rfl ntmps23 results23 rfl ?_
 intro wb St0 X fx
 repeat' first|apply en_n|apply zAG|apply zAA|apply zAD|apply w0|exact zDx rfl rfl|exact zAn rfl rfl|exact zAL rfl|(apply zAE;exact rfl;(first|with_reducible exact zBw|with_reducible exact zAx);exact rfl;exact rfl)|(refine zAd zDh hI (CoLA rfl))|(refine zAX [1,2,3,4] [] rfl rfl zCk (hB) rfl (SArgs_all rfl) rfl (by decide) rfl rfl rfl rfl)|(refine zBr (cs:=nnC ⟨54,[],0,0⟩) zIs zKx (PD_d rfl rfl zCi) rfl)|(refine zCC zEj zE2 zKw rfl rfl (zAY rfl zAM) rfl)|(apply aApp (id:=9) (hd:=rfl) (hro:=rfl);exact rfl;exact rfl;(first|exact zCQ rfl|exact zCp rfl rfl rfl|exact Co_nn rfl);(first|exact rfl|exact(by simp));exact rfl;(with_reducible exact zEj);(with_reducible exact zE2);(with_reducible exact zKy);(with_reducible exact zI7);(first|exact zFE (fun _=>rfl)|exact zDS rfl))|apply ay (hd:=rfl)|exact zAF rfl|exact zAB rfl|exact zAk rfl rfl|exact zBN rfl|exact zAz rfl|exact zAp rfl|exact zA3 rfl zEJ|exact zAH rfl|exact zAC rfl zBb|refine zAJ rfl ?_|apply zAK|apply zAR|apply zAQ|apply eb_n
 all_goals first|omega|(simp only[qAP,qAp];omega)|skip
 refine zJl rfl ?_ rfl ?_
 ·rw[qAl];rfl
 ·rw[qAD];rfl
abbrev zah(r:Raw)(w k x:Nat): Prop:=zA6 prog 41 [.ptr 0 0,.d (w64 w),.d (i64 (k:Int))] (HO r.size r.now r.oth r.beg) (.tup [w64 x,bl true])
theorem zTz(m:Img)(r:Raw){w:Nat}{tag:Int}{n:Nat}{b:Bool}{x:Int}{t:List UInt8}{l:List Nn}{ws:Nat->Nat}{acc:Nat->List Nn}(h:¬4000<l.length)(hI:zAg prog 54 [w64 w] (.tup [i64 0,bl false]))(hB:BlkQ r w 1 tag (n:Int) true)
  (ht:0<=tag) (_hpl:m.pool.length<=1048576) (hk:m.pool[tag.toNat]?=some ⟨b,x,t⟩) (h0:acc 0=l++[⟨53,t,0,(n:Int)⟩]) (hn:n<=4000) (hP:∀i,i<n->zah r w i (ws i)) (hS:∀i,i<n->zIA m r (acc i) (acc (i+1)) (ws i)):zIA m r l (acc n) w:=by
 have h1:¬(l.length:Int)>4000:=by omega
 have hbd:=(qAA.1 hk).1
 have hat:=zB6 (f:=enCn) hk
 refine zMO func23 rfl ntmps23 results23 rfl ?_
 intro wb St0 X fx
 repeat' first|apply en_n|apply zAG|apply zAA|apply zAD|apply w0|exact zDx rfl rfl|exact zAi rfl rfl|exact zAn rfl rfl|exact zAL rfl|(apply zAE;exact rfl;(first|with_reducible exact zBw|with_reducible exact zAx);exact rfl;exact rfl)|(refine zAd zDh hI (CoLA rfl))|(refine zAX [1,2,3,4] [] rfl rfl zCk (hB) rfl (SArgs_all rfl) rfl (by decide) rfl rfl rfl rfl)|(refine zBr (cs:=nnC ⟨53,t,0,(n:Int)⟩) zIs zKx (PD_d rfl rfl (PD_d rfl rfl (PD_d rfl rfl zCi))) rfl)|(refine zCC zEj zE2 zKw rfl rfl (zAY rfl zAM) rfl)|(apply aApp (id:=9) (hd:=rfl) (hro:=rfl);exact rfl;exact rfl;(first|exact zCQ rfl|exact zCp rfl rfl rfl|exact Co_nn rfl);(first|exact rfl|exact(by simp));exact rfl;(with_reducible exact zEj);(with_reducible exact zE2);(with_reducible exact zKy);(with_reducible exact zI7);(first|exact zFE (fun _=>rfl)|exact zDS rfl))|(apply aJ (hd:=rfl);(first|exact zCQ rfl|exact zCp rfl rfl rfl|exact Co_nn rfl);exact rfl;(with_reducible exact zDF);assumption;omega;exact fun _=>rfl)|apply ay (hd:=rfl)|exact zAF rfl|exact zAB rfl|exact zDB rfl zC4|exact zCK rfl zEO|exact zAk rfl rfl|exact zBN rfl|exact zAz rfl|exact zAp rfl|exact zA3 rfl zEJ|exact zAH rfl|(apply zAC;exact rfl;(with_reducible first|exact zB2|exact zBI|exact zBb))|refine zAI rfl ?_|refine zAJ rfl ?_|apply zAK|apply zAR
 all_goals first|omega|(simp only[qAP,qAp];omega)|skip
 refine zBV (α:=Nat) (fun i=>i<=n) (fun i=>[(0,.ptr 0 0),(1,.buf 9 (acc i).length),(2,.d (w64 w)),(77,.d (i64 (n:Int))),(78,.d (i64 (i:Int)))]) (fun i=>MAr fx m r ((acc i).map nnD)) (fun i=>n-i) 0 (qAV _) ?_ ?_
 ·rw[h0]
  refine zAS (Le_cons rfl (zPQ rfl (by simp) (Le_all rfl))) ?_ rfl rfl
  rw[qAl]
  exact zBF (MAr fx m r _)
 ·intro i hi
  rcases qAQ i n with hlt|hge
  ·have hPi:=hP i hlt
   have hSi:=hS i hlt
   have hc:(i:Int)<n:=by omega
   repeat' first|apply en_n|apply zAG|apply zAA|apply zAD|apply w0|exact zCf rfl rfl|exact zAL rfl|(apply zAE;exact rfl;(first|with_reducible exact zBw|with_reducible exact zAx);exact rfl;exact rfl)|(refine zAX [1,2,3,4] [] rfl rfl zFA (hPi) rfl (SArgs_all rfl) rfl (by decide) rfl rfl rfl rfl)|(refine aVMr zFv hSi (SArgs_all rfl) rfl rfl ?_)|apply ay (hd:=rfl)|exact zAF rfl|exact zAB rfl|refine zBG rfl rfl ?_|exact zAk rfl rfl|exact zAz rfl|exact zAp rfl|exact zAH rfl|exact zAC rfl zBb|refine zAI rfl ?_|apply zAK|apply zAR|apply eb_n
   all_goals first|omega|(simp only[qAP,qAp];omega)|skip
   refine⟨i+1,hlt,by omega,zAS (Le_cons rfl (Le_cons rfl (Le_cons rfl (Le_cons rfl (Le_d rfl (by push_cast;rfl) Le_nil))))) (zBF _) rfl (zTA fx m r _)⟩
  ·have e:i=n:=by omega
   subst e
   have hc:¬(i:Int)<i:=by omega
   repeat' first|apply en_n|apply zAG|apply zAA|apply zAD|apply w0|exact zCY rfl rfl|apply ay (hd:=rfl)|exact zAz rfl|exact zAp rfl|refine zAJ rfl ?_|apply zAQ|apply zBX|apply en_r|apply en_e|apply eb_r|apply eb_e
   all_goals first|omega|(simp only[qAP,qAp];omega)|skip
   all_goals exact zJl rfl rfl rfl rfl
end Go.Proofs.YtcagoomibpcdlaaGreatDoor
namespace Go.Proofs.YtcagoomibpcdlaaGreatDoor
open _root_.Go.Proofs.Tryz
open Go.Sx Go.Vm
theorem zPM{k:Option Nat}{et:Option TypeId}{cs:List SV}: WOb (.bx none none cs) (.bx k et cs):=fun g w id h=>by
 obtain⟨b,e,us,h1,h2,h3,h4,h5,h6,h7,h8⟩:=h
 exact⟨b,e,us,h1,h2,h3,h4,h5,h6,(fun c hc=>by cases hc),(fun t ht=>by cases ht)⟩
theorem zLx{C:Ctx}{Q:Exit->Sl->List Ob->Prop}{σ:Sl}{η:List Ob}{id:Nat}{o:Array Oper}{dr:Bool}{c:Code}(h:Stop (awp C ((Code.region id o dr).seq c) Q σ η)): awp C ((Code.region id o dr).seq c) Q σ η:=by
 unfold Stop at h;exact h
abbrev idsR: List Nat:=[6,2,3,4,5,7,8,9,10]
def RA(sb:List SV)(m:Img)(r:Raw): List Ob :=
 [.gone,.box sb,.box [.buf 3 r.now.length,.buf 4 r.oth.length,.d (i64 r.size),.buf 5 r.beg.length],
  .buf true 58 1 (w64s r.now),.buf true 58 1 (w64s r.oth),.buf true 4 1 (bls r.beg),
  .box [.d (.slice (m.pool.map enCn)),.d (.slice (m.code.map enIn)),.ptr 2 0,.buf 7 r.stk.length,.d (i64 r.c.at_),.d (i64 r.c.base),.d (w64 r.c.fn),.buf 8 r.cls.length,.buf 9 r.trs.length,.d (i64 r.fin),.nil,.d (i64 r.num),.buf 10 r.out.length,.d (i64 r.steps)],
  .buf true 58 1 (w64s r.stk),.buf true 60 3 (r.cls.map enCl),.buf true 114 5 (r.trs.map enTy),.buf true 9 1 (r.out.map str)]
abbrev sb0: List SV:=[.d (i64 0),.nil,.d (i64 0),.nil,.d (i64 0)]
theorem zaG(m:Img)(r r':Raw): zDT (zEc (zBo idsR (MX m r)) idsR (RA sb0 m r)) idsR ((MX m r').map (Ob.ren idsR))=RA sb0 m r':=rfl
theorem zPN(m:Img)(r:Raw): Picks (RA sb0 m r) idsR (MX m r):=rfl
theorem zaH(m:Img)(r:Raw)(xs:List D): ηOf idsR (MX m r) (MXr m r xs) (RA sb0 m r)=RA sb0 m r++[.buf true 49 4 xs]:=rfl
theorem zR7: idsR.Nodup:=by decide
theorem zIB(m:Img)(r:Raw): (RA sb0 m r).all (Ob.below (RA sb0 m r).length)=true:=rfl
attribute [local irreducible] zAO Program.underlying Ylds zBE alex zB0 zBk awp zAg zB9 zB8 zAU zBj zA6 zDJ zBl zBn zBC zBq zBz zB7 zDQ zBm zBc zBe
section
variable {N d:Nat}{w0:World}{St0:Stab}{X:Nat->Prop}{ops:Array Oper}{rest:List Oper}{K:Sl->List Ob->Prop}{σ:Sl}{ty:TypeId}{pos:String}{after:Array Edge}{gd:Option (Nat×Bool)}{f:FuncId}{args:List Operand}{ts:Array TypeId}{avs:List SV}{m:Img}{r r':Raw}{res:SV}{η:List Ob}
theorem aVMx(he:η=RA sb0 m r)(hb:zAO prog f=true)(hc:zAU prog f avs (MX m r) res (MX m r'))(ha:SArgs σ idsR args avs)(hd:Nat.blt d N=true)(hba:avs.all (SV.bel 9)=true)
  (h:alex ⟨prog,N,w0,St0,X,0⟩ false ops rest K ((d,res.ren idsR)::zD2 (zBo idsR (MX m r)) idsR σ) (RA sb0 m r')) :
  zBE ⟨prog,N,w0,St0,X,0⟩ false ops ⟨some d,.call ⟨.value (.func f),args.toArray,ts⟩,ty,pos,after,gd⟩ rest K σ η:=by
 subst he
 have hh:=(congrArg (alex ⟨prog,N,w0,St0,X,0⟩ false ops rest K ((d,res.ren idsR)::zD2 (zBo idsR (MX m r)) idsR σ)) (zaG m r r')).mpr h
 refine zGg (C:=⟨prog,N,w0,St0,X,0⟩) (η:=RA sb0 m r) idsR hb hc ha (zPN m r) hd zR7 ?_ ?_ ?_ hba ?_ ?_ hh
 ·rfl
 ·rfl
 ·rfl
 ·rfl
 ·rfl
theorem aVMs{xs:List D}{n:Nat}(hb:zAO prog f=true)(hc:zAU prog f avs (MX m r) (.buf 9 n) (MXr m r xs))(ha:SArgs σ idsR args avs)(hd:Nat.blt d N=true)(hba:avs.all (SV.bel 9)=true)
  (h:alex ⟨prog,N,w0,St0,X,0⟩ false ops rest K ((d,.buf 11 n)::zD2 (zBo idsR (MX m r)) idsR σ) (RA sb0 m r++[.buf true 49 4 xs])) :
  zBE ⟨prog,N,w0,St0,X,0⟩ false ops ⟨some d,.call ⟨.value (.func f),args.toArray,ts⟩,ty,pos,after,gd⟩ rest K σ (RA sb0 m r):=by
 have hh:=(congrArg (alex ⟨prog,N,w0,St0,X,0⟩ false ops rest K ((d,.buf 11 n)::zD2 (zBo idsR (MX m r)) idsR σ)) (zaH m r xs)).mpr h
 refine zPH (C:=⟨prog,N,w0,St0,X,0⟩) (η:=RA sb0 m r) idsR hb hc ha (zPN m r) hd zR7 ?_ ?_ ?_ hba ?_ ?_ hh
 ·rfl
 ·rfl
 ·rfl
 ·rfl
 ·rfl
end
theorem zQ6{m:Img}{A:Nat->Option VS}{s:St}(h:Lay m A s)(him:ImgOk m)(hw:s.words<=1048576)(oth:List Nat): ∀(f:Nat) (l:List Nn) (r:Rf),rkR r<f->Val s r->l.length<=4001->zIA m (rawS s oth) l (shN m s.all f l r) (wdN s.all s.ly r)
 |0,_,_,hf,_,_=>absurd hf (by omega)
 |f+1,l,r,hf,hv,hl=>by
  unfold shN
  by_cases h4:4000<l.length
  ·rw[if_pos h4];exact zQ7 m _ _ h4 hl
  rw[if_neg h4]
  cases r with
  |n v=>exact zTx m _ h4 (zGn s.all s.ly hv.num)
  |b i =>
   have hi:=hv.ly i rfl
   have ho:=h.objs i (h.lt i hi)
   have hI:=zHd s.all s.ly (zRK h hw hv)
   have hB:=zIn h hw oth hi
   dsimp only
   by_cases k4:(zAW s.all i).kind=4
   ·rw[if_pos k4]
    rw[k4]at hB
    exact zQ5 m _ h4 hI hB (zQo h hw oth hi k4)
   rw[if_neg k4]
   by_cases k1':(zAW s.all i).kind=1
   ·rw[if_pos k1']
    rw[if_neg k4,k1',zLO k4]at hB
    have hlt:=ho.con k1'
    have hp:(zAW s.all i).tag.toNat<m.pool.length:=by have:=ho.tag;omega
    have hg:m.pool[(zAW s.all i).tag.toNat]?=some (m.pool.getD (zAW s.all i).tag.toNat default):=by rw[qAE,qAB hp];rfl
    have hfew:=ho.few
    have hval:∀k,k<(zAW s.all i).parts.length->Val s ((zAW s.all i).parts.getD k default):=fun k hk=>h.part hi (by rw[qAE,qAB hk];exact qBH _)
    have hC:=zTz m (rawS s oth) (n:=(zAW s.all i).parts.length) (l:=l) (ws:=fun k=>wdN s.all s.ly ((zAW s.all i).parts.getD k default))
     (acc:=fun k=>((zAW s.all i).parts.take k).foldl (shN m s.all f) (l++[⟨53,(m.pool.getD (zAW s.all i).tag.toNat default).text,0,(zAW s.all i).parts.length⟩])) h4 hI hB ho.tag.1 (by have:=him.pool;omega)
     (show m.pool[(zAW s.all i).tag.toNat]?=some ⟨(m.pool.getD (zAW s.all i).tag.toNat default).isText,(m.pool.getD (zAW s.all i).tag.toNat default).num,(m.pool.getD (zAW s.all i).tag.toNat default).text⟩from hg) rfl (by omega) (fun k hk=>zOb h hw oth hi k4 hk) (fun k hk=>?_)
    ·rw[qA8]at hC
     exact hC
    ·have e:(zAW s.all i).parts.take (k+1)=(zAW s.all i).parts.take k++[(zAW s.all i).parts.getD k default]:=by
      rw[qAE,qAB hk,qBa,List.take_succ_eq_append_getElem hk]
     rw[e,List.foldl_append,List.foldl_cons,List.foldl_nil]
     refine zQ6 h him hw oth f _ _ ?_ (hval k hk) (zLa (P:=fun l=>l.length<=4001) (fun b a _ hb=>zLD m s.all f b a hb) (by rw[qAD,qAx];omega))
     have hm:(zAW s.all i).parts.getD k default∈(zAW s.all i).parts:=by rw[qAE,qAB hk];exact qBH _
     generalize (zAW s.all i).parts.getD k default=p at hm
     cases p with
     |n v=>simp only[rkR]at *;omega
     |b j =>
      have:=h.old i (h.lt i hi) k1' j hm
      simp only[rkR]at *;omega
   ·rw[if_neg k1']
    exact zTy m _ h4 hI hB k4 k1'
end Go.Proofs.YtcagoomibpcdlaaGreatDoor

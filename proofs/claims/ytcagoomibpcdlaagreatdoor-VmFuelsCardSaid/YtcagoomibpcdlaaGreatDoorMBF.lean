/- Texts of this claim, merged: VmCM, VmCN. -/
import Derived.Test.YtcagoomibpcdlaaGreatDoorMAB
import Derived.Test.YtcagoomibpcdlaaGreatDoorMAG
import Derived.Test.YtcagoomibpcdlaaGreatDoorMBE
namespace Go.Proofs.YtcagoomibpcdlaaGreatDoor
open Go.Sx Go.Vm
theorem zIK: zCx Tryz.prog 49=some [(0,1),(1,1),(2,1),(3,1)]:=by kernel_rfl
def nnD(n:Nn): D:=.agg [i64 n.kind,str n.text,i64 n.num,i64 n.kids]
abbrev nnC(n:Nn): List D:=[i64 n.kind,str n.text,i64 n.num,i64 n.kids]
abbrev MXr(m:Img)(r:Raw)(xs:List D): List Ob:=MX m r++[.buf true 49 4 xs]
def MAr(fx:Nat→Option Nat)(m:Img)(r:Raw)(xs:List D): List Ob:=MA fx m r++[.buf true 49 4 xs]
theorem zWy(fx:Nat→Option Nat)(m:Img)(r r':Raw)(xs ys:List D): zDH (zEL (zBa ids10 (MXr m r xs)) ids10 (MAr fx m r xs)) ids10 ((MXr m r' ys).map (Ob.ren ids10))=MAr fx m r' ys:=rfl
theorem zRk(fx:Nat→Option Nat)(m:Img)(r:Raw)(xs:List D): Picks (MAr fx m r xs) ids10 (MXr m r xs):=rfl
theorem zRl(fx:Nat→Option Nat)(m:Img)(r:Raw)(xs:List D): (MAr fx m r xs).all (Ob.below (MAr fx m r xs).length)=true:=rfl
theorem zLM{f:FuncId}{fn:Func}{c:Code}{avs:List SV}{m:Img}{r r':Raw}{xs ys:List D}{res:SV}{N:Nat}{rs:Array ResultVar}(hf:Tryz.prog.funcs[f]?=some fn)(hb:fn.body=some c)(hN:fn.ntmps=N)(hrs:fn.results=rs)(hl:Nat.ble avs.length N=true)
  (h:∀(w0:World) (St0:Stab) (X:Nat→Prop) (fx:Nat→Option Nat),awp ⟨Tryz.prog,N,w0,St0,X,0⟩ c (zBn rs res (MAr fx m r' ys)) (zF8 avs 0) (MAr fx m r xs)):zAW Tryz.prog f avs (MXr m r xs) res (MXr m r' ys) :=
 zFB hf hb hN hrs hl rfl rfl h
theorem zI2{fx:Nat→Option Nat}{m:Img}{r:Raw}{xs ys:List D}{σ:Sl}{η:List Ob}{k n n':Nat}(he:η=MAr fx m r ys)(e2:xs=ys)(hs:get σ k=.buf 9 n')(en:n=n'): zBn #[.tmp k] (.buf 9 n) (MAr fx m r xs) .ret σ η:=by
 subst he e2 en;exact zC8 (zAV (zAI hs zAd) (zB2 _) rfl (zRl fx m r xs))
attribute [local irreducible] zAQ Program.underlying Ylds zBD alex zCA zBi awp zAp zCI zCH zAW zBw zA5 zD4 zB0 zBp zBF zBv zB9 zCE zES zBn zBm zBs
theorem aVMr{N d:Nat}{w0:World}{St0:Stab}{X:Nat→Prop}{ops:Array Oper}{rest:List Oper}{K:Sl→List Ob→Prop}{σ:Sl}{ty:TypeId}{pos:String}{after:Array Edge}{gd:Option (Nat×Bool)}{f:FuncId}{args:List Operand}{ts:Array TypeId}{avs:List SV}{m:Img}{r r':Raw}{xs ys:List D}{res:SV}{fx:Nat→Option Nat}
  (hb:zAQ Tryz.prog f=true) (hc:zAW Tryz.prog f avs (MXr m r xs) res (MXr m r' ys)) (ha:SArgs σ ids10 args avs) (hd:Nat.blt d N=true) (hba:avs.all (SV.bel 10)=true)
  (h:alex ⟨Tryz.prog,N,w0,St0,X,0⟩ false ops rest K ((d,res.ren ids10)::zDl (zBa ids10 (MXr m r xs)) ids10 σ) (MAr fx m r' ys)) :
  zBD ⟨Tryz.prog,N,w0,St0,X,0⟩ false ops ⟨some d,.call ⟨.value (.func f),args.toArray,ts⟩,ty,pos,after,gd⟩ rest K σ (MAr fx m r xs):=by
 have hh:=(congrArg (alex ⟨Tryz.prog,N,w0,St0,X,0⟩ false ops rest K ((d,res.ren ids10)::zDl (zBa ids10 (MXr m r xs)) ids10 σ)) (zWy fx m r r' xs ys)).mpr h
 refine zGI (C:=⟨Tryz.prog,N,w0,St0,X,0⟩) (η:=MAr fx m r xs) ids10 hb hc ha (zRk fx m r xs) hd zKe ?_ ?_ ?_ hba ?_ ?_ hh
 ·rfl
 ·rfl
 ·rfl
 ·rfl
 ·rfl
abbrev zHf(m:Img)(r:Raw)(l l':List Nn)(w:Nat): Prop:=zAW Tryz.prog 23 [.ptr 0 0,.buf 9 l.length,.d (w64 w)] (MXr m r (l.map nnD)) (.buf 9 l'.length) (MXr m r (l'.map nnD))
theorem zPq(m:Img)(r:Raw)(w:Nat){l:List Nn}(h:4000<l.length)(hl:l.length≤4001): zHf m r l l w:=by
 have h1:(l.length:Int)>4000:=by omega
 refine zLM Tryz.func23 rfl Tryz.ntmps23 Tryz.results23 rfl ?_
 intro wb St0 X fx
 repeat' first|apply en_n|apply zAK|apply zAA|apply zAF|apply w0|(apply zE2;exact rfl;exact rfl;first|assumption|omega)|apply ay (hd:=rfl)|exact zCB rfl|exact zBR rfl|exact zAz rfl|(apply zA4;exact rfl;(with_reducible exact zDj))|(apply zAL;exact rfl)|apply zAT|apply en_r
 all_goals exact zI2 rfl rfl rfl rfl
theorem zSZ(m:Img)(r:Raw){w:Nat}{v:Int}{l:List Nn}(h:¬4000<l.length)(hI:zAp Tryz.prog 54 [w64 w] (.tup [i64 v,bl true])): zHf m r l (l++[⟨51,[],v,0⟩]) w:=by
 have h1:¬(l.length:Int)>4000:=by omega
 refine zLM Tryz.func23 rfl Tryz.ntmps23 Tryz.results23 rfl ?_
 intro wb St0 X fx
 repeat' first|apply en_n|apply zAK|apply zAA|apply zAF|apply w0|(apply zDt;exact rfl;exact rfl;first|assumption|omega)|(refine zAh zDU hI (zAa rfl zAR))|(refine zCX (cs:=nnC ⟨51,[],v,0⟩) zIK zJ9 (PD_d rfl rfl (PD_d rfl rfl zDR)) rfl)|(refine zCG zEU zEJ zJ8 rfl rfl (zAa rfl zAR) rfl)|(apply aApp (id:=9) (hd:=rfl) (hro:=rfl);exact rfl;exact rfl;(first|exact zCw rfl|exact zDn rfl rfl rfl|exact Co_nn rfl);(first|exact rfl|exact(by simp));exact rfl;(with_reducible exact zEU);(with_reducible exact zEJ);(with_reducible exact zKA);(with_reducible exact zIX);(first|exact zF5 (fun _=>rfl)|exact zDv rfl))|apply ay (hd:=rfl)|exact zAJ rfl|exact zAD rfl|exact zAm rfl rfl|exact zCB rfl|exact zBR rfl|exact zAz rfl|(apply zA4;exact rfl;(with_reducible exact zDj))|(apply zAL;exact rfl)|(apply zAM;exact rfl)|apply zAU|apply zAT|apply en_r
 all_goals first|omega|(simp only[List.length_cons,List.length_nil];omega)|skip
 refine zI2 rfl ?_ rfl ?_
 ·rw[List.map_append];rfl
 ·rw[List.length_append];rfl
theorem zPo(m:Img)(r:Raw){w:Nat}{tag n:Int}{t:List UInt8}{l:List Nn}(h:¬4000<l.length)(hI:zAp Tryz.prog 54 [w64 w] (.tup [i64 0,bl false]))(hB:BlkQ r w 4 tag n true)(hX:TxtQ r w t): zHf m r l (l++[⟨52,t,0,0⟩]) w:=by
 have h1:¬(l.length:Int)>4000:=by omega
 refine zLM Tryz.func23 rfl Tryz.ntmps23 Tryz.results23 rfl ?_
 intro wb St0 X fx
 repeat' first|apply en_n|apply zAK|apply zAA|apply zAF|apply w0|(apply zDt;exact rfl;exact rfl;first|assumption|omega)|(apply zAn;exact rfl;exact rfl;first|assumption|omega)|exact zAN rfl|(apply zAG;exact rfl;(first|with_reducible exact zBg|with_reducible exact zA0);exact rfl;exact rfl)|(refine zAh zDU hI (zAa rfl zAR))|(refine zAZ [1,2,3,4] [] rfl rfl zCc (hB) rfl ?_ rfl (by decide) rfl rfl rfl rfl;(repeat (refine zAB rfl ?_));exact zAE)|(refine zAZ [1,2,3,4] [] rfl rfl zEE (hX) rfl ?_ rfl (by decide) rfl rfl rfl rfl;(repeat (refine zAB rfl ?_));exact zAE)|(refine zCX (cs:=nnC ⟨52,t,0,0⟩) zIK zJ9 (PD_d rfl rfl (PD_d rfl rfl zDR)) rfl)|(refine zCG zEU zEJ zJ8 rfl rfl (zAa rfl zAR) rfl)|(apply aApp (id:=9) (hd:=rfl) (hro:=rfl);exact rfl;exact rfl;(first|exact zCw rfl|exact zDn rfl rfl rfl|exact Co_nn rfl);(first|exact rfl|exact(by simp));exact rfl;(with_reducible exact zEU);(with_reducible exact zEJ);(with_reducible exact zKA);(with_reducible exact zIX);(first|exact zF5 (fun _=>rfl)|exact zDv rfl))|apply ay (hd:=rfl)|exact zAJ rfl|exact zAD rfl|exact zAm rfl rfl|exact zCB rfl|exact zBR rfl|exact zAz rfl|(apply zA4;exact rfl;(with_reducible exact zDj))|exact zAH rfl|(apply zAC;exact rfl;(with_reducible exact zBV))|(apply zAL;exact rfl)|(apply zAM;exact rfl)|apply zAO|apply zAU|apply zAT|apply en_r|apply eb_r
 all_goals first|omega|(simp only[List.length_cons,List.length_nil];omega)|skip
 refine zI2 rfl ?_ rfl ?_
 ·rw[List.map_append];rfl
 ·rw[List.length_append];rfl
theorem zSa(m:Img)(r:Raw){w:Nat}{k tag n:Int}{l:List Nn}(h:¬4000<l.length)(hI:zAp Tryz.prog 54 [w64 w] (.tup [i64 0,bl false]))(hB:BlkQ r w k tag n true)(k1:k≠4)(k2:k≠1): zHf m r l (l++[⟨54,[],0,0⟩]) w:=by
 have h1:¬(l.length:Int)>4000:=by omega
 refine zLM Tryz.func23 rfl Tryz.ntmps23 Tryz.results23 rfl ?_
 intro wb St0 X fx
 repeat' first|apply en_n|apply zAK|apply zAA|apply zAF|apply w0|(apply zDt;exact rfl;exact rfl;first|assumption|omega)|(apply zAs;exact rfl;exact rfl;first|assumption|omega)|exact zAN rfl|(apply zAG;exact rfl;(first|with_reducible exact zBg|with_reducible exact zA0);exact rfl;exact rfl)|(refine zAh zDU hI (zAa rfl zAR))|(refine zAZ [1,2,3,4] [] rfl rfl zCc (hB) rfl ?_ rfl (by decide) rfl rfl rfl rfl;(repeat (refine zAB rfl ?_));exact zAE)|(refine zCX (cs:=nnC ⟨54,[],0,0⟩) zIK zJ9 (PD_d rfl rfl zDR) rfl)|(refine zCG zEU zEJ zJ8 rfl rfl (zAa rfl zAR) rfl)|(apply aApp (id:=9) (hd:=rfl) (hro:=rfl);exact rfl;exact rfl;(first|exact zCw rfl|exact zDn rfl rfl rfl|exact Co_nn rfl);(first|exact rfl|exact(by simp));exact rfl;(with_reducible exact zEU);(with_reducible exact zEJ);(with_reducible exact zKA);(with_reducible exact zIX);(first|exact zF5 (fun _=>rfl)|exact zDv rfl))|apply ay (hd:=rfl)|exact zAJ rfl|exact zAD rfl|exact zAm rfl rfl|exact zCB rfl|exact zBR rfl|exact zAz rfl|(apply zA4;exact rfl;(with_reducible exact zDj))|exact zAH rfl|(apply zAC;exact rfl;(with_reducible exact zBV))|(apply zAM;exact rfl)|apply zAO|apply zAU|apply zAT|apply eb_n
 all_goals first|omega|(simp only[List.length_cons,List.length_nil];omega)|skip
 refine zI2 rfl ?_ rfl ?_
 ·rw[List.map_append];rfl
 ·rw[List.length_append];rfl
abbrev zY5(r:Raw)(w k x:Nat): Prop:=zA5 Tryz.prog 41 [.ptr 0 0,.d (w64 w),.d (i64 (k:Int))] (HO r.size r.now r.oth r.beg) (.tup [w64 x,bl true])
theorem zSb(m:Img)(r:Raw){w:Nat}{tag:Int}{n:Nat}{b:Bool}{x:Int}{t:List UInt8}{l:List Nn}{ws:Nat→Nat}{acc:Nat→List Nn}(h:¬4000<l.length)(hI:zAp Tryz.prog 54 [w64 w] (.tup [i64 0,bl false]))(hB:BlkQ r w 1 tag (n:Int) true)
  (ht:0≤tag) (_hpl:m.pool.length≤1048576) (hk:m.pool[tag.toNat]?=some ⟨b,x,t⟩) (h0:acc 0=l++[⟨53,t,0,(n:Int)⟩]) (hn:n≤4000) (hP:∀i,i<n→zY5 r w i (ws i)) (hS:∀i,i<n→zHf m r (acc i) (acc (i+1)) (ws i)):zHf m r l (acc n) w:=by
 have h1:¬(l.length:Int)>4000:=by omega
 have hbd:=(List.getElem?_eq_some_iff.1 hk).1
 have hat:=zBx (f:=enCn) hk
 refine zLM Tryz.func23 rfl Tryz.ntmps23 Tryz.results23 rfl ?_
 intro wb St0 X fx
 repeat' first|apply en_n|apply zAK|apply zAA|apply zAF|apply w0|(apply zDt;exact rfl;exact rfl;first|assumption|omega)|(apply zAn;exact rfl;exact rfl;first|assumption|omega)|(apply zAs;exact rfl;exact rfl;first|assumption|omega)|exact zAN rfl|(apply zAG;exact rfl;(first|with_reducible exact zBg|with_reducible exact zA0);exact rfl;exact rfl)|(refine zAh zDU hI (zAa rfl zAR))|(refine zAZ [1,2,3,4] [] rfl rfl zCc (hB) rfl ?_ rfl (by decide) rfl rfl rfl rfl;(repeat (refine zAB rfl ?_));exact zAE)|(refine zCX (cs:=nnC ⟨53,t,0,(n:Int)⟩) zIK zJ9 (PD_d rfl rfl (PD_d rfl rfl (PD_d rfl rfl zDR))) rfl)|(refine zCG zEU zEJ zJ8 rfl rfl (zAa rfl zAR) rfl)|(apply aApp (id:=9) (hd:=rfl) (hro:=rfl);exact rfl;exact rfl;(first|exact zCw rfl|exact zDn rfl rfl rfl|exact Co_nn rfl);(first|exact rfl|exact(by simp));exact rfl;(with_reducible exact zEU);(with_reducible exact zEJ);(with_reducible exact zKA);(with_reducible exact zIX);(first|exact zF5 (fun _=>rfl)|exact zDv rfl))|(apply aJ (hd:=rfl);(first|exact zCw rfl|exact zDn rfl rfl rfl|exact Co_nn rfl);exact rfl;(with_reducible exact zD7);assumption;omega;exact fun _=>rfl)|apply ay (hd:=rfl)|exact zAJ rfl|exact zAD rfl|(apply zFd;exact rfl;(with_reducible exact zEM))|(apply zC3;exact rfl;(with_reducible exact zFg))|exact zAm rfl rfl|exact zCB rfl|exact zBR rfl|exact zAz rfl|(apply zA4;exact rfl;(with_reducible exact zDj))|exact zAH rfl|(apply zAC;exact rfl;(with_reducible first|exact zCi|exact zBB|exact zBV))|(apply zAL;exact rfl)|(apply zAM;exact rfl)|apply zAO|apply zAU
 all_goals first|omega|(simp only[List.length_cons,List.length_nil];omega)|skip
 refine zBo (α:=Nat) (fun i=>i≤n) (fun i=>[(0,.ptr 0 0),(1,.buf 9 (acc i).length),(2,.d (w64 w)),(77,.d (i64 (n:Int))),(78,.d (i64 (i:Int)))]) (fun i=>MAr fx m r ((acc i).map nnD)) (fun i=>n-i) 0 (Nat.zero_le _) ?_ ?_
 ·rw[h0]
  refine zAV (zAI rfl (zOH rfl (by simp) (zAI rfl (zAI rfl (zAI rfl zAd))))) ?_ rfl rfl
  rw[List.map_append]
  exact zB2 (MAr fx m r _)
 ·intro i hi
  rcases Nat.lt_or_ge i n with hlt|hge
  ·have hPi:=hP i hlt
   have hSi:=hS i hlt
   have hc:(i:Int)<n:=by omega
   repeat' first|apply en_n|apply zAK|apply zAA|apply zAF|apply w0|(apply zC9;exact rfl;exact rfl;first|assumption|omega)|exact zAN rfl|(apply zAG;exact rfl;(first|with_reducible exact zBg|with_reducible exact zA0);exact rfl;exact rfl)|(refine zAZ [1,2,3,4] [] rfl rfl zEn (hPi) rfl ?_ rfl (by decide) rfl rfl rfl rfl;(repeat (refine zAB rfl ?_));exact zAE)|(refine aVMr zFW hSi ?_ rfl rfl ?_;(repeat (refine zAB rfl ?_));exact zAE)|apply ay (hd:=rfl)|exact zAJ rfl|exact zAD rfl|(apply zBL;exact rfl;exact rfl)|exact zAm rfl rfl|exact zBR rfl|exact zAz rfl|exact zAH rfl|(apply zAC;exact rfl;(with_reducible exact zBV))|(apply zAL;exact rfl)|apply zAO|apply zAU|apply eb_n
   all_goals first|omega|(simp only[List.length_cons,List.length_nil];omega)|skip
   refine⟨i+1,hlt,by omega,zAV (zAI rfl (zAI rfl (zAI rfl (zAI rfl (Le_d rfl (by push_cast;rfl) zAd))))) (zB2 _) rfl (zRl fx m r _)⟩
  ·have e:i=n:=by omega
   subst e
   have hc:¬(i:Int)<i:=by omega
   repeat' first|apply en_n|apply zAK|apply zAA|apply zAF|apply w0|(apply zCk;exact rfl;exact rfl;first|assumption|omega)|apply ay (hd:=rfl)|exact zBR rfl|exact zAz rfl|(apply zAM;exact rfl)|apply zAT|apply zBu|apply en_r|apply en_e|apply eb_r|apply eb_e
   all_goals first|omega|(simp only[List.length_cons,List.length_nil];omega)|skip
   all_goals exact zI2 rfl rfl rfl rfl
end Go.Proofs.YtcagoomibpcdlaaGreatDoor
namespace Go.Proofs.YtcagoomibpcdlaaGreatDoor
open Go.Sx Go.Vm
theorem zOC{k:Option Nat}{et:Option TypeId}{cs:List SV}: WOb (.bx none none cs) (.bx k et cs):=fun g w id h=>by
 obtain⟨b,e,us,h1,h2,h3,h4,h5,h6,h7,h8⟩:=h
 exact⟨b,e,us,h1,h2,h3,h4,h5,h6,(fun c hc=>by cases hc),(fun t ht=>by cases ht)⟩
theorem zK2{C:Ctx}{Q:Exit→Sl→List Ob→Prop}{σ:Sl}{η:List Ob}{id:Nat}{o:Array Oper}{dr:Bool}{c:Code}(h:Stop (awp C ((Code.region id o dr).seq c) Q σ η)): awp C ((Code.region id o dr).seq c) Q σ η:=by
 unfold Stop at h;exact h
abbrev idsR: List Nat:=[6,2,3,4,5,7,8,9,10]
def RA(sb:List SV)(m:Img)(r:Raw): List Ob :=
 [.gone,.box sb,.box [.buf 3 r.now.length,.buf 4 r.oth.length,.d (i64 r.size),.buf 5 r.beg.length],
  .buf true 58 1 (w64s r.now),.buf true 58 1 (w64s r.oth),.buf true 4 1 (bls r.beg),
  .box [.d (.slice (m.pool.map enCn)),.d (.slice (m.code.map enIn)),.ptr 2 0,.buf 7 r.stk.length,.d (i64 r.c.at_),.d (i64 r.c.base),.d (w64 r.c.fn),.buf 8 r.cls.length,.buf 9 r.trs.length,.d (i64 r.fin),.nil,.d (i64 r.num),.buf 10 r.out.length,.d (i64 r.steps)],
  .buf true 58 1 (w64s r.stk),.buf true 60 3 (r.cls.map enCl),.buf true 114 5 (r.trs.map enTy),.buf true 9 1 (r.out.map str)]
abbrev sb0: List SV:=[.d (i64 0),.nil,.d (i64 0),.nil,.d (i64 0)]
theorem zYf(m:Img)(r r':Raw): zDH (zEL (zBa idsR (MX m r)) idsR (RA sb0 m r)) idsR ((MX m r').map (Ob.ren idsR))=RA sb0 m r':=rfl
theorem zOE(m:Img)(r:Raw): Picks (RA sb0 m r) idsR (MX m r):=rfl
theorem zYg(m:Img)(r:Raw)(xs:List D): ηOf idsR (MX m r) (MXr m r xs) (RA sb0 m r)=RA sb0 m r++[.buf true 49 4 xs]:=rfl
theorem zQk: idsR.Nodup:=by decide
theorem zHg(m:Img)(r:Raw): (RA sb0 m r).all (Ob.below (RA sb0 m r).length)=true:=rfl
attribute [local irreducible] zAQ Program.underlying Ylds zBD alex zCA zBi awp zAp zCI zCH zAW zBw zA5 zD4 zB0 zBp zBF zBv zB9 zCE zES zBn zBm zBs
section
variable {N d:Nat}{w0:World}{St0:Stab}{X:Nat→Prop}{ops:Array Oper}{rest:List Oper}{K:Sl→List Ob→Prop}{σ:Sl}{ty:TypeId}{pos:String}{after:Array Edge}{gd:Option (Nat×Bool)}{f:FuncId}{args:List Operand}{ts:Array TypeId}{avs:List SV}{m:Img}{r r':Raw}{res:SV}{η:List Ob}
theorem aVMx(he:η=RA sb0 m r)(hb:zAQ Tryz.prog f=true)(hc:zAW Tryz.prog f avs (MX m r) res (MX m r'))(ha:SArgs σ idsR args avs)(hd:Nat.blt d N=true)(hba:avs.all (SV.bel 9)=true)
  (h:alex ⟨Tryz.prog,N,w0,St0,X,0⟩ false ops rest K ((d,res.ren idsR)::zDl (zBa idsR (MX m r)) idsR σ) (RA sb0 m r')) :
  zBD ⟨Tryz.prog,N,w0,St0,X,0⟩ false ops ⟨some d,.call ⟨.value (.func f),args.toArray,ts⟩,ty,pos,after,gd⟩ rest K σ η:=by
 subst he
 have hh:=(congrArg (alex ⟨Tryz.prog,N,w0,St0,X,0⟩ false ops rest K ((d,res.ren idsR)::zDl (zBa idsR (MX m r)) idsR σ)) (zYf m r r')).mpr h
 refine zGI (C:=⟨Tryz.prog,N,w0,St0,X,0⟩) (η:=RA sb0 m r) idsR hb hc ha (zOE m r) hd zQk ?_ ?_ ?_ hba ?_ ?_ hh
 ·rfl
 ·rfl
 ·rfl
 ·rfl
 ·rfl
theorem aVMs{xs:List D}{n:Nat}(hb:zAQ Tryz.prog f=true)(hc:zAW Tryz.prog f avs (MX m r) (.buf 9 n) (MXr m r xs))(ha:SArgs σ idsR args avs)(hd:Nat.blt d N=true)(hba:avs.all (SV.bel 9)=true)
  (h:alex ⟨Tryz.prog,N,w0,St0,X,0⟩ false ops rest K ((d,.buf 11 n)::zDl (zBa idsR (MX m r)) idsR σ) (RA sb0 m r++[.buf true 49 4 xs])) :
  zBD ⟨Tryz.prog,N,w0,St0,X,0⟩ false ops ⟨some d,.call ⟨.value (.func f),args.toArray,ts⟩,ty,pos,after,gd⟩ rest K σ (RA sb0 m r):=by
 have hh:=(congrArg (alex ⟨Tryz.prog,N,w0,St0,X,0⟩ false ops rest K ((d,.buf 11 n)::zDl (zBa idsR (MX m r)) idsR σ)) (zYg m r xs)).mpr h
 refine zN6 (C:=⟨Tryz.prog,N,w0,St0,X,0⟩) (η:=RA sb0 m r) idsR hb hc ha (zOE m r) hd zQk ?_ ?_ ?_ hba ?_ ?_ hh
 ·rfl
 ·rfl
 ·rfl
 ·rfl
 ·rfl
end
theorem zPp{m:Img}{A:Nat→Option VS}{s:St}(h:Lay m A s)(him:ImgOk m)(hw:s.words≤1048576)(oth:List Nat): ∀(f:Nat) (l:List Nn) (r:Rf),rkR r<f→Val s r→l.length≤4001→zHf m (rawS s oth) l (shN m s.all f l r) (wdN s.all s.ly r)
 |0,_,_,hf,_,_=>absurd hf (by omega)
 |f+1,l,r,hf,hv,hl=>by
  unfold shN
  by_cases h4:4000<l.length
  ·rw[if_pos h4];exact zPq m _ _ h4 hl
  rw[if_neg h4]
  cases r with
  |n v=>exact zSZ m _ h4 (zGN s.all s.ly hv.num)
  |b i =>
   have hi:=hv.ly i rfl
   have ho:=h.objs i (h.lt i hi)
   have hI:=zHD s.all s.ly (zP2 h hw hv)
   have hB:=zIF h hw oth hi
   dsimp only
   by_cases k4:(zAX s.all i).kind=4
   ·rw[if_pos k4]
    rw[k4]at hB
    exact zPo m _ h4 hI hB (zPY h hw oth hi k4)
   rw[if_neg k4]
   by_cases k1':(zAX s.all i).kind=1
   ·rw[if_pos k1']
    rw[if_neg k4,k1',zKX k4]at hB
    have hlt:=ho.con k1'
    have hp:(zAX s.all i).tag.toNat<m.pool.length:=by have:=ho.tag;omega
    have hg:m.pool[(zAX s.all i).tag.toNat]?=some (m.pool.getD (zAX s.all i).tag.toNat default):=by rw[List.getD_eq_getElem?_getD,List.getElem?_eq_getElem hp];rfl
    have hfew:=ho.few
    have hval:∀k,k<(zAX s.all i).parts.length→Val s ((zAX s.all i).parts.getD k default):=fun k hk=>h.part hi (by rw[List.getD_eq_getElem?_getD,List.getElem?_eq_getElem hk];exact List.getElem_mem _)
    have hC:=zSb m (rawS s oth) (n:=(zAX s.all i).parts.length) (l:=l) (ws:=fun k=>wdN s.all s.ly ((zAX s.all i).parts.getD k default))
     (acc:=fun k=>((zAX s.all i).parts.take k).foldl (shN m s.all f) (l++[⟨53,(m.pool.getD (zAX s.all i).tag.toNat default).text,0,(zAX s.all i).parts.length⟩])) h4 hI hB ho.tag.1 (by have:=him.pool;omega)
     (show m.pool[(zAX s.all i).tag.toNat]?=some ⟨(m.pool.getD (zAX s.all i).tag.toNat default).isText,(m.pool.getD (zAX s.all i).tag.toNat default).num,(m.pool.getD (zAX s.all i).tag.toNat default).text⟩from hg) rfl (by omega) (fun k hk=>zNS h hw oth hi k4 hk) (fun k hk=>?_)
    ·rw[List.take_length]at hC
     exact hC
    ·have e:(zAX s.all i).parts.take (k+1)=(zAX s.all i).parts.take k++[(zAX s.all i).parts.getD k default]:=by
      rw[List.getD_eq_getElem?_getD,List.getElem?_eq_getElem hk,Option.getD_some,List.take_succ_eq_append_getElem hk]
     rw[e,List.foldl_append,List.foldl_cons,List.foldl_nil]
     refine zPp h him hw oth f _ _ ?_ (hval k hk) (zKk (P:=fun l=>l.length≤4001) (fun b a _ hb=>zKL m s.all f b a hb) (by rw[List.length_append,List.length_singleton];omega))
     have hm:(zAX s.all i).parts.getD k default∈(zAX s.all i).parts:=by rw[List.getD_eq_getElem?_getD,List.getElem?_eq_getElem hk];exact List.getElem_mem _
     generalize (zAX s.all i).parts.getD k default=p at hm
     cases p with
     |n v=>simp only[rkR]at *;omega
     |b j =>
      have:=h.old i (h.lt i hi) k1' j hm
      simp only[rkR]at *;omega
   ·rw[if_neg k1']
    exact zSa m _ h4 hI hB k4 k1'
end Go.Proofs.YtcagoomibpcdlaaGreatDoor

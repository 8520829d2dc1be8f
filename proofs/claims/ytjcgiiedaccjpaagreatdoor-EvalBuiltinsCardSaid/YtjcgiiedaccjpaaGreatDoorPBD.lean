/- Parts. -/
import Derived.Test.YtjcgiiedaccjpaaGreatDoorPAP
import Derived.Test.YtjcgiiedaccjpaaGreatDoorPBC
set_option maxHeartbeats 16000000
namespace Go.Proofs.YtjcgiiedaccjpaaGreatDoor
open _root_.Go.Proofs.Tryz
open Go.Sx Go.Ev
theorem zZ3{bs:List Nat}{cs:List V}(hl:bs.length=cs.length){i:Nat}(hi:i<cs.length)(v:V): (hidL (zBc bs cs)).set i (.bx (some (bs.getD i 0)) none [.d (encV bs v)])=hidL (zBc bs (cs.set i v)):=by
 refine qBk fun j=>?_
 have hl2:bs.length=(cs.set i v).length:=by rw[qAv];exact hl
 rw[qAh,qAE]
 have hlen:(zBc bs cs).length=cs.length:=by unfold zBc;rw[List.length_zip,zDp];omega
 split
 ·rename_i e;subst e
  rw[if_pos oM,qAJ,zFm hl2 (by rw[qAv];exact hi)]
  rw[qAL (l:=cs.set i v),List.getElem?_set_self hi];rfl
 ·rename_i hne
  rw[qAJ,qAJ]
  rcases qAF j cs.length with hj|hj
  ·rw[zFm hl hj,zFm hl2 (by rw[qAv];exact hj)]
   rw[qAL (l:=cs.set i v),List.getElem?_set_ne hne,<-qAL]
  ·rw[qAj oM,qAj (by unfold zBc;rw[List.length_zip,zDp,qAv];omega)]
theorem zUh{bs:List Nat}{cs:List V}(hl:bs.length=cs.length){i:Nat}(hi:i<cs.length): (hidL (zBc bs cs))[i]?=some (.bx (some (bs.getD i 0)) none [.d (encV bs (cs.getD i default))]):=by
 rw[qAJ,zFm hl hi];rfl
theorem zZ4{bs:List Nat}{cs:List V}(hl:bs.length=cs.length)(hw:wfs bs.length cs)(b:Nat){v:V}(hv:v.wf bs.length): hidL (zBc bs cs)++[.bx (some b) none [.d (encV bs v)]]=hidL (zBc (bs++[b]) (cs++[v])):=by
 have hp:bs <+: bs++[b]:=List.prefix_append _ _
 unfold zBc
 rw[zIq,zIp hp cs hw,List.zip_append (by rw[zDp];exact hl)]
 show _=List.map _ (_++_)
 rw[qAZ]
 rw[show zDQ (bs++[b]) [v]=[encV bs v] by rw[zDQ,zDQ,zJ8 hp v hv]];rfl
theorem zdF{C:Ctx}{ops:Array Oper}{rest:List Oper}{K:Sl->List Ob->Prop}{σ:Sl}{η:List Ob}{d:Nat}{ty t:TypeId}{pos:String}{after:Array Edge}{gd:Option (Nat×Bool)}{x:Operand}{cs:List D}(hx:oval σ x=.d (.agg cs))(hd:Nat.blt d C.N=true)(hro:Nat.ble C.ro η.length=true)
  (h:∀b,alex C false ops rest K ((d,.d (pv b))::(d,.ptr η.length 0)::σ) (η++[.bx (some b) none (cs.map .d)])):zBJ C false ops ⟨some d,.box t x,ty,pos,after,gd⟩ rest K σ η:=by
 refine aBox hx rfl hd hro (zS3 d η.length (by rw[zBl,if_pos rfl]) (List.getElem?_concat_length (l:=η) (a:=Ob.box (cs.map .d))) fun b=>?_)
 have e:(η++[Ob.box (cs.map .d)]).set η.length (.bx (some b) none (cs.map .d))=η++[.bx (some b) none (cs.map .d)]:=by
  rw[List.set_append_right _ _ (qAN _),Nat.sub_self];rfl
 rw[e];exact h b
attribute [local irreducible] zAQ Program.underlying Ylds zBJ alex zBk zBZ awp zAX FCall zBo zBR zBX zEg zBb zBD zBd zBj zBn zBu zEL zBP VCall
theorem zYy(R:Rn)(s:S)(bs:List Nat)(hbs:bs.length=s.cells.length)(a b:V)(hn:(∀n,a≠.text n)\/∀n,b≠.text n): R.To 101 [.ptr 0 0,.d (.slice [encV bs a,encV bs b])] s bs (s.stop 4).2 (fun _=>encV [] (.num 0)):=by
 have hs:=zF8 R s bs hbs 4
 obtain⟨d1,e1⟩:=zDX bs a
 obtain⟨d2,e2⟩:=zDX bs b
 rcases zGQ a with⟨x,rfl⟩|ha
 ·rcases hn with hn|hn
  ·exact absurd rfl (hn x)
  ·have h2:=zKQ hn
   clear hn
   rw[e2]
   generalize tyV b=t2 at *
   refine Rn.to_of hbs func101 rfl ntmps101 results101 rfl ?_
   intro wb St0 X fx
   repeat' first|(refine zCa (zs:=[.string ByteArray.empty]) (hidL (zBc bs s.cells)) 2 (zBF _) ?_ rfl rfl rfl rfl rfl rfl rfl ?_;with_reducible exact zDd)|(refine zCa (zs:=[.string ByteArray.empty]) (hidL (zBc bs s.cells)) 3 (zBF _) ?_ rfl rfl rfl rfl rfl rfl rfl ?_;with_reducible exact zDd)|(refine zB0 4 2 2 rfl rfl rfl rfl rfl rfl rfl ?_)|apply en_n|apply zAE|apply zAA|apply zAD|apply w0|(apply zBG;exact rfl;exact rfl;(with_reducible exact zCE);exact(by decide);exact rfl;exact rfl;exact(by decide))|(apply zFN;exact rfl;with_reducible exact zDH)|(apply zFO;exact rfl;(first|exact rfl|assumption);with_reducible exact zDH;with_reducible exact zKE)|(refine zCH 4 [0,1] zDv (hs) rfl rfl rfl rfl (SArgs_all rfl) rfl rfl (by decide) rfl rfl rfl rfl rfl rfl rfl (fun y0 hy0=>⟨rfl,rfl,rfl,zA1 hy0.1 hbs hy0.2⟩) (fun y hy=>?_))|apply ay (hd:=rfl)|exact zAC rfl|exact zAB rfl|exact zAR rfl zC1|exact zBY rfl|exact zAi rfl rfl|exact zAb rfl rfl|exact zAU rfl|refine w1 rfl rfl ?_|(refine w0' ?_)|(apply zAq;exact rfl;exact rfl;exact rfl;(with_reducible exact zFb);exact rfl;exact rfl;exact rfl;exact rfl)|refine zAJ rfl ?_|apply zAH|apply en_r|apply eb_r
   all_goals exact Rn.retO hy rfl rfl rfl
 ·have h1:=zKQ ha
  rw[e1]
  clear hn ha
  generalize tyV a=t1 at *
  rcases zGQ b with⟨y,rfl⟩|hb2
  ·skip
   refine Rn.to_of hbs func101 rfl ntmps101 results101 rfl ?_
   intro wb St0 X fx
   repeat' first|(refine zCa (zs:=[.string ByteArray.empty]) (hidL (zBc bs s.cells)) 2 (zBF _) ?_ rfl rfl rfl rfl rfl rfl rfl ?_;with_reducible exact zDd)|(refine zCa (zs:=[.string ByteArray.empty]) (hidL (zBc bs s.cells)) 3 (zBF _) ?_ rfl rfl rfl rfl rfl rfl rfl ?_;with_reducible exact zDd)|(refine zB0 4 2 2 rfl rfl rfl rfl rfl rfl rfl ?_)|apply en_n|apply zAE|apply zAA|apply zAD|apply w0|refine k0u (hd:=rfl) rfl rfl ?_|(apply zBG;exact rfl;exact rfl;(with_reducible exact zCE);exact(by decide);exact rfl;exact rfl;exact(by decide))|(apply zFN;exact rfl;with_reducible exact zDH)|(apply zFO;exact rfl;(first|exact rfl|assumption);with_reducible exact zDH;with_reducible exact zKE)|(refine zCH 4 [0,1] zDv (hs) rfl rfl rfl rfl (SArgs_all rfl) rfl rfl (by decide) rfl rfl rfl rfl rfl rfl rfl (fun y0 hy0=>⟨rfl,rfl,rfl,zA1 hy0.1 hbs hy0.2⟩) (fun y hy=>?_))|apply ay (hd:=rfl)|exact zAC rfl|exact zAB rfl|exact zAR rfl zC1|exact zBY rfl|exact zAj rfl rfl|exact zAb rfl rfl|exact zAU rfl|(refine w0' ?_)|(apply zAq;exact rfl;exact rfl;exact rfl;(with_reducible exact zFb);exact rfl;exact rfl;exact rfl;exact rfl)|refine zAJ rfl ?_|apply zAH|apply en_r|apply eb_r
   all_goals exact Rn.retO hy rfl rfl rfl
  ·have h2:=zKQ hb2
   rw[e2]
   clear hb2
   generalize tyV b=t2 at *
   refine Rn.to_of hbs func101 rfl ntmps101 results101 rfl ?_
   intro wb St0 X fx
   repeat' first|(refine zCa (zs:=[.string ByteArray.empty]) (hidL (zBc bs s.cells)) 2 (zBF _) ?_ rfl rfl rfl rfl rfl rfl rfl ?_;with_reducible exact zDd)|(refine zCa (zs:=[.string ByteArray.empty]) (hidL (zBc bs s.cells)) 3 (zBF _) ?_ rfl rfl rfl rfl rfl rfl rfl ?_;with_reducible exact zDd)|(refine zB0 4 2 2 rfl rfl rfl rfl rfl rfl rfl ?_)|apply en_n|apply zAE|apply zAA|apply zAD|apply w0|refine k0u (hd:=rfl) rfl rfl ?_|(apply zBG;exact rfl;exact rfl;(with_reducible exact zCE);exact(by decide);exact rfl;exact rfl;exact(by decide))|(apply zFO;exact rfl;(first|exact rfl|assumption);with_reducible exact zDH;with_reducible exact zKE)|(refine zCH 4 [0,1] zDv (hs) rfl rfl rfl rfl (SArgs_all rfl) rfl rfl (by decide) rfl rfl rfl rfl rfl rfl rfl (fun y0 hy0=>⟨rfl,rfl,rfl,zA1 hy0.1 hbs hy0.2⟩) (fun y hy=>?_))|apply ay (hd:=rfl)|exact zAC rfl|exact zAB rfl|exact zAR rfl zC1|exact zBY rfl|exact zAj rfl rfl|exact zAb rfl rfl|exact zAU rfl|(refine w0' ?_)|(apply zAq;exact rfl;exact rfl;exact rfl;(with_reducible exact zFb);exact rfl;exact rfl;exact rfl;exact rfl)|refine zAJ rfl ?_|apply zAH|apply en_r|apply eb_r
   all_goals exact Rn.retO hy rfl rfl rfl
theorem zaq(R:Rn)(s:S)(bs:List Nat)(hbs:bs.length=s.cells.length)(x y:List UInt8)(h:200<x.length+y.length)(hx:x.length<=1000000)(hy':y.length<=1000000): R.To 101 [.ptr 0 0,.d (.slice [encV bs (.text x),encV bs (.text y)])] s bs (s.raise (-3)).2 (fun _=>encV [] (.num 0)):=by
 have hs:=zMh R s bs hbs (-3)
 have hg:(x.length:Int)+(y.length:Int)>200:=by omega
 refine Rn.to_of hbs func101 rfl ntmps101 results101 rfl ?_
 intro wb St0 X fx
 repeat' first|(refine zCa (zs:=[.string ByteArray.empty]) (hidL (zBc bs s.cells)) 2 (zBF _) ?_ rfl rfl rfl rfl rfl rfl rfl ?_;with_reducible exact zDd)|(refine zCa (zs:=[.string ByteArray.empty]) (hidL (zBc bs s.cells)) 3 (zBF _) ?_ rfl rfl rfl rfl rfl rfl rfl ?_;with_reducible exact zDd)|(refine zB0 4 2 2 rfl rfl rfl rfl rfl rfl rfl ?_)|apply en_n|apply zAE|apply zAA|apply zAD|apply w0|(apply zDK;exact rfl;with_reducible exact ustr)|(apply zBG;exact rfl;exact rfl;(with_reducible exact zCE);exact dC;exact rfl;exact rfl;exact dC)|(apply zFN;exact rfl;with_reducible exact zDH)|(refine zCH 4 [0,1] zJ5 (hs) rfl rfl rfl rfl (SArgs_all rfl) rfl rfl dC rfl rfl rfl rfl rfl rfl rfl (fun y0 hy0=>⟨rfl,rfl,rfl,zA1 hy0.1 hbs hy0.2⟩) (fun y hy=>?_))|refine ayA rfl ?_|refine ayQ rfl ?_|apply ay (hd:=rfl)|refine zBN rfl rfl ?_|refine w1 rfl rfl ?_|(refine w0' ?_)|refine aStA ?_|refine zAJ rfl ?_|refine zAK rfl ?_|apply zAH|apply en_r|apply eb_r
 all_goals first|omega|exact Rn.retO hy rfl rfl rfl
theorem zb8(R:Rn)(s:S)(bs:List Nat)(hbs:bs.length=s.cells.length)(x y:List UInt8)(h:¬200<x.length+y.length): R.To 101 [.ptr 0 0,.d (.slice [encV bs (.text x),encV bs (.text y)])] s bs s (fun _=>encV [] (.text (x++y))):=by
 have hg:¬(x.length:Int)+(y.length:Int)>200:=by omega
 refine Rn.to_of hbs func101 rfl ntmps101 results101 rfl ?_
 intro wb St0 X fx
 repeat' first|(refine zCa (zs:=[.string ByteArray.empty]) (hidL (zBc bs s.cells)) 2 (zBF _) ?_ rfl rfl rfl rfl rfl rfl rfl ?_;with_reducible exact zDd)|(refine zCa (zs:=[.string ByteArray.empty]) (hidL (zBc bs s.cells)) 3 (zBF _) ?_ rfl rfl rfl rfl rfl rfl rfl ?_;with_reducible exact zDd)|(refine zB0 4 2 2 rfl rfl rfl rfl rfl rfl rfl ?_)|apply en_n|apply zAE|apply zAA|apply zAD|apply w0|(apply zDK;exact rfl;with_reducible exact ustr)|(apply zQJ;exact rfl;exact rfl;omega)|(apply zBG;exact rfl;exact rfl;(with_reducible exact zCE);exact dC;exact rfl;exact rfl;exact dC)|(apply zFN;exact rfl;with_reducible exact zDH)|(apply zDj;exact rfl;with_reducible exact zDH)|exact zAo zRY zDd (PD_d rfl rfl zBE) rfl|refine ayA rfl ?_|refine ayQ rfl ?_|apply ay (hd:=rfl)|refine zBN rfl rfl ?_|refine w1 rfl rfl ?_|(refine w0' ?_)|refine aStA ?_|refine zAK rfl ?_|apply zAH|apply zAM|apply eb_n
 all_goals first|omega|exact Rn.retO (y:=bs) ⟨qAw,hbs⟩ rfl rfl rfl
theorem zbY(R:Rn)(s:S)(bs:List Nat)(hbs:bs.length=s.cells.length)(a:V)(r:List D)(hn:∀n,a≠.text n): R.To 102 [.ptr 0 0,.d (.slice (encV bs a::r))] s bs (s.stop 4).2 (fun _=>encV [] (.num 0)):=by
 have hs:=zF8 R s bs hbs 4
 obtain⟨d1,e1⟩:=zDX bs a
 have h1:=zKQ hn
 clear hn
 rw[e1]
 generalize tyV a=t1 at *
 refine Rn.to_of hbs func102 rfl ntmps102 results102 rfl ?_
 intro wb St0 X fx
 repeat' first|(refine zCa (zs:=[.string ByteArray.empty]) (hidL (zBc bs s.cells)) 2 (zBF _) ?_ rfl rfl rfl rfl rfl rfl rfl ?_;with_reducible exact zDd)|(refine zB0 4 2 1 rfl rfl rfl rfl rfl rfl rfl ?_)|apply en_n|apply zAE|apply zAA|apply zAD|apply w0|(apply zBG;exact rfl;exact rfl;(with_reducible exact zCE);exact(by decide);exact rfl;exact rfl;exact(by decide))|(apply zFO;exact rfl;(first|exact rfl|assumption);with_reducible exact zDH;with_reducible exact zKE)|(refine zCH 3 [0,1] zDv (hs) rfl rfl rfl rfl (SArgs_all rfl) rfl rfl (by decide) rfl rfl rfl rfl rfl rfl rfl (fun y0 hy0=>⟨rfl,rfl,rfl,zA1 hy0.1 hbs hy0.2⟩) (fun y hy=>?_))|apply ay (hd:=rfl)|exact zAC rfl|exact zAB rfl|exact zAR rfl zC1|exact zBY rfl|exact zAb rfl rfl|exact zAU rfl|(refine w0' ?_)|(apply zAq;exact rfl;exact rfl;exact rfl;(with_reducible exact zFb);exact rfl;exact rfl;exact rfl;exact rfl)|refine zAJ rfl ?_|apply en_r
 all_goals exact Rn.retO hy rfl rfl rfl
theorem zbX(R:Rn)(s:S)(bs:List Nat)(hbs:bs.length=s.cells.length)(x:List UInt8): R.To 102 [.ptr 0 0,.d (.slice [encV bs (.text x)])] s bs s (fun _=>encV [] (.num x.length)):=by
 refine Rn.to_of hbs func102 rfl ntmps102 results102 rfl ?_
 intro wb St0 X fx
 repeat' first|(refine zCa (zs:=[.string ByteArray.empty]) (hidL (zBc bs s.cells)) 2 (zBF _) ?_ rfl rfl rfl rfl rfl rfl rfl ?_;with_reducible exact zDd)|(refine zB0 4 2 1 rfl rfl rfl rfl rfl rfl rfl ?_)|apply en_n|apply zAE|apply zAA|apply zAD|apply w0|(apply zDK;exact rfl;with_reducible exact ustr)|(apply zBG;exact rfl;exact rfl;(with_reducible exact zCE);exact dC;exact rfl;exact rfl;exact dC)|(apply zFN;exact rfl;with_reducible exact zDH)|(apply zDj;exact rfl;with_reducible exact zCh)|exact zAo zD5 zCM (PD_d rfl rfl zBE) rfl|refine ayA rfl ?_|apply ay (hd:=rfl)|(refine w0' ?_)|refine aStA ?_|refine zAK rfl ?_|apply zAM
 all_goals exact Rn.retO (y:=bs) ⟨qAw,hbs⟩ rfl rfl rfl
theorem zbO(R:Rn)(s:S)(bs:List Nat)(hbs:bs.length=s.cells.length)(hw:s.wf)(v:V)(hv:v.wf s.cells.length): R.To 103 [.ptr 0 0,.d (.slice [encV bs v])] s bs { s with cells:=s.cells++[v] } (fun y=>encV y (.cell s.cells.length)):=by
 have hw':wfs bs.length s.cells:=by rw[hbs];exact hw
 have hv':v.wf bs.length:=by rw[hbs];exact hv
 obtain⟨d1,e1⟩:=zDX bs v
 have hnew:=fun b=>zZ4 hbs hw' b hv'
 rw[e1]at hnew ⊢
 generalize tyV v=t1 at *
 refine Rn.to_of hbs func103 rfl ntmps103 results103 rfl ?_
 intro wb St0 X fx
 repeat' first|(refine zdF rfl rfl rfl ?_;intro b)|apply en_n|apply zAE|apply zAA|apply zAD|apply w0|(apply zBG;exact rfl;exact rfl;(with_reducible exact zCE);exact dC;exact rfl;exact rfl;exact dC)|(refine zAo (cs:=[.ifc t1 d1]) zXw zXt (PD_d rfl rfl zBE) rfl)|(apply zDj;exact rfl;with_reducible exact zLI)|refine ayA rfl ?_|apply ay (hd:=rfl)|apply zAN
 refine Rn.ret0 (s':={ s with cells:=s.cells++[v] }) (y:=bs++[b]) ⟨List.prefix_append _ _,by simp[hbs]⟩ ?_ ?_
 ·show SV.d (.ifc 155 (pv b))=SV.d (.ifc 155 (pv ((bs++[b]).getD s.cells.length 0)))
  rw[<-hbs,qAL,List.getElem?_concat_length];rfl
 ·unfold Rn.MA
  rw[qAY]
  exact congrArg _ (hnew b)
theorem zbv(R:Rn)(s:S)(bs:List Nat)(hbs:bs.length=s.cells.length)(a:V)(r:List D)(hn:∀n,a≠.cell n): R.To 104 [.ptr 0 0,.d (.slice (encV bs a::r))] s bs (s.stop 4).2 (fun _=>encV [] (.num 0)):=by
 have hs:=zF8 R s bs hbs 4
 obtain⟨d1,e1⟩:=zDX bs a
 have h1:=zTX hn
 clear hn
 rw[e1]
 generalize tyV a=t1 at *
 refine Rn.to_of hbs func104 rfl ntmps104 results104 rfl ?_
 intro wb St0 X fx
 repeat' first|apply en_n|apply zAE|apply zAA|apply zAD|apply w0|(apply zBG;exact rfl;exact rfl;(with_reducible exact zCE);exact(by decide);exact rfl;exact rfl;exact(by decide))|(apply zFO;exact rfl;(first|exact rfl|assumption);with_reducible exact zLI;with_reducible exact zTA)|(refine zCH 2 [0,1] zDv (hs) rfl rfl rfl rfl (SArgs_all rfl) rfl rfl (by decide) rfl rfl rfl rfl rfl rfl rfl (fun y0 hy0=>⟨rfl,rfl,rfl,zA1 hy0.1 hbs hy0.2⟩) (fun y hy=>?_))|apply ay (hd:=rfl)|exact zAC rfl|exact zAB rfl|exact zAR rfl zC1|exact zBY rfl|exact zAb rfl rfl|exact zAU rfl|refine zAJ rfl ?_|apply zAN|apply en_r
 all_goals exact Rn.ret0 hy rfl rfl
theorem zbu(R:Rn)(s:S)(bs:List Nat)(hbs:bs.length=s.cells.length)(_hw:s.wf)(i:Nat)(hi:i<s.cells.length): R.To 104 [.ptr 0 0,.d (.slice [encV bs (.cell i)])] s bs s (fun y=>encV y (s.cells.getD i default)):=by
 refine Rn.to_of hbs func104 rfl ntmps104 results104 rfl ?_
 intro wb St0 X fx
 have hcell:(R.MA fx s bs)[i+2]?=some (.bx (some (bs.getD i 0)) none [.d (encV bs (s.cells.getD i default))]):=zUh hbs hi
 repeat' first|(refine zO8 5 (i+2) (bs.getD i 0) rfl hcell ?_)|apply en_n|apply zAE|apply zAA|apply zAD|apply w0|(apply zBG;exact rfl;exact rfl;(with_reducible exact zCE);exact(by decide);exact rfl;exact rfl;exact(by decide))|(apply zFN;exact rfl;with_reducible exact zLI)|exact zAn rfl|exact zAG rfl zC1 hcell rfl|apply ay (hd:=rfl)|exact zAC rfl|exact zAB rfl|exact zAR rfl zC1|exact zBY rfl|exact zAb rfl rfl|exact zAU rfl|exact zAI rfl zMF|refine zAK rfl ?_|apply zAM|apply zAN
 all_goals exact Rn.ret0 (y:=bs) ⟨qAw,hbs⟩ rfl rfl
theorem zbK(R:Rn)(s:S)(bs:List Nat)(hbs:bs.length=s.cells.length)(a:V)(r:List D)(hn:∀n,a≠.cell n): R.To 105 [.ptr 0 0,.d (.slice (encV bs a::r))] s bs (s.stop 4).2 (fun _=>encV [] (.num 0)):=by
 have hs:=zF8 R s bs hbs 4
 obtain⟨d1,e1⟩:=zDX bs a
 have h1:=zTX hn
 clear hn
 rw[e1]
 generalize tyV a=t1 at *
 refine Rn.to_of hbs func105 rfl ntmps105 results105 rfl ?_
 intro wb St0 X fx
 repeat' first|apply en_n|apply zAE|apply zAA|apply zAD|apply w0|(apply zBG;exact rfl;exact rfl;(with_reducible exact zCE);exact(by decide);exact rfl;exact rfl;exact(by decide))|(apply zFO;exact rfl;(first|exact rfl|assumption);with_reducible exact zLI;with_reducible exact zTA)|(refine zCH 2 [0,1] zDv (hs) rfl rfl rfl rfl (SArgs_all rfl) rfl rfl (by decide) rfl rfl rfl rfl rfl rfl rfl (fun y0 hy0=>⟨rfl,rfl,rfl,zA1 hy0.1 hbs hy0.2⟩) (fun y hy=>?_))|apply ay (hd:=rfl)|exact zAC rfl|exact zAB rfl|exact zAR rfl zC1|exact zBY rfl|exact zAb rfl rfl|exact zAU rfl|refine zAJ rfl ?_|apply zAN|apply en_r
 all_goals exact Rn.ret0 hy rfl rfl
theorem zbJ(R:Rn)(s:S)(bs:List Nat)(hbs:bs.length=s.cells.length)(i:Nat)(hi:i<s.cells.length)(v:V): R.To 105 [.ptr 0 0,.d (.slice [encV bs (.cell i),encV bs v])] s bs { s with cells:=s.cells.set i v } (fun _=>encV [] (.num 0)):=by
 obtain⟨d1,e1⟩:=zDX bs v
 have hnew:=zZ3 hbs hi v
 rw[e1]at hnew ⊢
 generalize tyV v=t1 at *
 refine Rn.to_of hbs func105 rfl ntmps105 results105 rfl ?_
 intro wb St0 X fx
 have hcell:(R.MA fx s bs)[i+2]?=some (.bx (some (bs.getD i 0)) none [.d (encV bs (s.cells.getD i default))]):=zUh hbs hi
 repeat' first|(refine zO8 5 (i+2) (bs.getD i 0) rfl hcell ?_)|apply en_n|apply zAE|apply zAA|apply zAD|apply w0|(apply zBG;exact rfl;exact rfl;(with_reducible exact zCE);exact dC;exact rfl;exact rfl;exact dC)|(apply zFN;exact rfl;with_reducible exact zLI)|(apply zAq;exact rfl;exact rfl;exact rfl;(with_reducible exact zC1);exact hcell;exact rfl;exact rfl;exact rfl)|exact zAo zD5 zCM zBE rfl|(apply zDj;exact rfl;with_reducible exact zCh)|refine ayA rfl ?_|apply ay (hd:=rfl)|(refine w0' ?_)|refine zAK rfl ?_|apply zAM|apply zAN
 all_goals skip
 refine Rn.ret0 (s':={ s with cells:=s.cells.set i v }) (y:=bs) ⟨qAw,by rw[qAv];exact hbs⟩ rfl ?_
 show _=_::_::hidL (zBc bs (s.cells.set i v))
 rw[<-hnew];rfl
end Go.Proofs.YtjcgiiedaccjpaaGreatDoor
namespace Go.Proofs.YtjcgiiedaccjpaaGreatDoor
open _root_.Go.Proofs.Tryz
open Go.Sx Go.Ev
theorem zbG{C:Ctx}{Q:Exit->Sl->List Ob->Prop}{σ:Sl}{η:List Ob}{id:Nat}{ops:Array Oper}{dr:Bool}{c:Code}(h:Stop (awp C ((Code.region id ops dr).seq c) Q σ η)): awp C ((Code.region id ops dr).seq c) Q σ η:=by
 unfold Stop at h;exact h
attribute [local irreducible] zAQ Program.underlying Ylds zBJ alex zBk zBZ awp zAX FCall zBo zBR zBX zEg zBb zBD zBd zBj zBn zBu zEL zBP VCall
theorem zbQ(R:Rn)(s:S)(bs:List Nat)(hbs:bs.length=s.cells.length)(a:V)(r:List D)(hn:∀n,a≠.num n): R.To 106 [.ptr 0 0,.d (.slice (encV bs a::r))] s bs (s.stop 4).2 (fun _=>encV [] (.num 0)):=by
 have hs:=zF8 R s bs hbs 4
 obtain⟨d1,e1⟩:=zDX bs a
 have h1:=zIN hn
 clear hn
 rw[e1]
 generalize tyV a=t1 at *
 refine Rn.to_of hbs func106 rfl ntmps106 results106 rfl ?_
 intro wb St0 X fx
 repeat' first|(refine zCa (zs:=[.int .i64 0]) (hidL (zBc bs s.cells)) 2 (zBF _) ?_ rfl rfl rfl rfl rfl rfl rfl ?_;with_reducible exact zCM)|(refine zB0 4 2 1 rfl rfl rfl rfl rfl rfl rfl ?_)|apply en_n|apply zAE|apply zAA|apply zAD|apply w0|(apply zBG;exact rfl;exact rfl;(with_reducible exact zCE);exact(by decide);exact rfl;exact rfl;exact(by decide))|(apply zFO;exact rfl;(first|exact rfl|assumption);with_reducible exact zCh;with_reducible exact zIG)|(refine zCH 3 [0,1] zDv (hs) rfl rfl rfl rfl (SArgs_all rfl) rfl rfl (by decide) rfl rfl rfl rfl rfl rfl rfl (fun y0 hy0=>⟨rfl,rfl,rfl,zA1 hy0.1 hbs hy0.2⟩) (fun y hy=>?_))|apply ay (hd:=rfl)|exact zAC rfl|exact zAB rfl|exact zAR rfl zC1|exact zBY rfl|exact zAb rfl rfl|exact zAU rfl|(refine w0' ?_)|(apply zAq;exact rfl;exact rfl;exact rfl;(with_reducible exact zDw);exact rfl;exact rfl;exact rfl;exact rfl)|refine zAJ rfl ?_|apply en_r
 all_goals exact Rn.retO hy rfl rfl rfl
theorem zbM(R:Rn)(s:S)(bs:List Nat)(hbs:bs.length=s.cells.length)(a:V)(r:List D)(hn:∀n,a≠.text n): R.To 108 [.ptr 0 0,.d (.slice (encV bs a::r))] s bs (s.stop 4).2 (fun _=>encV [] (.num 0)):=by
 have hs:=zF8 R s bs hbs 4
 obtain⟨d1,e1⟩:=zDX bs a
 have h1:=zKQ hn
 clear hn
 rw[e1]
 generalize tyV a=t1 at *
 refine Rn.to_of hbs func108 rfl ntmps108 results108 rfl ?_
 intro wb St0 X fx
 repeat' first|(refine zCa (zs:=[.string ByteArray.empty]) (hidL (zBc bs s.cells)) 2 (zBF _) ?_ rfl rfl rfl rfl rfl rfl rfl ?_;with_reducible exact zDd)|(refine zB0 4 2 1 rfl rfl rfl rfl rfl rfl rfl ?_)|apply en_n|apply zAE|apply zAA|apply zAD|apply w0|(apply zBG;exact rfl;exact rfl;(with_reducible exact zCE);exact(by decide);exact rfl;exact rfl;exact(by decide))|(apply zFO;exact rfl;(first|exact rfl|assumption);with_reducible exact zDH;with_reducible exact zKE)|(refine zCH 3 [0,1] zDv (hs) rfl rfl rfl rfl (SArgs_all rfl) rfl rfl (by decide) rfl rfl rfl rfl rfl rfl rfl (fun y0 hy0=>⟨rfl,rfl,rfl,zA1 hy0.1 hbs hy0.2⟩) (fun y hy=>?_))|apply ay (hd:=rfl)|exact zAC rfl|exact zAB rfl|exact zAR rfl zC1|exact zBY rfl|exact zAb rfl rfl|exact zAU rfl|(refine w0' ?_)|(apply zAq;exact rfl;exact rfl;exact rfl;(with_reducible exact zFb);exact rfl;exact rfl;exact rfl;exact rfl)|refine zAJ rfl ?_|apply en_r
 all_goals exact Rn.retO hy rfl rfl rfl
theorem zbP(R:Rn)(s:S)(bs:List Nat)(hbs:bs.length=s.cells.length)(x:Int)(ho:s.out.length<=1000000): R.To 106 [.ptr 0 0,.d (.slice [encV bs (.num x)])] s bs (s.put (shw (W x))) (fun _=>encV [] (.num x)):=by
 refine Rn.to_of hbs func106 rfl ntmps106 results106 rfl ?_
 intro wb St0 X fx
 repeat' first|(refine zbG (id:=4) ?_)|(refine zCa (zs:=[.int .i64 0]) (hidL (zBc bs s.cells)) 2 (zBF _) ?_ rfl rfl rfl rfl rfl rfl rfl ?_;with_reducible exact zCM)|apply en_n|apply zAE|apply zAA|apply zAD|apply w0|(apply zBG;exact rfl;exact rfl;(with_reducible exact zCE);exact dC;exact rfl;exact rfl;exact dC)|(apply zFN;exact rfl;with_reducible exact zCh)|refine ayA rfl ?_|apply ay (hd:=rfl)|(refine w0' ?_)|refine aStA ?_|refine zAK rfl ?_|apply zAM
 refine Stop.go ?_
 refine zAE ?_
 refine zIy [.ptr 0 0,.ptr 0 0,.ptr 0 0,.ptr 0 (0+4),.buf 1 s.out.length,.ptr 2 (0+0),.d (i64 x),.d (str (shw (W x))),.d (.slice [str (shw (W x))]),.buf 1 (s.out.length+1),.ptr 0 0,.ptr 0 (0+4),.top] [9,12]
  [[.bx (fx 0) none [.d (zAu R.L),.d (dts R.T),.d (i64 (R.fuel:Int)),.d (i64 (s.steps:Int)),.buf 1 s.out.length,.d (i64 s.fin),.d (i64 s.raised)],.buf true 9 1 (s.out.map str),.box [.d (i64 x)]]++hidL (zBc bs s.cells),[.bx (fx 0) none [.d (zAu R.L),.d (dts R.T),.d (i64 (R.fuel:Int)),.d (i64 (s.steps:Int)),.top,.d (i64 s.fin),.d (i64 s.raised)],.buf true 9 1 (s.out.map str++[str (shw (W x))]),.box [.d (i64 x)]]++hidL (zBc bs s.cells),[.bx (fx 0) none [.d (zAu R.L),.d (dts R.T),.d (i64 (R.fuel:Int)),.d (i64 (s.steps:Int)),.buf 1 (s.out.length+1),.d (i64 s.fin),.d (i64 s.raised)],.buf true 9 1 (s.out.map str++[str (shw (W x))]),.box [.d (i64 x)]]++hidL (zBc bs s.cells)] 9 [22] (nobB 1) rfl dK (zMj rfl rfl) kR kR rfl (.inl rfl) rfl kR rfl rfl ?_ ?_
 ·refine zBx rfl rfl rfl (fun η=>zAU rfl) ?_
  refine zBx rfl rfl rfl (fun η=>zAU rfl) ?_
  refine zBx rfl rfl rfl (fun η=>zAn rfl) ?_
  refine zBx rfl rfl rfl (fun η=>zAI rfl zFH) ?_
  refine zQo rfl rfl rfl dK dK rfl (zAG rfl zCK rfl rfl) ?_
  refine zBx rfl rfl rfl (fun η=>zAI rfl zFz) ?_
  refine zQo rfl rfl rfl dK dK rfl (zAG rfl zBi rfl rfl) ?_
  refine zBx rfl rfl rfl (fun η=>zAP zXN (zWc x) (zAL rfl zAF)) ?_
  refine zBx rfl rfl rfl (fun η=>zCI zBL zA6 zCq rfl rfl (zAL rfl zAF) rfl) ?_
  refine zMe (ys:=[str (shw (W x))]) (m:=1) 0 rfl rfl rfl rfl rfl rfl (qAE _).symm rfl zBL zA6 zDe zCx rfl rfl (zDP rfl) oM ?_ ?_
  ·show _=(zFR 1 (_++hidL _)).set 1 _
   rw[zKq,zKp];rfl
  refine zBx rfl rfl rfl (fun η=>zAn rfl) ?_
  refine zBx rfl rfl rfl (fun η=>zAI rfl zFH) ?_
  refine zLo 1 rfl rfl rfl rfl rfl zCK rfl rfl rfl rfl rfl rfl ?_
  exact zJx
 skip
 repeat' first|(refine zB0 4 2 1 rfl rfl rfl rfl rfl rfl rfl ?_)|apply en_n|apply zAE|apply zAA|apply zAD|apply w0|(apply zDj;exact rfl;with_reducible exact zCh)|refine ayA rfl ?_|apply ay (hd:=rfl)
 all_goals refine Rn.retO (s':=s.put (shw (W x))) (y:=bs) ⟨qAw,hbs⟩ rfl ?_ rfl
 all_goals simp[S.put,List.map_append]
theorem zbL(R:Rn)(s:S)(bs:List Nat)(hbs:bs.length=s.cells.length)(x:List UInt8)(ho:s.out.length<=1000000): R.To 108 [.ptr 0 0,.d (.slice [encV bs (.text x)])] s bs (s.put (x)) (fun _=>encV [] (.num 0)):=by
 refine Rn.to_of hbs func108 rfl ntmps108 results108 rfl ?_
 intro wb St0 X fx
 repeat' first|(refine zbG (id:=4) ?_)|(refine zCa (zs:=[.string ByteArray.empty]) (hidL (zBc bs s.cells)) 2 (zBF _) ?_ rfl rfl rfl rfl rfl rfl rfl ?_;with_reducible exact zDd)|apply en_n|apply zAE|apply zAA|apply zAD|apply w0|(apply zBG;exact rfl;exact rfl;(with_reducible exact zCE);exact dC;exact rfl;exact rfl;exact dC)|(apply zFN;exact rfl;with_reducible exact zDH)|refine ayA rfl ?_|apply ay (hd:=rfl)|(refine w0' ?_)|refine aStA ?_|refine zAK rfl ?_|apply zAM
 refine Stop.go ?_
 refine zAE ?_
 refine zIy [.ptr 0 0,.ptr 0 0,.ptr 0 0,.ptr 0 (0+4),.buf 1 s.out.length,.ptr 2 (0+0),.d (str x),.d (.slice [str (x)]),.buf 1 (s.out.length+1),.ptr 0 0,.ptr 0 (0+4),.top] [8,11]
  [[.bx (fx 0) none [.d (zAu R.L),.d (dts R.T),.d (i64 (R.fuel:Int)),.d (i64 (s.steps:Int)),.buf 1 s.out.length,.d (i64 s.fin),.d (i64 s.raised)],.buf true 9 1 (s.out.map str),.box [.d (str x)]]++hidL (zBc bs s.cells),[.bx (fx 0) none [.d (zAu R.L),.d (dts R.T),.d (i64 (R.fuel:Int)),.d (i64 (s.steps:Int)),.top,.d (i64 s.fin),.d (i64 s.raised)],.buf true 9 1 (s.out.map str++[str (x)]),.box [.d (str x)]]++hidL (zBc bs s.cells),[.bx (fx 0) none [.d (zAu R.L),.d (dts R.T),.d (i64 (R.fuel:Int)),.d (i64 (s.steps:Int)),.buf 1 (s.out.length+1),.d (i64 s.fin),.d (i64 s.raised)],.buf true 9 1 (s.out.map str++[str (x)]),.box [.d (str x)]]++hidL (zBc bs s.cells)] 8 [22] (nobB 1) rfl dK (zMj rfl rfl) kR kR rfl (.inl rfl) rfl kR rfl rfl ?_ ?_
 ·refine zBx rfl rfl rfl (fun η=>zAU rfl) ?_
  refine zBx rfl rfl rfl (fun η=>zAU rfl) ?_
  refine zBx rfl rfl rfl (fun η=>zAn rfl) ?_
  refine zBx rfl rfl rfl (fun η=>zAI rfl zFH) ?_
  refine zQo rfl rfl rfl dK dK rfl (zAG rfl zCK rfl rfl) ?_
  refine zBx rfl rfl rfl (fun η=>zAI rfl zGf) ?_
  refine zQo rfl rfl rfl dK dK rfl (zAG rfl zAf rfl rfl) ?_
  refine zBx rfl rfl rfl (fun η=>zCI zBL zA6 zCq rfl rfl (zAL rfl zAF) rfl) ?_
  refine zMe (ys:=[str (x)]) (m:=1) 0 rfl rfl rfl rfl rfl rfl (qAE _).symm rfl zBL zA6 zDe zCx rfl rfl (zDP rfl) oM ?_ ?_
  ·show _=(zFR 1 (_++hidL _)).set 1 _
   rw[zKq,zKp];rfl
  refine zBx rfl rfl rfl (fun η=>zAn rfl) ?_
  refine zBx rfl rfl rfl (fun η=>zAI rfl zFH) ?_
  refine zLo 1 rfl rfl rfl rfl rfl zCK rfl rfl rfl rfl rfl rfl ?_
  exact zJx
 skip
 repeat' first|(refine zB0 4 2 1 rfl rfl rfl rfl rfl rfl rfl ?_)|apply en_n|apply zAE|apply zAA|apply zAD|apply w0|exact zAo zD5 zCM zBE rfl|(apply zDj;exact rfl;with_reducible exact zCh)|refine ayA rfl ?_|apply ay (hd:=rfl)
 all_goals refine Rn.retO (s':=s.put (x)) (y:=bs) ⟨qAw,hbs⟩ rfl ?_ rfl
 all_goals simp[S.put,List.map_append]
end Go.Proofs.YtjcgiiedaccjpaaGreatDoor
namespace Go.Proofs.YtjcgiiedaccjpaaGreatDoor
open _root_.Go.Proofs.Tryz
open Go.Sx Go.Ev
def payV(bs:List Nat): V->D
 | .num n=>.agg [i64 n]
 | .text t=>.agg [str t]
 | .con n need args=>.ref [str n,.slice (zDQ bs args),i64 need]
 | .prim p args=>.ref [str (zCS p),i64 (pneed p),pdo p,.slice (zDQ bs args)]
 | .fn n k self env=>.ref [str n,i64 k,encE bs env,str self]
 | .cell i=>pv (bs.getD i 0)
theorem zHl(bs:List Nat)(v:V): encV bs v=.ifc (tyV v) (payV bs v):=by cases v <;> rfl
theorem zIr(v:V): (fun y=>encV y v)=fun y=>.ifc (tyV v) (payV y v):=funext fun y=>zHl y v
theorem zPX{R:Rn}{s:S}{bs:List Nat}(hbs:bs.length=s.cells.length){f:FuncId}(hbf:zAQ prog f=true)(p:Nat)(hp:p<7)(a b:V)
  (hF:∀x y,R.To f [.ptr 0 0,.d (i64 x),.d (i64 y)] s bs (s.ints p x y).2 (fun _=>encV [] (s.ints p x y).1)) :
  R.To 147 ([.ptr 0 0,.d (.slice (zDQ bs [a,b]))]++[D.ref [.clo f []]].map SV.d) s bs (s.doP shwW p [a,b]).2 (fun y=>encV y (s.doP shwW p [a,b]).1):=by
 have no:((∀n,a≠.num n)\/∀n,b≠.num n)->s.doP shwW p [a,b]=s.stop 4:=fun h=>by
  unfold S.doP
  rw[if_pos hp]
  rcases h with h|h
  ·cases a <;> first|rfl|exact absurd rfl (h _)
  ·cases b <;> first|(cases a <;> rfl)|exact absurd rfl (h _)
 rcases zGC a with⟨x,rfl⟩|ha
 ·rcases zGC b with⟨y,rfl⟩|hb
  ·have e:s.doP shwW p [.num x,.num y]=s.ints p x y:=by unfold S.doP;rw[if_pos hp];rfl
   rw[e]
   have h:=hF x y
   obtain⟨⟨n,hn⟩,_⟩:=zMo s p x y
   generalize s.ints p x y=r at *
   obtain⟨r1,r2⟩:=r
   dsimp only at hn h ⊢;subst hn
   exact zUb R s r2 bs hbs f hbf x y n h
  ·rw[no (.inr hb)];exact zRB R s bs hbs f _ _ (.inr hb)
 ·rw[no (.inl ha)];exact zRB R s bs hbs f _ _ (.inl ha)
theorem zc2{R:Rn}{s:S}{bs:List Nat}(hbs:bs.length=s.cells.length)(hw:s.wf){N:Nat}(ho:s.out.length<=N)(hN:N<=100000)(p:Nat)(hp:p<14){l:List V}(hl:l.length=pneed p)(hv:VsOk R N l)(hwl:wfs s.cells.length l):
  ∃f cs,pdo p=.clo f cs/\zAQ prog f=true/\R.To f ([.ptr 0 0,.d (.slice (zDQ bs l))]++cs.map SV.d) s bs (s.doP shwW p l).2 (fun y=>encV y (s.doP shwW p l).1):=by
 have ho':s.out.length<=1000000:=by omega
 have hdz:∀x y:Int,s.ints 3 x y=if Wn y=0 then s.raise (-2)else(.num (Wn ((Wn x).tdiv (Wn y))),s):=fun x y=>rfl
 have hmz:∀x y:Int,s.ints 4 x y=if Wn y=0 then s.raise (-2)else(.num ((Wn x).tmod (Wn y)),s):=fun x y=>rfl
 match p,hp,l,hl,hv,hwl with
 |0,_,[a,b],_,_,_=>exact⟨_,_,rfl,zG2,zPX hbs zcz 0 dC a b fun x y=>b1_E R s bs hbs x y⟩
 |1,_,[a,b],_,_,_=>exact⟨_,_,rfl,zG2,zPX hbs zcy 1 dC a b fun x y=>b2_E R s bs hbs x y⟩
 |2,_,[a,b],_,_,_=>exact⟨_,_,rfl,zG2,zPX hbs zcx 2 dC a b fun x y=>b3_E R s bs hbs x y⟩
 |3,_,[a,b],_,_,_=>exact⟨_,_,rfl,zG2,zPX hbs zcw 3 dC a b fun x y=>by
   rw[hdz]
   by_cases h:Wn y=0
   ·rw[if_pos h];exact zc8 R s bs hbs x y h
   ·rw[if_neg h];exact zc7 R s bs hbs x y h⟩
 |4,_,[a,b],_,_,_=>exact⟨_,_,rfl,zG2,zPX hbs zcv 4 dC a b fun x y=>by
   rw[hmz]
   by_cases h:Wn y=0
   ·rw[if_pos h];exact zc6 R s bs hbs x y h
   ·rw[if_neg h];exact zc5 R s bs hbs x y h⟩
 |5,_,[a,b],_,_,_=>exact⟨_,_,rfl,zG2,zPX hbs zcu 5 dC a b fun x y=>b6_E R s bs hbs x y⟩
 |6,_,[a,b],_,_,_=>exact⟨_,_,rfl,zG2,zPX hbs zct 6 dC a b fun x y=>b7_E R s bs hbs x y⟩
 |7,_,[a,b],_,hv,_ =>
  refine⟨_,_,rfl,zbq,?_⟩
  rcases zGQ a with⟨x,rfl⟩|ha
  ·rcases zGQ b with⟨y,rfl⟩|hb
   ·have hx:x.length<=1000:=hv.1
    have hy:y.length<=1000:=hv.2.1
    have e:s.doP shwW 7 [.text x,.text y]=if x.length+y.length>200 then s.raise (-3)else(.text (x++y),s):=rfl
    rw[e]
    by_cases h:x.length+y.length>200
    ·rw[if_pos h];exact zaq R s bs hbs x y h oM oM
    ·rw[if_neg h];exact zb8 R s bs hbs x y h
   ·have e:s.doP shwW 7 [.text x,b]=s.stop 4:=by
     show (match (.text x:V),b with | .text x,.text y=>if x.length+y.length>200 then s.raise (-3)else(.text (x++y),s)|_,_=>s.stop 4)=_
     cases b <;> first|rfl|exact absurd rfl (hb _)
    rw[e];exact zYy R s bs hbs _ _ (.inr hb)
  ·have e:s.doP shwW 7 [a,b]=s.stop 4:=by
    show (match a,b with | .text x,.text y=>if x.length+y.length>200 then s.raise (-3)else(.text (x++y),s)|_,_=>s.stop 4)=_
    cases a <;> first|rfl|exact absurd rfl (ha _)
   rw[e];exact zYy R s bs hbs _ _ (.inl ha)
 |8,_,[a],_,_,_ =>
  refine⟨_,_,rfl,zcs,?_⟩
  rcases zGQ a with⟨x,rfl⟩|ha
  ·exact zbX R s bs hbs x
  ·have e:s.doP shwW 8 [a]=s.stop 4:=by cases a <;> first|rfl|exact absurd rfl (ha _)
   rw[e];exact zbY R s bs hbs a [] ha
 |9,_,[a],_,_,hwl=>exact⟨_,_,rfl,zcr,zbO R s bs hbs hw a hwl.1⟩
 |10,_,[a],_,_,hwl =>
  refine⟨_,_,rfl,zbt,?_⟩
  rcases zNN a with⟨i,rfl⟩|ha
  ·exact zbu R s bs hbs hw i hwl.1
  ·have e:s.doP shwW 10 [a]=s.stop 4:=by cases a <;> first|rfl|exact absurd rfl (ha _)
   rw[e];exact zbv R s bs hbs a [] ha
 |11,_,[a,b],_,_,hwl =>
  refine⟨_,_,rfl,zbp,?_⟩
  rcases zNN a with⟨i,rfl⟩|ha
  ·exact zbJ R s bs hbs i hwl.1 b
  ·have e:s.doP shwW 11 [a,b]=s.stop 4:=by cases a <;> first|rfl|exact absurd rfl (ha _)
   rw[e];exact zbK R s bs hbs a [encV bs b] ha
 |12,_,[a],_,_,_ =>
  refine⟨_,_,rfl,zbs,?_⟩
  rcases zGC a with⟨x,rfl⟩|ha
  ·exact zbP R s bs hbs x ho'
  ·have e:s.doP shwW 12 [a]=s.stop 4:=by cases a <;> first|rfl|exact absurd rfl (ha _)
   rw[e];exact zbQ R s bs hbs a [] ha
 |13,_,[a],_,_,_ =>
  refine⟨_,_,rfl,zbr,?_⟩
  rcases zGQ a with⟨x,rfl⟩|ha
  ·exact zbL R s bs hbs x ho'
  ·have e:s.doP shwW 13 [a]=s.stop 4:=by cases a <;> first|rfl|exact absurd rfl (ha _)
   rw[e];exact zbM R s bs hbs a [] ha
 |p+14,hp,_,_,_,_=>omega
theorem zau{R:Rn}{s:S}{bs:List Nat}(hbs:bs.length=s.cells.length)(hw:s.wf){N:Nat}(ho:s.out.length<=N)(hN:N<=100000){ex:S->Nat->Env->V×S}{f a:V}(hf:VOk R N f)(ha:VOk R N a)(hfw:f.wf s.cells.length)(haw:a.wf s.cells.length)
  (hx:s.fin=0->∀k e,ExAt R k->EOk R N e->e.wf s.cells.length->R.To 23 [.ptr 0 0,.d (i64 (k:Int)),.d (encE bs e)] s bs (ex s k e).2 (fun y=>encV y (ex s k e).1)) :
  R.To 49 [.ptr 0 0,.d (encV bs f),.d (encV bs a)] s bs (s.apply shwW ex f a).2 (fun y=>encV y (s.apply shwW ex f a).1):=by
 unfold S.apply
 by_cases h0:s.fin=0
 ·rw[if_neg (by omega:¬s.fin≠0)]
  match f,hf,hfw with
  | .fn n k self env,hf,hfw =>
   dsimp only
   by_cases hs:self=[]
   ·rw[if_pos hs]
    have:=hx h0 k (.cons n a env) hf.1 ⟨ha,hf.2⟩ ⟨haw,hfw⟩
    subst hs
    exact zYG R s bs hbs h0 n k env a this
   ·rw[if_neg hs]
    exact zV3 R s bs hbs h0 n k self hs env a (hx h0 k (.cons n a (.cons self (.fn n k self env) env)) hf.1 ⟨ha,hf,hf.2⟩ ⟨haw,hfw,hfw⟩)
  | .prim p args,hf,hfw =>
   dsimp only
   have hb:args.length<=1000000:=by have:=hf.2.1;omega
   by_cases hl:args.length+1=pneed p
   ·rw[if_pos hl]
    have hp:p<14:=by
     rcases qAF p 14 with h|h
     ·exact h
     ·have:p=14:=by have:=hf.1;omega
      subst this;exact absurd hl (by show ¬_=0;omega)
    obtain⟨g,cs,hd,hbf,hE⟩:=zc2 (l:=args++[a]) hbs hw ho hN p hp (by rw[qAH];exact hl) (VsOk.app hf.2.2 ⟨ha,trivial⟩) (zHw hfw ⟨haw,trivial⟩)
    exact zYH R s bs hbs h0 p args a hl hb hd hbf hE
   ·rw[if_neg hl];exact zS1 R s bs hbs h0 p args a hl hb
  | .con m need args,hf,hfw =>
   dsimp only
   have hb:args.length<=1000000:=by have:=hf.1;omega
   by_cases hl:args.length<need
   ·rw[if_pos hl];exact zV6 R s bs hbs h0 m need args a hl hb
   ·rw[if_neg hl];exact zS2 R s bs hbs h0 m need args a hl
  | .num n,_,_=>exact zLO R s bs hbs h0 _ rfl rfl rfl a
  | .text t,_,_=>exact zLO R s bs hbs h0 _ rfl rfl rfl a
  | .cell i,_,_=>exact zLO R s bs hbs h0 _ rfl rfl rfl a
 ·rw[if_pos h0];exact zV5 R s bs hbs h0 _ a

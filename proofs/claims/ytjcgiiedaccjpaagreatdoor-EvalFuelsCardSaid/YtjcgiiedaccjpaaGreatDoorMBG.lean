/- Parts. -/
import Derived.Test.YtjcgiiedaccjpaaGreatDoorMBF
set_option maxHeartbeats 16000000
namespace Go.Proofs.YtjcgiiedaccjpaaGreatDoor
open _root_.Go.Proofs.Tryz
open Go.Sx Go.Ev
theorem zTT{bs:List Nat}{cs:List V}(hl:bs.length=cs.length){i:Nat}(hi:i<cs.length)(v:V): (hidL (zA2 bs cs)).set i (.bx (some (bs.getD i 0)) none [.d (encV bs v)])=hidL (zA2 bs (cs.set i v)):=by
 refine qBY fun j=>?_
 have hl2:bs.length=(cs.set i v).length:=by rw[qAo];exact hl
 rw[qAb,qAK]
 have hlen:(zA2 bs cs).length=cs.length:=by unfold zA2;rw[List.length_zip,zCg];omega
 split
 ·rename_i e;subst e
  rw[if_pos (by omega),qAG,zDz hl2 (by rw[qAo];exact hi)]
  rw[qAQ (l:=cs.set i v),List.getElem?_set_self hi];rfl
 ·rename_i hne
  rw[qAG,qAG]
  rcases qAI j cs.length with hj|hj
  ·rw[zDz hl hj,zDz hl2 (by rw[qAo];exact hj)]
   rw[qAQ (l:=cs.set i v),List.getElem?_set_ne hne,<-qAQ]
  ·rw[qAd (by omega),qAd (by unfold zA2;rw[List.length_zip,zCg,qAo];omega)]
theorem zPF{bs:List Nat}{cs:List V}(hl:bs.length=cs.length){i:Nat}(hi:i<cs.length): (hidL (zA2 bs cs))[i]?=some (.bx (some (bs.getD i 0)) none [.d (encV bs (cs.getD i default))]):=by
 rw[qAG,zDz hl hi];rfl
theorem zTU{bs:List Nat}{cs:List V}(hl:bs.length=cs.length)(hw:wfs bs.length cs)(b:Nat){v:V}(hv:v.wf bs.length): hidL (zA2 bs cs)++[.bx (some b) none [.d (encV bs v)]]=hidL (zA2 (bs++[b]) (cs++[v])):=by
 have hp:bs <+: bs++[b]:=List.prefix_append _ _
 unfold zA2
 rw[zGA,zF9 hp cs hw,List.zip_append (by rw[zCg];exact hl)]
 show _=List.map _ (_++_)
 rw[qAh]
 rw[show zCJ (bs++[b]) [v]=[encV bs v] by rw[zCJ,zCJ,zHD hp v hv]];rfl
theorem zV9{C:Ctx}{ops:Array Oper}{rest:List Oper}{K:Sl->List Ob->Prop}{σ:Sl}{η:List Ob}{d:Nat}{ty t:TypeId}{pos:String}{after:Array Edge}{gd:Option (Nat×Bool)}{x:Operand}{cs:List D}(hx:oval σ x=.d (.agg cs))(hd:Nat.blt d C.N=true)(hro:Nat.ble C.ro η.length=true)
  (h:∀b,alex C false ops rest K ((d,.d (pv b))::(d,.ptr η.length 0)::σ) (η++[.bx (some b) none (cs.map .d)])):zA3 C false ops ⟨some d,.box t x,ty,pos,after,gd⟩ rest K σ η:=by
 refine aBox hx rfl hd hro (zNz d η.length (by rw[zA7,if_pos rfl]) (List.getElem?_concat_length (l:=η) (a:=Ob.box (cs.map .d))) fun b=>?_)
 have e:(η++[Ob.box (cs.map .d)]).set η.length (.bx (some b) none (cs.map .d))=η++[.bx (some b) none (cs.map .d)]:=by
  rw[List.set_append_right _ _ (qAM _),Nat.sub_self];rfl
 rw[e];exact h b
attribute [local irreducible] zAK Program.underlying Ylds zA3 alex zBc zBL awp zAc zBd zBi zBD zBI zDI zBS zA5 zBT zBY zBe zBs zC7 zBN VCall
theorem zSj(R:Rn)(s:S)(bs:List Nat)(hbs:bs.length=s.cells.length)(a b:V)(hn:(∀n,a≠.text n)\/∀n,b≠.text n): R.To 101 [.ptr 0 0,.d (.slice [encV bs a,encV bs b])] s bs (s.stop 4).2 (fun _=>encV [] (.num 0)):=by
 have hs:=zEF R s bs hbs 4
 obtain⟨d1,e1⟩:=zCR bs a
 obtain⟨d2,e2⟩:=zCR bs b
 rcases zGU a with⟨x,rfl⟩|ha
 ·rcases hn with hn|hn
  ·exact absurd rfl (hn x)
  ·have h2:=zHQ hn
   clear hn
   rw[e2]
   generalize tyV b=t2 at *
   refine Rn.to_of hbs func101 rfl ntmps101 results101 rfl ?_
   intro wb St0 X fx
   exact yO
 ·have h1:=zHQ ha
  rw[e1]
  clear hn ha
  generalize tyV a=t1 at *
  rcases zGU b with⟨y,rfl⟩|hb2
  ·skip
   refine Rn.to_of hbs func101 rfl ntmps101 results101 rfl ?_
   intro wb St0 X fx
   exact yO
  ·have h2:=zHQ hb2
   rw[e2]
   clear hb2
   generalize tyV b=t2 at *
   refine Rn.to_of hbs func101 rfl ntmps101 results101 rfl ?_
   intro wb St0 X fx
   exact yO
theorem zT8(R:Rn)(s:S)(bs:List Nat)(hbs:bs.length=s.cells.length)(x y:List UInt8)(h:200<x.length+y.length)(hx:x.length<=1000000)(hy':y.length<=1000000): R.To 101 [.ptr 0 0,.d (.slice [encV bs (.text x),encV bs (.text y)])] s bs (s.raise (-3)).2 (fun _=>encV [] (.num 0)):=by
 have hs:=zI3 R s bs hbs (-3)
 have hg:(x.length:Int)+(y.length:Int)>200:=by omega
 refine Rn.to_of hbs func101 rfl ntmps101 results101 rfl ?_
 intro wb St0 X fx
 repeat' first|(refine zBj (zs:=[.string ByteArray.empty]) (hidL (zA2 bs s.cells)) 2 (zAh _) ?_ rfl rfl rfl rfl rfl rfl rfl ?_;with_reducible exact zCU)|(refine zBj (zs:=[.string ByteArray.empty]) (hidL (zA2 bs s.cells)) 3 (zAh _) ?_ rfl rfl rfl rfl rfl rfl rfl ?_;with_reducible exact zCU)|(refine zBC 4 2 2 rfl rfl rfl rfl rfl rfl rfl ?_)|apply en_n|apply zAE|apply zAA|apply zAD|apply w0|exact zDg rfl rfl|(apply zC1;exact rfl;with_reducible exact ustr)|(apply zBv;exact rfl;exact rfl;(with_reducible exact zBK);exact(by decide);exact rfl;exact rfl;exact(by decide))|(apply zDh;exact rfl;with_reducible exact zCC)|(refine zBQ 4 [0,1] zHB (hs) rfl rfl rfl rfl (SArgs_all rfl) rfl rfl (by decide) rfl rfl rfl rfl rfl rfl rfl (fun y0 hy0=>⟨rfl,rfl,rfl,zAb hy0.1 hbs hy0.2⟩) (fun y hy=>?_))|apply ay (hd:=rfl)|exact zAC rfl|exact zAB rfl|exact zAR rfl zB0|refine zBE rfl rfl ?_|exact zBX rfl|exact zAj rfl rfl|exact zAe rfl rfl|exact zAG rfl|exact zAH rfl zEa|exact zAJ rfl zAr rfl rfl|refine w1 rfl rfl ?_|(refine w0' ?_)|(apply zAl;exact rfl;exact rfl;exact rfl;(with_reducible exact zDp);exact rfl;exact rfl;exact rfl;exact rfl)|refine zAN rfl ?_|refine zAQ rfl ?_|apply zAI|apply en_r|apply eb_r
 all_goals first|omega|exact Rn.retO hy rfl rfl rfl
theorem zVC(R:Rn)(s:S)(bs:List Nat)(hbs:bs.length=s.cells.length)(x y:List UInt8)(h:¬200<x.length+y.length): R.To 101 [.ptr 0 0,.d (.slice [encV bs (.text x),encV bs (.text y)])] s bs s (fun _=>encV [] (.text (x++y))):=by
 have hg:¬(x.length:Int)+(y.length:Int)>200:=by omega
 refine Rn.to_of hbs func101 rfl ntmps101 results101 rfl ?_
 intro wb St0 X fx
 repeat' first|(refine zBj (zs:=[.string ByteArray.empty]) (hidL (zA2 bs s.cells)) 2 (zAh _) ?_ rfl rfl rfl rfl rfl rfl rfl ?_;with_reducible exact zCU)|(refine zBj (zs:=[.string ByteArray.empty]) (hidL (zA2 bs s.cells)) 3 (zAh _) ?_ rfl rfl rfl rfl rfl rfl rfl ?_;with_reducible exact zCU)|(refine zBC 4 2 2 rfl rfl rfl rfl rfl rfl rfl ?_)|apply en_n|apply zAE|apply zAA|apply zAD|apply w0|exact zC4 rfl rfl|(apply zC1;exact rfl;with_reducible exact ustr)|(apply zUH;exact rfl;exact rfl;omega)|(apply zBv;exact rfl;exact rfl;(with_reducible exact zBK);exact(by decide);exact rfl;exact rfl;exact(by decide))|(apply zDh;exact rfl;with_reducible exact zCC)|(apply zCY;exact rfl;with_reducible exact zCC)|exact zAf zMs zCU (PD_d rfl rfl zA6) rfl|apply ay (hd:=rfl)|exact zAC rfl|exact zAB rfl|exact zAR rfl zB0|refine zBE rfl rfl ?_|exact zBX rfl|exact zAj rfl rfl|exact zAe rfl rfl|exact zAH rfl zEa|exact zAJ rfl zAr rfl rfl|refine w1 rfl rfl ?_|(refine w0' ?_)|(apply zAl;exact rfl;exact rfl;exact rfl;(with_reducible exact zDp);exact rfl;exact rfl;exact rfl;exact rfl)|refine zAQ rfl ?_|apply zAI|apply zAO|apply eb_n
 all_goals first|omega|exact Rn.retO (y:=bs) ⟨qAe,hbs⟩ rfl rfl rfl
theorem zUn(R:Rn)(s:S)(bs:List Nat)(hbs:bs.length=s.cells.length)(a:V)(r:List D)(hn:∀n,a≠.text n): R.To 102 [.ptr 0 0,.d (.slice (encV bs a::r))] s bs (s.stop 4).2 (fun _=>encV [] (.num 0)):=by
 have hs:=zEF R s bs hbs 4
 obtain⟨d1,e1⟩:=zCR bs a
 have h1:=zHQ hn
 clear hn
 rw[e1]
 generalize tyV a=t1 at *
 refine Rn.to_of hbs func102 rfl ntmps102 results102 rfl ?_
 intro wb St0 X fx
 exact yO
theorem zUm(R:Rn)(s:S)(bs:List Nat)(hbs:bs.length=s.cells.length)(x:List UInt8): R.To 102 [.ptr 0 0,.d (.slice [encV bs (.text x)])] s bs s (fun _=>encV [] (.num x.length)):=by
 refine Rn.to_of hbs func102 rfl ntmps102 results102 rfl ?_
 intro wb St0 X fx
 repeat' first|(refine zBj (zs:=[.string ByteArray.empty]) (hidL (zA2 bs s.cells)) 2 (zAh _) ?_ rfl rfl rfl rfl rfl rfl rfl ?_;with_reducible exact zCU)|(refine zBC 4 2 1 rfl rfl rfl rfl rfl rfl rfl ?_)|apply en_n|apply zAE|apply zAA|apply zAD|apply w0|(apply zC1;exact rfl;with_reducible exact ustr)|(apply zBv;exact rfl;exact rfl;(with_reducible exact zBK);exact(by decide);exact rfl;exact rfl;exact(by decide))|(apply zDh;exact rfl;with_reducible exact zCC)|(apply zCY;exact rfl;with_reducible exact zBq)|exact zAf zCw zBR (PD_d rfl rfl zA6) rfl|apply ay (hd:=rfl)|exact zAC rfl|exact zAB rfl|exact zAR rfl zB0|exact zBX rfl|exact zAe rfl rfl|exact zAH rfl zEa|exact zAJ rfl zAr rfl rfl|(refine w0' ?_)|(apply zAl;exact rfl;exact rfl;exact rfl;(with_reducible exact zDp);exact rfl;exact rfl;exact rfl;exact rfl)|refine zAQ rfl ?_|apply zAO
 all_goals exact Rn.retO (y:=bs) ⟨qAe,hbs⟩ rfl rfl rfl
theorem zUb(R:Rn)(s:S)(bs:List Nat)(hbs:bs.length=s.cells.length)(hw:s.wf)(v:V)(hv:v.wf s.cells.length): R.To 103 [.ptr 0 0,.d (.slice [encV bs v])] s bs { s with cells:=s.cells++[v] } (fun y=>encV y (.cell s.cells.length)):=by
 have hw':wfs bs.length s.cells:=by rw[hbs];exact hw
 have hv':v.wf bs.length:=by rw[hbs];exact hv
 obtain⟨d1,e1⟩:=zCR bs v
 have hnew:=fun b=>zTU hbs hw' b hv'
 rw[e1]at hnew ⊢
 generalize tyV v=t1 at *
 refine Rn.to_of hbs func103 rfl ntmps103 results103 rfl ?_
 intro wb St0 X fx
 repeat' first|(refine zV9 rfl rfl rfl ?_;intro b)|apply en_n|apply zAE|apply zAA|apply zAD|apply w0|(apply zBv;exact rfl;exact rfl;(with_reducible exact zBK);exact(by decide);exact rfl;exact rfl;exact(by decide))|(refine zAf (cs:=[.ifc t1 d1]) zRr zRo (PD_d rfl rfl zA6) rfl)|(apply zCY;exact rfl;with_reducible exact zH3)|apply ay (hd:=rfl)|exact zAC rfl|exact zAB rfl|exact zAR rfl zB0|apply zAM
 refine Rn.ret0 (s':={ s with cells:=s.cells++[v] }) (y:=bs++[b]) ⟨List.prefix_append _ _,by simp[hbs]⟩ ?_ ?_
 ·show SV.d (.ifc 155 (pv b))=SV.d (.ifc 155 (pv ((bs++[b]).getD s.cells.length 0)))
  rw[<-hbs,qAQ,List.getElem?_concat_length];rfl
 ·unfold Rn.MA
  rw[qAY]
  exact congrArg _ (hnew b)
theorem zU5(R:Rn)(s:S)(bs:List Nat)(hbs:bs.length=s.cells.length)(a:V)(r:List D)(hn:∀n,a≠.cell n): R.To 104 [.ptr 0 0,.d (.slice (encV bs a::r))] s bs (s.stop 4).2 (fun _=>encV [] (.num 0)):=by
 have hs:=zEF R s bs hbs 4
 obtain⟨d1,e1⟩:=zCR bs a
 have h1:=zOO hn
 clear hn
 rw[e1]
 generalize tyV a=t1 at *
 refine Rn.to_of hbs func104 rfl ntmps104 results104 rfl ?_
 intro wb St0 X fx
 exact yK
theorem zU4(R:Rn)(s:S)(bs:List Nat)(hbs:bs.length=s.cells.length)(_hw:s.wf)(i:Nat)(hi:i<s.cells.length): R.To 104 [.ptr 0 0,.d (.slice [encV bs (.cell i)])] s bs s (fun y=>encV y (s.cells.getD i default)):=by
 refine Rn.to_of hbs func104 rfl ntmps104 results104 rfl ?_
 intro wb St0 X fx
 have hcell:(R.MA fx s bs)[i+2]?=some (.bx (some (bs.getD i 0)) none [.d (encV bs (s.cells.getD i default))]):=zPF hbs hi
 exact yT
theorem zUY(R:Rn)(s:S)(bs:List Nat)(hbs:bs.length=s.cells.length)(a:V)(r:List D)(hn:∀n,a≠.cell n): R.To 105 [.ptr 0 0,.d (.slice (encV bs a::r))] s bs (s.stop 4).2 (fun _=>encV [] (.num 0)):=by
 have hs:=zEF R s bs hbs 4
 obtain⟨d1,e1⟩:=zCR bs a
 have h1:=zOO hn
 clear hn
 rw[e1]
 generalize tyV a=t1 at *
 refine Rn.to_of hbs func105 rfl ntmps105 results105 rfl ?_
 intro wb St0 X fx
 exact yK
theorem zUX(R:Rn)(s:S)(bs:List Nat)(hbs:bs.length=s.cells.length)(i:Nat)(hi:i<s.cells.length)(v:V): R.To 105 [.ptr 0 0,.d (.slice [encV bs (.cell i),encV bs v])] s bs { s with cells:=s.cells.set i v } (fun _=>encV [] (.num 0)):=by
 obtain⟨d1,e1⟩:=zCR bs v
 have hnew:=zTT hbs hi v
 rw[e1]at hnew ⊢
 generalize tyV v=t1 at *
 refine Rn.to_of hbs func105 rfl ntmps105 results105 rfl ?_
 intro wb St0 X fx
 have hcell:(R.MA fx s bs)[i+2]?=some (.bx (some (bs.getD i 0)) none [.d (encV bs (s.cells.getD i default))]):=zPF hbs hi
 repeat' first|(refine zKu 5 (i+2) (bs.getD i 0) rfl hcell ?_)|apply en_n|apply zAE|apply zAA|apply zAD|apply w0|(apply zBv;exact rfl;exact rfl;(with_reducible exact zBK);exact(by decide);exact rfl;exact rfl;exact(by decide))|(apply zDh;exact rfl;with_reducible exact zH3)|exact zAS rfl|(apply zAl;exact rfl;exact rfl;exact rfl;(with_reducible exact zB0);exact hcell;exact rfl;exact rfl;exact rfl)|exact zAf zCw zBR zA6 rfl|(apply zCY;exact rfl;with_reducible exact zBq)|apply ay (hd:=rfl)|exact zAC rfl|exact zAB rfl|exact zAR rfl zB0|exact zBX rfl|exact zAe rfl rfl|exact zAG rfl|exact zAH rfl zIh|(refine w0' ?_)|refine zAQ rfl ?_|apply zAO|apply zAM
 all_goals skip
 refine Rn.ret0 (s':={ s with cells:=s.cells.set i v }) (y:=bs) ⟨qAe,by rw[qAo];exact hbs⟩ rfl ?_
 show _=_::_::hidL (zA2 bs (s.cells.set i v))
 rw[<-hnew];rfl

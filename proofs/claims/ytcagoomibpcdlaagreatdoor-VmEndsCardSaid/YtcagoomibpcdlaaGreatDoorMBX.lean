/- Parts of the proof. -/
import Derived.Test.YtcagoomibpcdlaaGreatDoorMBW
set_option maxHeartbeats 16000000
namespace Go.Proofs.YtcagoomibpcdlaaGreatDoor
open _root_.Go.Proofs.Tryz
open Go.Sx Go.Vm
theorem zZn{con:List UInt8->Bool}{m:Img}{i:Ins}{s:VS}(ha:i.a<=1048576)(hb:i.b<=1048576): (eff con m i s).takes<=1048577:=by
 have hi:∀{c:Prop} [Decidable c] {x y:Eff},x.takes<=1048577->y.takes<=1048577->(if c then x else y).takes<=1048577:=by
  intro c _ x y h1 h2;split
  ·exact h1
  ·exact h2
 have ht:takes i.a<=1048577:=by unfold takes;repeat' split <;> omega
 unfold eff;dsimp only
 repeat' (with_reducible refine hi ?_ ?_)
 all_goals (dsimp only;omega)
attribute [local irreducible] zAO Program.underlying Ylds zBE alex zB0 zBk awp zAg zB9 zB8 zAU zBj zA6 zDJ zBl zBn zBC zBq zBz zB7 zDQ zBm zBc zBe JFit
theorem zXL(m:Img)(kn:Bool){k op a b:Int}{s:VS}(hd:NxAt m k ⟨op,a,b⟩ s)(h0:0<=op/\op<=20)(wb:World)(St0:Stab)(Q:Exit->Sl->List Ob->Prop)
  (h:awp ⟨prog,284,wb,St0,fun _=>False,0⟩ (zFs 7 (zDt Tryz.f56)) Q (nxS k s (eff conF m ⟨op,a,b⟩ s)) (nxB m kn s op a b)) :
  awp ⟨prog,284,wb,St0,fun _=>False,0⟩ (zFs 6 (zDt Tryz.f56)) Q (nxS0 k s) (nxB m kn s op a b):=by
 have hc:op=0\/op=1\/op=2\/op=3\/op=4\/op=5\/op=6\/op=7\/op=8\/op=9\/op=10\/op=11\/op=12\/op=13\/op=14\/op=15\/op=16\/op=17\/op=18\/op=19\/op=20:=by omega
 rcases hc with h1|h1|h1|h1|h1|h1|h1|h1|h1|h1|h1|h1|h1|h1|h1|h1|h1|h1|h1|h1|h1 <;> subst h1
 ·exact zRv.1 m kn hd wb St0 Q h
 ·exact zIP.1 m kn hd wb St0 Q h
 ·exact zIP.2.1 m kn hd wb St0 Q h
 ·exact zRv.2.1 m kn hd wb St0 Q h
 ·exact zIP.2.2.1 m kn hd wb St0 Q h
 ·exact zIP.2.2.2.1 m kn hd wb St0 Q h
 ·exact zIP.2.2.2.2.1 m kn hd wb St0 Q h
 ·exact zIP.2.2.2.2.2.1 m kn hd wb St0 Q h
 ·exact zRv.2.2.1 m kn hd wb St0 Q h
 ·exact zRv.2.2.2.1 m kn hd wb St0 Q h
 ·exact zZS m kn hd wb St0 Q h
 ·exact zIP.2.2.2.2.2.2.1 m kn hd wb St0 Q h
 ·exact zIP.2.2.2.2.2.2.2.1 m kn hd wb St0 Q h
 ·exact zIP.2.2.2.2.2.2.2.2.1 m kn hd wb St0 Q h
 ·exact zRv.2.2.2.2 m kn hd wb St0 Q h
 ·exact zIP.2.2.2.2.2.2.2.2.2.1 m kn hd wb St0 Q h
 ·exact zIP.2.2.2.2.2.2.2.2.2.2.1 m kn hd wb St0 Q h
 ·exact zIP.2.2.2.2.2.2.2.2.2.2.2.1 m kn hd wb St0 Q h
 ·exact zIP.2.2.2.2.2.2.2.2.2.2.2.2 m kn hd wb St0 Q h
 ·exact zZR m kn hd wb St0 Q h
 ·exact zZQ m kn hd wb St0 Q h
theorem zUI(m:Img)(him:ImgOk m)(k:Nat)(hk:k<m.code.length)(kn:Bool)(s:VS)(hh:-1000000000<=s.height/\s.height<=1000000000)(htr:s.tries.length<=2000000): zAg prog 56 [zCm m,i64 (k:Int),rsD kn s] (.tup [.slice (((zFf conF m k s).getD []).map toD),bl (zFf conF m k s).isSome]):=by
 obtain⟨⟨op,a,b⟩,hi⟩:∃i,m.code[k]?=some i:=⟨_,qAB hk⟩
 have hg:m.code.getD k default=⟨op,a,b⟩:=by rw[qAE,hi];rfl
 obtain⟨o0,o20,a0,a1,b0,b1,-⟩:=him.ins _ (qAH hi)
 dsimp only at o0 o20 a0 a1 b0 b1
 have hcl:=him.code
 have hat:m.code[(k:Int).toNat]?=some ⟨op,a,b⟩:=hi
 have hd:NxAt m (k:Int) ⟨op,a,b⟩ s:=⟨by omega,hat,hcl,him,hh,htr⟩
 obtain⟨e0,e1,e2⟩:=zVu (con:=conF) (m:=m) (i:=⟨op,a,b⟩) (s:=s) a0 b0
 have e3:=zZn (con:=conF) (m:=m) (i:=⟨op,a,b⟩) (s:=s) a1 b1
 have e14:op=14->(eff conF m ⟨op,a,b⟩ s).holds=true->s.tries≠[]:=by
  intro h1;subst h1
  show (!s.tries.isEmpty)=true->_
  intro h2 h3;rw[h3]at h2;cases h2
 refine zDU func56 rfl ntmps56 results56 rfl ?_
 intro wb St0
 refine zXK m kn hd wb St0 _ ?_
 refine zXL m kn hd ⟨o0,o20⟩ wb St0 _ ?_
 have hnv:zFf conF m k s=if(!(eff conF m ⟨op,a,b⟩ s).holds||decide (s.height-(eff conF m ⟨op,a,b⟩ s).takes<zA4 s)||((eff conF m ⟨op,a,b⟩ s).behind&&decide ((k:Int)+1>=m.code.length)))=true then none else some ((if op=17 then[(a,{ s with height:=s.height+1 })]else[])++(if op=18 then[(a,⟨a,b,1,[]⟩)]else[]) ++
   (if(eff conF m ⟨op,a,b⟩ s).behind then[((k:Int)+1,{ s with height:=s.height-(eff conF m ⟨op,a,b⟩ s).takes+(eff conF m ⟨op,a,b⟩ s).puts,tries:=if op=14 then s.tries.dropLast else if op=17 then s.tries++[s.height]else s.tries })]else[])++(if(eff conF m ⟨op,a,b⟩ s).there then[(a,{ s with height:=s.height-(eff conF m ⟨op,a,b⟩ s).takes+(eff conF m ⟨op,a,b⟩ s).puts,tries:=if op=14 then s.tries.dropLast else if op=17 then s.tries++[s.height]else s.tries })]else[])):=by
  unfold zFf;dsimp only;rw[hg]
 generalize eff conF m ⟨op,a,b⟩ s=e at *
 generalize zFf conF m k s=l at *
 refine zUW m kn e ⟨by omega,by omega⟩ hh ⟨e0,by omega⟩ wb St0 l (fun hc=>by rw[hnv,if_pos hc]) (fun hc=>?_)
 rw[if_neg (by rw[hc];decide)]at hnv
 have hho:e.holds=true:=by
  cases hq:e.holds with
  |true=>rfl
  |false=>rw[hq]at hc;cases hc
 subst hnv
 refine nx_t m kn e hh ⟨e0,by omega⟩ ⟨e1,e2⟩ wb St0 _ ?_
 refine zZV m kn e.behind e.there htr (fun h=>e14 h hho) wb St0 _ ?_
 refine zak m kn e.behind e.there htr hh _ wb St0 _ ?_
 refine zaj m kn e.behind e.there _ (fun h=>by rw[if_neg (by omega)]) wb St0 _ ?_
 have htt:(if op=17 then s.tries++[s.height]else if op=14 then s.tries.dropLast else s.tries)=if op=14 then s.tries.dropLast else if op=17 then s.tries++[s.height]else s.tries:=by
  by_cases h1:op=17
  ·rw[if_pos h1,if_neg (by omega),if_pos h1]
  ·rw[if_neg h1,if_neg h1]
 rw[htt]
 refine zZT m kn e.behind e.there _ ?_ ⟨by omega,by omega⟩ wb St0
 rw[qAD]
 split <;> split <;> simp
end Go.Proofs.YtcagoomibpcdlaaGreatDoor
namespace Go.Proofs.YtcagoomibpcdlaaGreatDoor
open _root_.Go.Proofs.Tryz
open Go.Sx Go.Vm
def stD(o:Option VS): D:=rsD o.isSome (o.getD ⟨0,0,0,[]⟩)
theorem zVb: zIk prog 123=some (stD none):=by kernel_rfl
abbrev sxS(n:Nat)(nw:Bool): Sl:=[(1,.ptr 0 0),(4,.buf 1 n),(5,.d (bl nw))]
abbrev sxT(n:Nat)(nw:Bool)(k:Nat): Sl:=[(1,.ptr 0 0),(4,.buf 1 n),(5,.d (bl nw)),(6,.d (i64 (k:Int)))]
abbrev sxV(n:Nat)(nw:Bool)(k:Nat)(l:List (Int×VS))(j:Nat): Sl:=[(1,.ptr 0 0),(4,.buf 1 n),(5,.d (bl nw)),(6,.d (i64 (k:Int))),(7,.d (.slice (l.map toD))),(9,.d (i64 (j:Int)))]
abbrev sxB(m:Img)(L:List (Option VS)): List Ob:=[.box [.d (.slice (m.pool.map enCn)),.d (.slice (m.code.map enIn))],.buf true 123 5 (L.map stD)]
theorem st_row{L:List (Option VS)}{k:Nat}(hk:k<L.length): (L.map stD)[k]?=some (stD (stA L k)):=by
 unfold stA
 rw[qAL,qAB hk];rfl
theorem zY6{L:List (Option VS)}{k:Nat}{v:VS}(h:stA L k=some v): L.set k (some v)=L:=by
 have h1:=zLC h
 apply qBq
 intro q
 rw[qAT]
 split
 ·rename_i e;subst e
  rw[h1,if_pos (qAA.1 h1).1]
 ·rfl
theorem zLT{c:Prop}[Decidable c](x:Int×VS): (if c then[x]else[]:List (Int×VS)).length<=1:=by split <;> simp
theorem zUa{m:Img}{k:Nat}{s:VS}{l:List (Int×VS)}(h:zFf conF m k s=some l): l.length<=4:=by
 unfold zFf at h;dsimp only at h
 split at h
 ·cases h
 ·injection h with h;subst h
  rw[qAD,qAD,qAD]
  exact Nat.add_le_add (Nat.add_le_add (Nat.add_le_add (zLT _) (zLT _)) (zLT _)) (zLT _)
attribute [local irreducible] zAO Program.underlying Ylds zBE alex zB0 zBk awp zAg zB9 zB8 zAU zBj zA6 zDJ zBl zBn zBC zBq zBz zB7 zDQ zBm zBc zBe JFit
theorem zPn(m:Img)(him:ImgOk m)(R:Option (List (Option VS)))(hR:zGS conF m=R): zAg prog 25 [zCm m] (.tup [.slice ((R.getD []).map stD),bl R.isSome]):=by
 have hcl:=him.code
 refine zDU func25 rfl ntmps25 results25 rfl ?_
 intro wb St0
 unfold zGS at hR
 by_cases h0:m.code.length=0
 ·rw[if_pos h0]at hR;subst hR
  unfold zCm
  skip
  repeat' first|apply en_n|apply zAG|apply zAA|apply zAD|apply w0|(refine zBQ ?_)|(refine zBp ?_)|exact zCh|(refine RV_d rfl ?_ ?_)|(refine RV_n rfl ?_ ?_)|exact zAi rfl rfl|(apply zSs;exact rfl;exact rfl;(with_reducible exact zOB);(with_reducible exact zF4);(with_reducible exact zVb);exact rfl;exact rfl;(with_reducible exact zQh);exact rfl;exact rfl;exact⟨by omega,by omega,by omega⟩)|refine aBox (hd:=rfl) (hro:=rfl) rfl rfl ?_|apply ay (hd:=rfl)|exact zAB rfl|exact zBD rfl zDk|exact zBN rfl|exact zAp rfl|exact zAC rfl zA9|exact zAE rfl zBg rfl rfl|refine zAI rfl ?_|apply zAQ|apply en_r
  all_goals first|omega|rfl|skip
 rw[if_neg h0]at hR
 have hpos:0<m.code.length:=by omega
 have e0:((m.code.length:Int)).toNat=m.code.length:=qAj _
 unfold zCm
 skip
 repeat' first|apply en_n|apply zAG|apply zAA|apply zAD|apply w0|exact zAn rfl rfl|(apply zSs;exact rfl;exact rfl;(with_reducible exact zOB);(with_reducible exact zF4);(with_reducible exact zVb);exact rfl;exact rfl;(with_reducible exact zQh);exact rfl;exact rfl;exact⟨by omega,by omega,by omega⟩)|(refine zBr (cs:=[bl true,i64 (-1),i64 0,i64 0,zBW []]) zJM zIF (PD_d rfl rfl (PD_d rfl rfl zCi)) rfl)|(apply zBM;exact rfl;exact rfl;exact rfl;(with_reducible exact zF4);omega;(rw[qAm];omega))|(apply zJD;exact rfl;exact rfl;(with_reducible exact zEk);exact rfl;exact rfl;(rw[qAm];omega);exact rfl)|refine aBox (hd:=rfl) (hro:=rfl) rfl rfl ?_|apply ay (hd:=rfl)|exact zAB rfl|exact zBD rfl zDk|exact zBN rfl|exact zAz rfl|exact zAp rfl|exact zAC rfl zA9|exact zAE rfl zBg rfl rfl|(refine w0' ?_)|refine zAJ rfl ?_|apply zAK|apply zAR
 all_goals first|omega|skip
 refine zBV (α:=Nat×List (Option VS)×Bool) (fun x=>SInv m x.2.1/\(x.2.2=true->zDl conF m x.1 x.2.1=R/\m.code.length<x.1+cntS x.2.1)/\(x.2.2=false->R=some x.2.1)) (fun x=>sxS m.code.length x.2.2) (fun x=>sxB m x.2.1) (fun x=>if x.2.2 then x.1 else 0) (m.code.length+1,st0 m,true) ⟨zNR hpos,fun _=>⟨hR,by dsimp only;omega⟩,fun c=>by cases c⟩ (zAS (Le_cons rfl (Le_cons (by rw[e0];rfl) (Le_all rfl))) (zAN rfl rfl (zAN rfl (congrArg (Ob.buf true _ 5) ?_) zAs)) rfl rfl) ?_
 ·rw[e0]
  show ((List.replicate m.code.length none).set 0 (some ⟨-1,0,0,[]⟩)).map stD=_
  rw[qBu,qBM];rfl
 rintro⟨f,L,nw⟩ ⟨hI,h1,h2⟩
 dsimp only at hI h1 h2
 cases nw with
 |false =>
  rw[h2 rfl]
  skip
  repeat' first|(refine zEd (id:=22) ?_)|apply en_n|apply zAG|apply zAA|apply zAD|apply w0|apply ay (hd:=rfl)|exact zAF rfl|refine zAJ rfl ?_|apply zBX|apply en_e|apply eb_e
  refine Stop.go ?_
  refine zCo 1 (mu:=true) rfl rfl ?_
  repeat' first|apply en_n|apply zAG|apply zAA|apply zAD|apply w0|(refine zBQ ?_)|(refine zBp ?_)|(refine RV_b rfl rfl ?_ ?_ ?_)|(refine RV_d rfl ?_ ?_)|exact zCh|apply ay (hd:=rfl)|exact zAB rfl|exact zAz rfl|exact zAp rfl|apply zAQ
  all_goals first|rfl|(rw[qAC,hI.len])|skip
 |true =>
  obtain⟨hV,hf⟩:=h1 rfl
  cases f with
  |zero=>have:=zLf L;have:=hI.len;omega
  |succ f =>
  rw[zDl]at hV
  skip
  repeat' first|apply en_n|apply zAG|apply zAA|apply zAD|apply w0|apply ay (hd:=rfl)|exact zAF rfl|exact zAB rfl|refine zAI rfl ?_|apply zAK|apply zAR
  refine zBV (α:=Nat×List (Option VS)×Bool) (fun x=>x.1<=m.code.length/\SInv m x.2.1/\Grow (L,false) (x.2.1,x.2.2)/\(zIM conF m (m.code.length-x.1) x.1 (x.2.1,x.2.2)).bind (fun r=>if r.2 then zDl conF m f r.1 else some r.1)=R) (fun x=>sxT m.code.length x.2.2 x.1) (fun x=>sxB m x.2.1) (fun x=>m.code.length-x.1) (0,L,false) ⟨qAV _,hI,.refl _,hV⟩ (zAS (Le_all rfl) (zBF _) rfl rfl) ?_
  rintro⟨k,L2,nw2⟩ ⟨hk,hI2,hg,hV2⟩
  dsimp only at hk hI2 hg hV2
  by_cases hkn:k<m.code.length
  ·have hkL:k<(L2.map stD).length:=by rw[qAC,hI2.len];exact hkn
   have hat:=st_row (L:=L2) (k:=k) (by rw[hI2.len];exact hkn)
   obtain⟨q,hq⟩:∃q,m.code.length-k=q+1:=⟨m.code.length-(k+1),by omega⟩
   have hq2:q=m.code.length-(k+1):=by omega
   rw[hq,zIM]at hV2
   subst hq2
   cases e:stA L2 k with
   |none =>
    have hv:zHF conF m k (L2,nw2)=some (L2,nw2):=by unfold zHF;dsimp only;rw[e]
    rw[hv]at hV2
    rw[e]at hat
    replace hat:(L2.map stD)[((k:Nat):Int).toNat]?=some (.agg [bl false,i64 0,i64 0,i64 0,zBW []]):=hat
    skip
    repeat' first|apply en_n|apply zAG|apply zAA|apply zAD|apply w0|exact zCf rfl rfl|(apply zBM;exact rfl;exact rfl;exact rfl;(with_reducible exact zF4);omega;(rw[qAC,hI2.len];omega))|(apply zDM;exact rfl;(first|with_reducible exact zFn))|exact zCR rfl zAb rfl hat rfl|apply ay (hd:=rfl)|exact zAF rfl|exact zAB rfl|refine zBG rfl rfl ?_|exact zBS rfl|exact zAz rfl|exact zA3 rfl zK3|refine zAI rfl ?_|apply zAK|apply zAR|apply zBX|apply en_e|apply eb_e
    all_goals first|omega|skip
    exact⟨(k+1,L2,nw2),⟨hkn,hI2,hg,hV2⟩,by dsimp only;omega,zAS (Le_all rfl) (zBF _) rfl rfl⟩
   |some s =>
    rw[e]at hat
    replace hat:(L2.map stD)[((k:Nat):Int).toNat]?=some (.agg [bl true,i64 s.of,i64 s.has,i64 s.height,zBW s.tries]):=hat
    obtain⟨ht,hh1,hh2⟩:=hI2.bd k s e
    have hcnt:=zLf L2
    have hlen2:=hI2.len
    have hN:=zUI m him k hkn true s ⟨by have:=ht.nn;omega,by omega⟩ (by omega)
    unfold zCm rsD at hN
    cases hn:zFf conF m k s with
    |none =>
     have hRn:R=none:=by
      rw[<-hV2];unfold zHF;dsimp only;rw[e];dsimp only;rw[hn];rfl
     rw[hn]at hN
     rw[hRn]
     skip
     repeat' first|apply en_n|apply zAG|apply zAA|apply zAD|apply w0|(refine zBQ ?_)|(refine zBp ?_)|exact zCh|(refine RV_d rfl ?_ ?_)|(refine RV_n rfl ?_ ?_)|exact zCf rfl rfl|(apply zBM;exact rfl;exact rfl;exact rfl;(with_reducible exact zF4);omega;(rw[qAC,hI2.len];omega))|(apply zDM;exact rfl;(first|with_reducible exact zFn))|exact zCR rfl zAb rfl hat rfl|exact zDw rfl zEk rfl hat rfl rfl rfl|(refine zAd zH4 hN (CoLA rfl))|apply ay (hd:=rfl)|exact zAF rfl|exact zAB rfl|exact zBS rfl|exact zAk rfl rfl|exact zBN rfl|exact zAz rfl|exact zA3 rfl zK3|exact zBA rfl zCt rfl rfl rfl|refine zAI rfl ?_|refine zAJ rfl ?_|apply zAK|apply zAR|apply zAQ|refine zAf (by kernel_rfl) (by kernel_rfl) ?_|apply en_r|apply eb_r
     all_goals first|omega|rfl|skip
    |some l =>
     have hto:=hI2.next him e hn
     have hll:=zUa hn
     have hVl:(zH8 l (L2,nw2)).bind (fun M=>(zIM conF m (m.code.length-(k+1)) (k+1) M).bind (fun r=>if r.2 then zDl conF m f r.1 else some r.1))=R:=by
      rw[<-hV2];unfold zHF;dsimp only;rw[e];dsimp only;rw[hn]
      show _=(Option.bind (zH8 l (L2,nw2)) _).bind _
      cases zH8 l (L2,nw2) <;> rfl
     clear hV2 h1 h2 hV
     rw[hn]at hN
     replace hN:zAg prog 56 [.agg [.slice (m.pool.map enCn),.slice (m.code.map enIn)],i64 (k:Int),.agg [bl true,i64 s.of,i64 s.has,i64 s.height,zBW s.tries]] (.tup [.slice (l.map toD),bl true]):=hN
     skip
     repeat' first|apply en_n|apply zAG|apply zAA|apply zAD|apply w0|exact zCf rfl rfl|(apply zBM;exact rfl;exact rfl;exact rfl;(with_reducible exact zF4);omega;(rw[qAC,hI2.len];omega))|(apply zDM;exact rfl;(first|with_reducible exact zFn))|exact zCR rfl zAb rfl hat rfl|exact zDw rfl zEk rfl hat rfl rfl rfl|(refine zAd zH4 hN (CoLA rfl))|apply ay (hd:=rfl)|exact zAF rfl|exact zAB rfl|exact zBS rfl|exact zAk rfl rfl|exact zAz rfl|exact zA3 rfl zK3|exact zBA rfl zCt rfl rfl rfl|refine zAI rfl ?_|refine zAJ rfl ?_|apply zAK|apply zAR|refine zAf (by kernel_rfl) (by kernel_rfl) ?_
     all_goals first|omega|skip
     refine zBV (α:=Nat×List (Option VS)×Bool) (fun x=>x.1<=l.length/\SInv m x.2.1/\cntS L2<=cntS x.2.1/\Grow (L,false) (x.2.1,x.2.2)/\(zH8 (l.drop x.1) (x.2.1,x.2.2)).bind (fun M=>(zIM conF m (m.code.length-(k+1)) (k+1) M).bind (fun r=>if r.2 then zDl conF m f r.1 else some r.1))=R) (fun x=>sxV m.code.length x.2.2 k l x.1) (fun x=>sxB m x.2.1) (fun x=>l.length-x.1) (0,L2,nw2) ⟨qAV _,hI2,qAN _,hg,hVl⟩ (zAS (Le_all rfl) (zBF _) rfl rfl) ?_
     clear hVl hg hI2 hat e hh1 hh2 hcnt hkL
     rintro⟨j,L3,nw3⟩ ⟨hj,hI3,hc3,hg3,hV3⟩
     dsimp only at hj hI3 hc3 hg3 hV3
     have hlen3:=hI3.len
     by_cases hjl:j<l.length
     ·obtain⟨p,hp⟩:∃p,l[j]?=some p:=⟨_,qAB hjl⟩
      obtain⟨p0,p1,p2,p3,p4⟩:=hto p (qAH hp)
      have hdr:l.drop j=p::l.drop (j+1):=by
       have:=qA5 hjl
       rw[qAB hjl]at hp
       injection hp with hp;rw[this,hp]
      rw[hdr,zH8]at hV3
      have hlp:(l.map toD)[((j:Nat):Int).toNat]?=some (.agg [i64 p.1,bl true,i64 p.2.of,i64 p.2.has,i64 p.2.height,zBW p.2.tries]):=by
       show (l.map toD)[j]?=_
       rw[qAL,hp];rfl
      have hat3:=st_row (L:=L3) (k:=p.1.toNat) (by omega)
      have hto3:∀M,addV (L3,nw3) p=some M->SInv m M.1/\cntS L2<=cntS M.1/\Grow (L,false) M:=fun M hM=>by
       obtain⟨a,b⟩:=SInv.add (L:=(L3,nw3)) hI3 hc3 (hto p (qAH hp)) hM
       exact⟨a,b,hg3.trans (zLi (L:=(L3,nw3)) (by dsimp only;omega) hM).1⟩
      have hset:∀v:VS,(L3.map stD).set p.1.toNat (.agg [bl true,i64 v.of,i64 v.has,i64 v.height,zBW v.tries])=(L3.set p.1.toNat (some v)).map stD:=fun v=>by rw[qBu];rfl
      have hil:p.1.toNat<(L3.map stD).length:=by rw[qAC];omega
      have hidx:0<=p.1/\p.1<(m.code.length:Int):=⟨p0,p1⟩
      cases e3:stA L3 p.1.toNat with
      |none =>
       have hM:addV (L3,nw3) p=some (L3.set p.1.toNat (some p.2),true):=by unfold addV;dsimp only;rw[e3]
       rw[hM]at hV3
       obtain⟨hM1,hM2,hM3⟩:=hto3 _ hM
       rw[e3]at hat3
       replace hat3:(L3.map stD)[p.1.toNat]?=some (.agg [bl false,i64 0,i64 0,i64 0,zBW []]):=hat3
       cases nw3
       all_goals
        repeat' first|apply en_n|apply zAG|apply zAA|apply zAD|apply w0|refine k0u (hd:=rfl) rfl rfl ?_|refine k1ud (hd:=rfl) rfl rfl ?_|exact zCf rfl rfl|(apply zBM;exact rfl;exact rfl;exact rfl;(with_reducible exact zF4);exact hidx;(rw[qAC,hI3.len];omega))|(apply zDM;exact rfl;(first|with_reducible exact zFn))|exact zCR rfl zAb rfl hat3 rfl|(refine zBs (by kernel_rfl) ?_;apply zJD;exact rfl;exact rfl;(with_reducible exact zEk);exact rfl;exact rfl;exact hil;exact rfl)|(apply aJ (hd:=rfl);(first|exact zCQ rfl|exact zCp rfl rfl rfl|exact Co_nn rfl);exact rfl;(with_reducible exact zEl);assumption;omega;exact fun _=>rfl)|apply ay (hd:=rfl)|exact zAF rfl|exact zAB rfl|(apply zDB;exact rfl;(with_reducible first|exact zJO|exact zJN))|exact zCK rfl zAP|exact zBK rfl zEk rfl|exact zBD rfl zK2|refine zBG rfl rfl ?_|exact zBS rfl|exact zAZ rfl rfl|exact zAV rfl rfl|exact zAz rfl|refine w1 rfl rfl ?_|(refine w0' ?_)|refine zAI rfl ?_|refine zAJ rfl ?_|apply zAK|apply zAR|refine zAf (by kernel_rfl) (by kernel_rfl) ?_|apply eb_n
       all_goals first|omega|(dsimp only;omega)|skip
       all_goals exact⟨(j+1,L3.set p.1.toNat (some p.2),true),⟨hjl,hM1,hM2,hM3,hV3⟩,by dsimp only;omega,zAS (Le_all rfl) (zAN rfl rfl (zAN rfl (congrArg (Ob.buf true _ 5) (hset p.2).symm) zAs)) rfl rfl⟩
      |some v =>
       rw[e3]at hat3
       replace hat3:(L3.map stD)[p.1.toNat]?=some (.agg [bl true,i64 v.of,i64 v.has,i64 v.height,zBW v.tries]):=hat3
       obtain⟨ht3,hb1,hb2⟩:=hI3.bd _ _ e3
       have hcnt3:=zLf L3
       have hS:=zT3 true true v p.2 (by omega)
       unfold rsD at hS
       by_cases hvp:v=p.2
       ·have hM:addV (L3,nw3) p=some (L3,nw3):=by unfold addV;dsimp only;rw[e3];dsimp only;rw[if_pos hvp]
        rw[hM]at hV3
        rw[decide_eq_true hvp]at hS
        have hst:(L3.map stD).set p.1.toNat (.agg [bl true,i64 p.2.of,i64 p.2.has,i64 p.2.height,zBW p.2.tries])=L3.map stD:=by rw[hset,<-hvp,zY6 e3]
        cases nw3
        all_goals
         repeat' first|apply en_n|apply zAG|apply zAA|apply zAD|apply w0|refine k0u (hd:=rfl) rfl rfl ?_|exact zCf rfl rfl|(apply zBM;exact rfl;exact rfl;exact rfl;(with_reducible exact zF4);exact hidx;(rw[qAC,hI3.len];omega))|(apply zDM;exact rfl;(first|with_reducible exact zFn))|exact zCR rfl zAb rfl hat3 rfl|exact zDw rfl zEk rfl hat3 rfl rfl rfl|(refine zAd zH3 hS (CoLA rfl))|(refine zBs (by kernel_rfl) ?_;apply zJD;exact rfl;exact rfl;(with_reducible exact zEk);exact rfl;exact rfl;exact hil;exact rfl)|(apply aJ (hd:=rfl);(first|exact zCQ rfl|exact zCp rfl rfl rfl|exact Co_nn rfl);exact rfl;(with_reducible exact zEl);assumption;omega;exact fun _=>rfl)|apply ay (hd:=rfl)|exact zAF rfl|exact zAB rfl|(apply zDB;exact rfl;(with_reducible first|exact zJO|exact zJN))|exact zCK rfl zAP|exact zBK rfl zEk rfl|exact zBD rfl zK2|refine zBG rfl rfl ?_|exact zBS rfl|exact zAZ rfl rfl|exact zAV rfl rfl|exact zAz rfl|refine w1 rfl rfl ?_|(refine w0' ?_)|refine zAI rfl ?_|refine zAJ rfl ?_|apply zAK|apply zAR|refine zAf (by kernel_rfl) (by kernel_rfl) ?_|apply eb_n
        all_goals first|omega|(dsimp only;omega)|skip
        all_goals exact⟨(j+1,L3,_),⟨hjl,hI3,hc3,hg3,hV3⟩,by dsimp only;omega,zAS (Le_all rfl) (zAN rfl rfl (zAN rfl (congrArg (Ob.buf true _ 5) hst.symm) zAs)) rfl rfl⟩
       ·have hRn:R=none:=by
         rw[<-hV3];unfold addV;dsimp only;rw[e3];dsimp only;rw[if_neg hvp];rfl
        rw[decide_eq_false hvp]at hS
        rw[hRn]
        skip
        repeat' first|apply en_n|apply zAG|apply zAA|apply zAD|apply w0|(refine zBQ ?_)|(refine zBp ?_)|exact zCh|(refine RV_d rfl ?_ ?_)|(refine RV_n rfl ?_ ?_)|exact zCf rfl rfl|(apply zBM;exact rfl;exact rfl;exact rfl;(with_reducible exact zF4);exact hidx;(rw[qAC,hI3.len];omega))|(apply zDM;exact rfl;(first|with_reducible exact zFn))|exact zCR rfl zAb rfl hat3 rfl|exact zDw rfl zEk rfl hat3 rfl rfl rfl|(refine zAd zH3 hS (CoLA rfl))|(apply aJ (hd:=rfl);(first|exact zCQ rfl|exact zCp rfl rfl rfl|exact Co_nn rfl);exact rfl;(with_reducible exact zEl);assumption;omega;exact fun _=>rfl)|apply ay (hd:=rfl)|exact zAF rfl|exact zAB rfl|(apply zDB;exact rfl;(with_reducible first|exact zJO|exact zJN))|exact zCK rfl zAP|exact zBK rfl zEk rfl|exact zBD rfl zK2|exact zBS rfl|exact zAZ rfl rfl|exact zBN rfl|exact zAz rfl|refine w1 rfl rfl ?_|refine zAI rfl ?_|apply zAK|apply zAR|apply zAQ|refine zAf (by kernel_rfl) (by kernel_rfl) ?_|apply en_r|apply eb_r
        all_goals first|omega|rfl|skip
     ·have hj2:j=l.length:=by omega
      rw[hj2,List.drop_length]at hV3
      replace hV3:(zIM conF m (m.code.length-(k+1)) (k+1) (L3,nw3)).bind (fun r=>if r.2 then zDl conF m f r.1 else some r.1)=R:=hV3
      skip
      repeat' first|apply en_n|apply zAG|apply zAA|apply zAD|apply w0|exact zCY rfl rfl|apply ay (hd:=rfl)|exact zAF rfl|exact zAB rfl|exact zBD rfl zK2|refine zBG rfl rfl ?_|refine zAJ rfl ?_|apply zBX|apply en_e|apply eb_n|apply eb_e
      all_goals first|omega|(rw[qAC];omega)|skip
      exact⟨(k+1,L3,nw3),⟨hkn,hI3,hg3,hV3⟩,by dsimp only;omega,zAS (Le_all rfl) (zBF _) rfl rfl⟩
  ·have hk2:k=m.code.length:=by omega
   rw[hk2,qBF]at hV2
   replace hV2:(if nw2=true then zDl conF m f L2 else some L2)=R:=hV2
   skip
   repeat' first|apply en_n|apply zAG|apply zAA|apply zAD|apply w0|exact zCY rfl rfl|apply ay (hd:=rfl)|exact zAF rfl|exact zAz rfl|exact zA3 rfl zK3|refine zAJ rfl ?_|apply zBX|apply en_e|apply eb_n|apply eb_e
   all_goals first|omega|skip
   refine⟨(f,L2,nw2),⟨hI2,fun h=>?_,fun h=>?_⟩,by show (if nw2=true then f else 0)<f+1;split <;> omega,zAS (Le_all rfl) (zBF _) rfl rfl⟩
   ·dsimp only at h ⊢
    subst h
    rw[if_pos rfl]at hV2
    have:=hg.more rfl rfl
    dsimp only at this
    exact⟨hV2,by omega⟩
   ·dsimp only at h ⊢
    subst h
    rw[if_neg (by decide)]at hV2
    exact hV2.symm
end Go.Proofs.YtcagoomibpcdlaaGreatDoor
namespace Go.Proofs.YtcagoomibpcdlaaGreatDoor
open _root_.Go.Proofs.Tryz
open Go.Sx Go.Vm
theorem zQ3{m:Img}(him:ImgOk m): (zGS conF m).isSome = !(ckT conF m).bad:=by
 have h1:=zPe (con:=conF) him
 have h2:=zSV (con:=conF) (m:=m) him
 cases hb:(ckT conF m).bad with
 |true =>
  cases hs:(zGS conF m).isSome with
  |true=>have:=h2.2 (h1.1 hs);rw[hb]at this;cases this
  |false=>rfl
 |false =>
  cases hs:(zGS conF m).isSome with
  |true=>rfl
  |false=>have:=h1.2 (h2.1 hb);rw[hs]at this;cases this
attribute [local irreducible] zAO Program.underlying Ylds zBE alex zB0 zBk awp zAg zB9 zB8 zAU zBj zA6 zDJ zBl zBn zBC zBq zBz zB7 zDQ zBm zBc zBe JFit
theorem zPm(m:Img)(hE:m.code.length<=2000000): zAg prog 12 [zCm m] (i64 (verE m)):=by
 have hI:=zMC m hE
 refine zAr func12 rfl ntmps12 results12 rfl ?_
 intro wb St0
 unfold verE
 by_cases h0:imgE m=0
 ·have him:=zH2 h0
  have hS:=zPn m him _ rfl
  rw[zQ3 him]at hS
  rw[h0]at hI
  rw[if_neg (by omega)]
  generalize ((zGS conF m).getD []).map stD=row at hS
  unfold zCm at *
  cases hb:(ckT conF m).bad
  all_goals
   rw[hb]at hS
   repeat' first|apply en_n|apply zAG|apply zAA|apply zAD|apply w0|exact zGi rfl rfl|(refine zAd zHI hI (CoLA rfl))|(refine zAd zJv hS (CoLA rfl))|refine aBox (hd:=rfl) (hro:=rfl) rfl rfl ?_|apply ay (hd:=rfl)|exact zAF rfl|exact zAB rfl|exact zBS rfl|exact zAk rfl rfl|exact zBA rfl zCt rfl rfl rfl|refine zAI rfl ?_|refine zAJ rfl ?_|apply zAR|apply zAQ|apply en_r|apply zAT|refine res1 rfl ?_
  all_goals first|omega|rfl|contradiction|skip
 ·rw[if_pos h0]
  generalize imgE m=e at *
  unfold zCm at *
  skip
  repeat' first|apply en_n|apply zAG|apply zAA|apply zAD|apply w0|exact zGh rfl rfl|(refine zAd zHI hI (CoLA rfl))|refine aBox (hd:=rfl) (hro:=rfl) rfl rfl ?_|apply ay (hd:=rfl)|exact zAF rfl|exact zAB rfl|exact zBA rfl zCt rfl rfl rfl|refine zAI rfl ?_|apply zAQ|apply en_r|apply zAT|refine res1 rfl ?_
  all_goals first|omega|rfl|contradiction|skip
end Go.Proofs.YtcagoomibpcdlaaGreatDoor

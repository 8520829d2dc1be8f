import Derived.Test.YtcagoomibpcdlaaGreatDoorMBL
set_option maxHeartbeats 16000000
namespace Go.Proofs.YtcagoomibpcdlaaGreatDoor
open Go.Sx Go.Vm
open _root_.Go.Proofs.Tryz
section
abbrev PrTo(m:Img)(s:St)(p:Int)(f a:Rf)(s':St): Prop:=∀(wb:World) (St0:Stab),
 awp ⟨prog,152,wb,St0,fun _=>False,0⟩ (zEX 3 (zCw Tryz.f65)) (zA8 prog #[.cell 4 84] (smD m s')) (prS p) (apB m s f a)
attribute [local irreducible] zAL Program.underlying Ylds zA2 alex zBZ zBP awp zAb zBh zBg zAW zBF zAp zCO zBG zBR zAr zBV zBY zBe zCQ zBM zA8 zBE JFit
theorem zMN(m:Img)(s:St)(p:Int)(hp:p<7)(f a:Rf)(h:rN f=false\/rN a=false): PrTo m s p f a (s.stop 4):=by
 intro wb St0
 have hT:=zDX m s 4
 generalize s.stop 4=s' at *
 unfold smD at *
 conv=>arg 2;whnf
 dsimp only[apB]
 generalize rN f=bf at *
 generalize rN a=ba at *
 cases bf <;> cases ba
 all_goals first|(exfalso;rcases h with h|h <;> cases h;done)|skip
 all_goals
  exact yB
theorem zPm(m:Img)(s:St)(p:Int)(hp:0<=p/\p<7)(x y:Int)(h2:2<=s.stack.length)(hL:zL5 s)(hS:Sml s)(hx:W x=x)(hy:W y=y): PrTo m s p (.n x) (.n y) (s.ints p x y):=by
 intro wb St0
 have hI:=zX7 m s p x y ⟨hp.1,by omega⟩ h2 hL hS hx hy
 have hp2:=hp.2
 generalize s.ints p x y=s' at *
 unfold smD at *
 conv=>arg 2;whnf
 dsimp only[rN,rV,apB]
 skip
 exact yH
theorem zMM(m:Img)(s:St)(p:Int)(hp:p=8\/p=13)(f a:Rf)(hr:RfIn s.all.length f)(hS:Sml s)(hf:s.of f 4=false): PrTo m s p f a (s.stop 4):=by
 intro wb St0
 have hT:=zDX m s 4
 have hO:=zGR m s f 4 hr hS
 rw[hf]at hO
 generalize s.stop 4=s' at *
 unfold smD rfD at *
 conv=>arg 2;whnf
 rcases hp with h|h <;> subst h
 all_goals
  exact yB
end
section
attribute [local irreducible] zAL Program.underlying Ylds zA2 alex zBZ zBP awp zAb zBh zBg zAW zBF zAp zCO zBG zBR zAr zBV zBY zBe zCQ zBM zA8 zBE
theorem zbY(w u:Int)(all:List Thing)(i k:Nat)(r:Rf)(o:Thing)(ho:all[i]?=some o)(hk:k<o.parts.length)(hA:all.length<=1000000)(hp:o.parts.length<=1000000): zAb prog 111 [hpD w u all,i64 (i:Int),i64 (k:Int),rfD r] (hpD w u (all.set i { o with parts:=o.parts.set k r })):=by
 have hil:=(qAA.1 ho).1
 have hoo:all[((i:Nat):Int).toNat]?=some o:=ho
 have hc1:(0+(o.parts.map rfD).length)*16<=140737488355328/\0+(o.parts.map rfD).length<=140737488355328:=by rw[qAC];omega
 have hc2:(0+(all.map thD).length)*56<=140737488355328/\0+(all.map thD).length<=140737488355328:=by rw[qAC];omega
 have hx1:0<=(k:Int)/\(k:Int)<((0+(o.parts.map rfD).length:Nat):Int):=by rw[qAC];omega
 have hx2:0+(o.parts.map rfD).length<=([]++o.parts.map rfD).length:=by rw[qAE];exact qAP _
 have hy1:0<=(i:Int)/\(i:Int)<((0+(all.map thD).length:Nat):Int):=by rw[qAC];omega
 have hy2:0+(all.map thD).length<=([]++all.map thD).length:=by rw[qAE];exact qAP _
 have hs1:((k:Nat):Int).toNat<([]++o.parts.map rfD).length:=by rw[qBj,qAC];exact hk
 have hs2:((i:Nat):Int).toNat<([]++all.map thD).length:=by rw[qBj,qAC];exact hil
 refine zB0 func111 rfl ntmps111 results111 rfl ?_
 intro wb St0
 unfold hpD
 have hg1:(o.parts.map rfD).set k (.agg [bl (rN r),i64 (rV r)])=(o.parts.set k r).map rfD:=by rw[qBr];rfl
 have hg2:(all.map thD).set i (.agg [i64 o.kind,i64 o.tag,str o.text,.slice ((o.parts.set k r).map rfD)])=(all.set i { o with parts:=o.parts.set k r }).map thD:=(qBr (f:=thD) (l:=all) (i:=i) (a:={ o with parts:=o.parts.set k r })).symm
 rw[<-hg2,<-hg1]
 unfold rfD
 rw[show (fun r=>D.agg [bl (rN r),i64 (rV r)])=rfD from rfl]
 skip
 repeat' first|(refine zHG 4 rfl ?_)|(refine zCi (id:=5) ?_)|apply en_n|apply zAE|apply zAA|apply zAB|apply w0|(apply zJ6 (hd:=rfl) (hro:=rfl);(with_reducible exact zBa);(with_reducible exact zBC);(with_reducible exact zDD);exact rfl)|refine aApA (id:=4) ?_ ?_|exact zBQ rfl rfl rfl zBC hx1 hx2|refine zIY rfl rfl zA7 rfl rfl hs1 rfl ?_|refine aJA ?_|refine aBoA ?_|refine aAlA ?_|refine ayA rfl ?_|apply ay (hd:=rfl)|(refine w0' ?_)|refine aStA ?_
 all_goals first|exact hc1|omega|skip
 refine Stop.go ?_
 refine zBW (s:=[(1,.d (i64 (i:Int))),(4,.ptr 0 0),(8,.ptr 2 0),(9,.ptr 3 0)]) (h:=[.box [.d (i64 w),.d (i64 u),.d (.slice (all.map thD))],.box [.d (bl (rN r)),.d (i64 (rV r))],.box (List.map cst [Value.int IntKind.i64 0,Value.int IntKind.i64 0,Value.slice none 0 0]),.box [.d (i64 o.kind),.d (i64 o.tag),.d (str o.text),.buf 4 (0+(o.parts.map rfD).length)],.buf true 78 2 (([]++o.parts.map rfD).set ((k:Nat):Int).toNat (.agg [bl (rN r),i64 (rV r)]))]) ?_ ?_
 ·exact zAU (Le_all rfl) (zAK rfl rfl (zAK rfl rfl (zD5 rfl zDA (zD5 rfl zDA (zAK rfl rfl zAe))))) rfl rfl
 refine zCm 4 (mu:=true) rfl rfl ?_
 refine zCb 3 3 rfl rfl (zDr rfl (by rw[qAZ];simp)) ?_
 repeat' first|(refine zHG 5 rfl ?_)|(refine zCi (id:=8) ?_)|apply en_n|apply zAE|apply zAA|apply zAB|apply w0|(apply zJ6 (hd:=rfl) (hro:=rfl);(with_reducible exact zFq);(with_reducible exact zCn);(with_reducible exact zKo);exact rfl)|refine aApA (id:=5) ?_ ?_|exact zBQ rfl rfl rfl zCn hy1 hy2|refine zIY rfl rfl zDk rfl rfl hs2 rfl ?_|refine ayA rfl ?_|apply ay (hd:=rfl)|(refine w0' ?_)|refine aStA ?_
 all_goals first|exact hc2|omega|skip
 refine Stop.go ?_
 refine zBW (s:=[(4,.ptr 0 0),(8,.ptr 2 0)]) (h:=[.box [.d (i64 w),.d (i64 u),.buf 5 (0+(all.map thD).length)],.gone,.box (List.map cst [Value.int IntKind.i64 0,Value.int IntKind.i64 0,Value.slice none 0 0]),.gone,.gone,.buf true 132 4 (([]++all.map thD).set ((i:Nat):Int).toNat (.agg [i64 o.kind,i64 o.tag,str o.text,.slice (([]++o.parts.map rfD).set ((k:Nat):Int).toNat (.agg [bl (rN r),i64 (rV r)]))]))]) ?_ ?_
 ·exact zAU (Le_all rfl) (zAK rfl rfl (zDV rfl (zD5 rfl zDA (zDV rfl (zDV rfl (zAK rfl rfl zAe)))))) rfl rfl
 refine zCm 5 (mu:=true) rfl rfl ?_
 refine zCb 0 2 rfl rfl (zDr rfl (by rw[qAZ];simp)) ?_
 exact yD
end
section
def toD(p:Int×VS): D:=.agg [i64 p.1,bl true,i64 p.2.of,i64 p.2.has,i64 p.2.height,zBU p.2.tries]
abbrev nxT(m:Img)(kn:Bool)(s:VS)(op a b:Int)(t:VS)(L:List (Int×VS)): List Ob:=nxB m kn s op a b++[.box [.d (bl true),.d (i64 t.of),.d (i64 t.has),.d (i64 t.height),.d (zBU t.tries)],.buf false 128 6 (L.map toD)]
abbrev nxU(k:Int)(be th:Bool)(n:Nat): Sl:=[(1,.d (i64 k)),(3,.ptr 0 0),(5,.ptr 1 0),(8,.ptr 2 0),(15,.d (bl be)),(16,.d (bl th)),(17,.ptr 3 0),(18,.buf 4 n)]
abbrev zLP(l:Option (List (Int×VS))): Exit->Sl->List Ob->Prop:=zA8 prog #[.tmp 6,.tmp 7] (.tup [.slice ((l.getD []).map toD),bl l.isSome])
theorem zeJ{C:Ctx}{Q:Exit->Sl->List Ob->Prop}{σ:Sl}{η:List Ob}{id:Nat}{o:Array Oper}{dr:Bool}(h:Stop (awp C (.region id o dr) Q σ η)): awp C (.region id o dr) Q σ η:=by
 unfold Stop at h;exact h
attribute [local irreducible] zAL Program.underlying Ylds zA2 alex zBZ zBP awp zAb zBh zBg zAW zBF zAp zCO zBG zBR zAr zBV zBY zBe zCQ zBM zA8 zBE JFit
theorem zXY(m:Img)(kn:Bool){k op a b:Int}{s:VS}(e:Eff)(hk:0<=k/\k<=100000)(hh:-1000000000<=s.height/\s.height<=1000000000)(ht:0<=e.takes/\e.takes<=2000000)(wb:World)(St0:Stab)(l:Option (List (Int×VS)))
  (hno:(!e.holds||decide (s.height-e.takes<zA1 s)||(e.behind&&decide (k+1>=m.code.length)))=true->l=none)
  (h:(!e.holds||decide (s.height-e.takes<zA1 s)||(e.behind&&decide (k+1>=m.code.length)))=false->awp ⟨prog,284,wb,St0,fun _=>False,0⟩ (zEX 8 (zCw Tryz.f56)) (zLP l) (nxS k s e) (nxB m kn s op a b)) :
  awp ⟨prog,284,wb,St0,fun _=>False,0⟩ (zEX 7 (zCw Tryz.f56)) (zLP l) (nxS k s e) (nxB m kn s op a b):=by
 obtain⟨tk,pu,ho,be,th⟩:=e
 obtain⟨so,sh,se,st⟩:=s
 try unfold nxS at *
 generalize zA1 ⟨so,sh,se,st⟩=fl at *
 try unfold nxS at *
 try unfold nxT at *
 try unfold nxU at *
 try unfold nxB at *
 dsimp only at *
 conv=>arg 2;whnf
 cases ho with
 |false =>
  rw[hno rfl]
  unfold zLP
  skip
  repeat' first|apply en_n|apply zAE|apply zAA|apply zAB|apply w0|(refine zAX ?_)|(refine zBu ?_)|exact zA5|(refine RV_d rfl ?_ ?_)|(refine RV_n rfl ?_ ?_)|refine kU (hd:=rfl) rfl rfl ?_|refine k0u (hd:=rfl) rfl rfl ?_|refine ayA rfl ?_|refine zAJ rfl ?_|apply zAM|apply en_r
  all_goals first|omega|rfl|skip
 |true =>
  by_cases hfl:se-tk<fl
  ·rw[hno (by simp[hfl])]
   unfold zLP
   skip
   exact yN
  ·cases be with
   |false =>
    replace h:=h (by simp[hfl])
    conv at h=>arg 2;whnf
    skip
    repeat' first|(refine zCi (id:=50) ?_)|apply en_n|apply zAE|apply zAA|apply zAB|apply w0|refine k1u (hd:=rfl) rfl rfl ?_|refine ayA rfl ?_|refine ayQ rfl ?_|apply ay (hd:=rfl)|refine zCe rfl rfl ?_|refine w1 rfl rfl ?_|refine zAI rfl ?_|apply zAP
    all_goals first|omega|skip
    refine Stop.go ?_
    refine zBW ?_ h
    exact zAU (Le_all rfl) (zA4 _) rfl rfl
   |true =>
    by_cases hb:k+1>=(m.code.length:Int)
    ·rw[hno (by simp[hb])]
     unfold zLP
     skip
     exact yN
    ·replace h:=h (by simp[hfl,hb])
     conv at h=>arg 2;whnf
     skip
     repeat' first|(refine zCi (id:=50) ?_)|apply en_n|apply zAE|apply zAA|apply zAB|apply w0|refine ayA rfl ?_|refine ayQ rfl ?_|apply ay (hd:=rfl)|refine zBp rfl rfl ?_|refine zCe rfl rfl ?_|refine w1 rfl rfl ?_|refine zAI rfl ?_|apply zAP
     all_goals first|omega|skip
     refine Stop.go ?_
     refine zBW ?_ h
     exact zAU (Le_all rfl) (zA4 _) rfl rfl
theorem nx_t(m:Img)(kn:Bool){k op a b:Int}{s:VS}(e:Eff)(hh:-1000000000<=s.height/\s.height<=1000000000)(ht:0<=e.takes/\e.takes<=2000000)(hp:0<=e.puts/\e.puts<=1)(wb:World)(St0:Stab)(Q:Exit->Sl->List Ob->Prop)
  (h:awp ⟨prog,284,wb,St0,fun _=>False,0⟩ (zEX 10 (zCw Tryz.f56)) Q (nxU k e.behind e.there 0) (nxT m kn s op a b ⟨s.of,s.has,s.height-e.takes+e.puts,s.tries⟩ [])) :
  awp ⟨prog,284,wb,St0,fun _=>False,0⟩ (zEX 8 (zCw Tryz.f56)) Q (nxS k s e) (nxB m kn s op a b):=by
 obtain⟨tk,pu,ho,be,th⟩:=e
 obtain⟨so,sh,se,st⟩:=s
 try unfold nxS at *
 try unfold nxT at *
 try unfold nxU at *
 try unfold nxB at *
 dsimp only at *
 conv at h=>arg 2;whnf
 conv=>arg 2;whnf
 skip
 repeat' first|(refine zHu (id:=52) ?_)|apply en_n|apply zAE|apply zAA|apply zAB|apply w0|(refine zBI (cs:=[bl true,i64 so,i64 sh,i64 (se-tk+pu),zBU st]) zKz zJn (PD_d rfl rfl (PD_d rfl rfl (PD_d rfl rfl (PD_d rfl rfl (PD_d rfl rfl zCI))))) rfl)|(apply zJ6 (hd:=rfl) (hro:=rfl);(with_reducible exact zFs);(with_reducible exact zFe);(with_reducible exact zKw);exact rfl)|refine aAlA ?_|refine ayA rfl ?_|apply ay (hd:=rfl)|refine zBp rfl rfl ?_|refine zCe rfl rfl ?_|(refine w0' ?_)|refine aStA ?_
 all_goals first|omega|skip
 refine Stop.go ?_
 refine zBW ?_ h
 exact zAU (Le_all rfl) (zAK rfl rfl (zAK rfl rfl (zAK rfl rfl (zD5 rfl zDA (zAK rfl rfl zAe))))) rfl rfl
theorem zdD(m:Img)(kn:Bool){k op a b:Int}{s:VS}{o hs he:Int}(be th:Bool)(htr:s.tries.length<=2000000)(hne:op=14->s.tries≠[])(wb:World)(St0:Stab)(Q:Exit->Sl->List Ob->Prop)
  (h:awp ⟨prog,284,wb,St0,fun _=>False,0⟩ (zEX 11 (zCw Tryz.f56)) Q (nxU k be th 0) (nxT m kn s op a b ⟨o,hs,he,if op=14 then s.tries.dropLast else s.tries⟩ [])) :
  awp ⟨prog,284,wb,St0,fun _=>False,0⟩ (zEX 10 (zCw Tryz.f56)) Q (nxU k be th 0) (nxT m kn s op a b ⟨o,hs,he,s.tries⟩ []):=by
 obtain⟨so,sh,se,st⟩:=s
 try unfold nxS at *
 try unfold nxT at *
 try unfold nxU at *
 try unfold nxB at *
 dsimp only at *
 conv at h=>arg 2;whnf
 conv=>arg 2;whnf
 by_cases hop:op=14
 ·rw[if_pos hop]at h
  have hst:0<st.length:=qA3.2 (hne hop)
  have hcp:((st.take ((st.length:Int)-1).toNat).map ival).length*8<=140737488355328/\((st.take ((st.length:Int)-1).toNat).map ival).length<=140737488355328:=by rw[qAC,qAG];omega
  have e1:zBU st.dropLast=.slice ((st.take ((st.length:Int)-1).toNat).map ival):=by
   rw[qBF,show st.length-1=((st.length:Int)-1).toNat by omega];rfl
  rw[e1]at h
  have e2:zBU st=.slice (st.map ival):=rfl
  rw[e2]at *
  skip
  repeat' first|(refine zHu (id:=54) ?_)|apply en_n|apply zAE|apply zAA|apply zAB|apply w0|(refine zC9 zBn zBf (by kernel_rfl) rfl)|(refine zGm (L:=st) (enc:=ival) (zA0 rfl) zBf rfl (fun _=>rfl) (by omega))|(refine zEH rfl (zA0 rfl) zBn zBf zHg zFk (fun d hd=>by obtain⟨c,_,rfl⟩:=qA5.1 hd;rfl) hcp)|refine ayA rfl ?_|refine ayQ rfl ?_|apply ay (hd:=rfl)|refine zCe rfl rfl ?_|(refine w0' ?_)|refine aStA ?_|refine zAJ rfl ?_
  all_goals first|omega|(rw[qAC];omega)|skip
  refine Stop.go ?_
  refine zBW ?_ h
  exact zAU (Le_all rfl) (zA4 _) rfl rfl
 ·rw[if_neg hop]at h
  skip
  repeat' first|(refine zHu (id:=54) ?_)|apply en_n|apply zAE|apply zAA|apply zAB|apply w0|refine ayA rfl ?_|refine ayQ rfl ?_|refine zAI rfl ?_|apply zAP
  all_goals first|omega|skip
  refine Stop.go ?_
  refine zBW ?_ h
  exact zAU (Le_all rfl) (zA4 _) rfl rfl
theorem zdC(m:Img)(kn:Bool){k a b:Int}{s:VS}{o hs he:Int}(be th:Bool)(htr:s.tries.length<=2000000)(hh:-1000000000<=s.height/\s.height<=1000000000)(tr:List Int)(wb:World)(St0:Stab)(Q:Exit->Sl->List Ob->Prop)
  (h:awp ⟨prog,284,wb,St0,fun _=>False,0⟩ (zEX 12 (zCw Tryz.f56)) Q (nxU k be th 1) (nxT m kn s 17 a b ⟨o,hs,he,s.tries++[s.height]⟩ [(a,{ s with height:=s.height+1 })])) :
  awp ⟨prog,284,wb,St0,fun _=>False,0⟩ (zEX 11 (zCw Tryz.f56)) Q (nxU k be th 0) (nxT m kn s 17 a b ⟨o,hs,he,tr⟩ []):=by
 obtain⟨so,sh,se,st⟩:=s
 try unfold nxS at *
 try unfold nxT at *
 try unfold nxU at *
 try unfold nxB at *
 dsimp only at *
 conv at h=>arg 2;whnf
 conv=>arg 2;whnf
 cases st with
 |nil =>
  skip
  repeat' first|(refine zHu (id:=57) ?_)|apply en_n|apply zAE|apply zAA|apply zAB|apply w0|refine aApA (id:=4) ?_ ?_|(refine zC9 zBn zBf (by kernel_rfl) rfl)|(refine zHf rfl (zA0 rfl) zBf)|(refine zEH (ys:=[i64 se]) rfl (zA0 rfl) zBn zBf zHg zFk (fun d hd=>by rw[qAM.1 hd];rfl) (by simp))|(refine zBI (cs:=[bl true,i64 so,i64 sh,i64 (se+1),zBU []]) zKz zJn (PD_d rfl rfl (PD_d rfl rfl (PD_d rfl rfl (PD_d rfl rfl (PD_d rfl rfl zCI))))) rfl)|(refine zBI (cs:=[i64 a,bl true,i64 so,i64 sh,i64 (se+1),zBU []]) zKy zKx (PD_d rfl rfl (PD_d rfl rfl zCI)) rfl)|(refine zCJ (by kernel_rfl) ?_;refine aStA ?_)|refine ayA rfl ?_|refine ayQ rfl ?_|refine ayL rfl ?_|apply ay (hd:=rfl)|refine zBp rfl rfl ?_|(refine w0' ?_)|refine zAJ rfl ?_|refine awDA ?_
  all_goals first|omega|rfl|(simp only[qAN,qAj];omega)|skip
  refine Stop.go ?_
  refine zBW ?_ h
  exact zAU (Le_all rfl) (zA4 _) rfl rfl
 |cons t0 r =>
  rw[qAN]at htr
  have hfl:∀d∈(t0::r).map ival,d.flat.length=1:=fun d hd=>by obtain⟨c,_,rfl⟩:=qA5.1 hd;rfl
  have hln:((t0::r).map ival).length=r.length+1:=by rw[qAC,qAN]
  have hcp:((t0::r).map ival).length*8<=140737488355328/\((t0::r).map ival).length<=140737488355328:=by rw[hln];omega
  have hc1:(r.length+1+1)*8<=140737488355328/\r.length+1+1<=140737488355328:=by omega
  skip
  repeat' first|(refine zCi (id:=55) ?_)|apply en_n|apply zAE|apply zAA|apply zAB|apply w0|refine ayA rfl ?_|refine ayQ rfl ?_|refine zAJ rfl ?_
  all_goals first|omega|skip
  refine Stop.go ?_
  refine zAE ?_
  refine zEd [.d (.tsl []),.ptr 1 (0+4),.d (.slice ((t0::r).map ival)),.buf 5 (r.length+1),.ptr 1 (0+3),.d (i64 se),.d (.slice [i64 se])] [3] [([.box [.d (.slice (m.pool.map enCn)),.d (.slice (m.code.map enIn))],.box [.d (bl kn),.d (i64 so),.d (i64 sh),.d (i64 se),.d (zBU (t0::r))],.box [.d (i64 17),.d (i64 a),.d (i64 b)]]++[.box [.d (bl true),.d (i64 o),.d (i64 hs),.d (i64 he),.d (zBU tr)],.buf false 128 6 (List.map toD [])]),([.box [.d (.slice (m.pool.map enCn)),.d (.slice (m.code.map enIn))],.box [.d (bl kn),.d (i64 so),.d (i64 sh),.d (i64 se),.d (zBU (t0::r))],.box [.d (i64 17),.d (i64 a),.d (i64 b)]]++[.box [.d (bl true),.d (i64 o),.d (i64 hs),.d (i64 he),.d (zBU tr)],.buf false 128 6 (List.map toD [])])++[.buf false 3 1 ((t0::r).map ival)]] (by kernel_rfl) (by kernel_rfl) rfl (.inr (by kernel_rfl)) rfl (by kernel_rfl) rfl rfl ?_ ?_
  ·refine zBN rfl rfl rfl (fun η=>zC9 zBn zBf (by kernel_rfl) rfl) ?_
   refine zBN rfl rfl rfl (fun η=>zAF rfl zEx) ?_
   refine zDG 0 0 rfl rfl rfl (by decide +kernel) (by decide +kernel) (zBc (zAG rfl zB1 rfl rfl) zCl) ?_
   refine zGH 0 rfl rfl rfl rfl rfl zBn zBf zHg zFk hfl hcp rfl rfl hln rfl rfl ?_
   refine zBN rfl rfl rfl (fun η=>zAF rfl zDo) ?_
   refine zDG 0 1 rfl rfl rfl (by decide +kernel) (by decide +kernel) (zBc (zAG rfl zAY rfl rfl) (zBc (zAG rfl zAY rfl rfl) zCl)) ?_
   refine zBN rfl rfl rfl (fun η=>zCA zBn zBf zET rfl rfl (zAN rfl zAH) rfl) ?_
   exact zFQ
  skip
  repeat' first|(refine zeJ (id:=56) ?_)|apply en_n|apply zAB|apply w0|(refine zCJ (by kernel_rfl) ?_;refine aStA ?_)|(refine zCJ (by kernel_rfl) ?_;apply aApp (id:=5) (ys:=[i64 se]) (hd:=rfl) (hro:=rfl);exact rfl;exact rfl;exact zA0 rfl;exact hln.symm;exact rfl;(with_reducible exact zBn);(with_reducible exact zBf);(with_reducible exact zHg);(with_reducible exact zFk);exact(fun d hd=>by rw[qAM.1 hd];rfl);exact hc1)|refine ayA rfl ?_|(refine w0' ?_)
  all_goals first|omega|skip
  refine Stop.go ?_
  refine zBW (s:=[(1,.d (i64 k)),(3,.ptr 0 0),(5,.ptr 1 0),(8,.ptr 2 0),(15,.d (bl be)),(16,.d (bl th)),(17,.ptr 3 0),(18,.buf 4 0)]) (h:=[.box [.d (.slice (m.pool.map enCn)),.d (.slice (m.code.map enIn))],.box [.d (bl kn),.d (i64 so),.d (i64 sh),.d (i64 se),.d (zBU (t0::r))],.box [.d (i64 17),.d (i64 a),.d (i64 b)],.box [.d (bl true),.d (i64 o),.d (i64 hs),.d (i64 he),.buf 5 (r.length+1+1)],.buf false 128 6 [],.buf false 3 1 ((t0::r).map ival++[i64 se])]) ?_ ?_
  ·exact zAU (Le_all rfl) (zA4 _) rfl rfl
  refine zCb 3 4 rfl rfl (zDr rfl (by rw[qAE,hln];rfl)) ?_
  repeat' first|(refine zHu (id:=57) ?_)|apply en_n|apply zAA|apply zAB|apply w0|refine aApA (id:=4) ?_ ?_|(refine zBI (cs:=[bl true,i64 so,i64 sh,i64 (se+1),zBU (t0::r)]) zKz zJn (PD_d rfl rfl (PD_d rfl rfl (PD_d rfl rfl (PD_d rfl rfl (PD_d rfl rfl zCI))))) rfl)|(refine zBI (cs:=[i64 a,bl true,i64 so,i64 sh,i64 (se+1),zBU (t0::r)]) zKy zKx (PD_d rfl rfl (PD_d rfl rfl zCI)) rfl)|refine ayA rfl ?_|refine ayL rfl ?_|apply ay (hd:=rfl)|refine zBp rfl rfl ?_
  all_goals first|omega|rfl|(simp only[qAN,qAj];omega)|skip
  refine Stop.go ?_
  have es:zBU (t0::r++[se])=.slice ((t0::r).map ival++[i64 se]):=by unfold zBU;rw[qAU];rfl
  rw[es]at h
  refine zBW ?_ h
  exact zAU (Le_all rfl) (zAK rfl rfl (zAK rfl rfl (zAK rfl rfl (zAK rfl rfl (zAK rfl rfl zAe))))) rfl rfl
theorem zej(m:Img)(kn:Bool){k op a b:Int}{s:VS}{o hs he:Int}(be th:Bool)(htr:s.tries.length<=2000000)(hh:-1000000000<=s.height/\s.height<=1000000000)(tr:List Int)(wb:World)(St0:Stab)(Q:Exit->Sl->List Ob->Prop)
  (h:awp ⟨prog,284,wb,St0,fun _=>False,0⟩ (zEX 12 (zCw Tryz.f56)) Q (nxU k be th (if op=17 then[(a,{ s with height:=s.height+1 })]else[]:List (Int×VS)).length) (nxT m kn s op a b ⟨o,hs,he,if op=17 then s.tries++[s.height]else tr⟩ (if op=17 then[(a,{ s with height:=s.height+1 })]else[]))) :
  awp ⟨prog,284,wb,St0,fun _=>False,0⟩ (zEX 11 (zCw Tryz.f56)) Q (nxU k be th 0) (nxT m kn s op a b ⟨o,hs,he,tr⟩ []):=by
 by_cases hop:op=17
 ·subst hop
  exact zdC m kn be th htr hh tr wb St0 Q h
 ·rw[if_neg hop,if_neg hop]at h
  conv at h=>arg 2;whnf
  conv=>arg 2;whnf
  skip
  repeat' first|(refine zHu (id:=57) ?_)|apply en_n|apply zAE|apply zAA|apply zAB|apply w0|refine ayA rfl ?_|refine ayQ rfl ?_|refine zAI rfl ?_|apply zAP
  all_goals first|omega|skip
  refine Stop.go ?_
  refine zBW ?_ h
  exact zAU (Le_all rfl) (zA4 _) rfl rfl
theorem zei(m:Img)(kn:Bool){k op a b:Int}{s t:VS}(be th:Bool)(L:List (Int×VS))(hL:op=18->L=[])(wb:World)(St0:Stab)(Q:Exit->Sl->List Ob->Prop)
  (h:awp ⟨prog,284,wb,St0,fun _=>False,0⟩ (zEX 13 (zCw Tryz.f56)) Q (nxU k be th (L++(if op=18 then[(a,(⟨a,b,1,[]⟩:VS))]else[])).length) (nxT m kn s op a b t (L++(if op=18 then[(a,(⟨a,b,1,[]⟩:VS))]else[])))) :
  awp ⟨prog,284,wb,St0,fun _=>False,0⟩ (zEX 12 (zCw Tryz.f56)) Q (nxU k be th L.length) (nxT m kn s op a b t L):=by
 by_cases hop:op=18
 ·rw[if_pos hop,hL hop]at h
  rw[hL hop]
  conv at h=>arg 2;whnf
  conv=>arg 2;whnf
  skip
  repeat' first|(refine zHu (id:=59) ?_)|apply en_n|apply zAE|apply zAA|apply zAB|apply w0|refine aApA (id:=4) ?_ ?_|(refine zBI (cs:=[bl true,i64 a,i64 b,i64 1,zBU []]) zKz zJn (PD_d rfl rfl (PD_d rfl rfl (PD_d rfl rfl (PD_d rfl rfl zCI)))) rfl)|(refine zBI (cs:=[i64 a,bl true,i64 a,i64 b,i64 1,zBU []]) zKy zKx (PD_d rfl rfl (PD_d rfl rfl zCI)) rfl)|refine ayA rfl ?_|refine ayQ rfl ?_|refine ayL rfl ?_|apply ay (hd:=rfl)|refine zAJ rfl ?_
  all_goals first|omega|rfl|(simp only[qAN,qAj];omega)|skip
  refine Stop.go ?_
  refine zBW ?_ h
  exact zAU (Le_all rfl) (zA4 _) rfl rfl
 ·rw[if_neg hop,qBC]at h
  conv at h=>arg 2;whnf
  conv=>arg 2;whnf
  skip
  repeat' first|(refine zHu (id:=59) ?_)|apply en_n|apply zAE|apply zAA|apply zAB|apply w0|refine ayA rfl ?_|refine ayQ rfl ?_|refine zAI rfl ?_|apply zAP
  all_goals first|omega|skip
  refine Stop.go ?_
  refine zBW ?_ h
  exact zAU (Le_all rfl) (zA4 _) rfl rfl
theorem zdB(m:Img)(kn:Bool){k op a b:Int}{s t:VS}(be th:Bool)(L:List (Int×VS))(hL:L.length<=5)(hk:0<=k/\k<=100000)(wb:World)(St0:Stab):
  awp ⟨prog,284,wb,St0,fun _=>False,0⟩ (zEX 13 (zCw Tryz.f56)) (zLP (some (L++(if be then[(k+1,t)]else[])++(if th then[(a,t)]else[])))) (nxU k be th L.length) (nxT m kn s op a b t L):=by
 unfold zLP
 conv=>arg 2;whnf
 cases be <;> cases th
 all_goals
  repeat' first|apply en_n|apply zAE|apply zAA|apply zAB|apply w0|(refine zAX ?_)|(refine zBu ?_)|exact zA5|(refine RV_d rfl ?_ ?_)|(refine RV_b rfl rfl ?_ ?_ ?_)|refine aApA (id:=4) ?_ ?_|(refine zBI (cs:=[i64 a,bl true,i64 t.of,i64 t.has,i64 t.height,zBU t.tries]) zKy zKx (PD_d rfl rfl (PD_d rfl rfl zCI)) rfl)|(refine zBI (cs:=[i64 (k+1),bl true,i64 t.of,i64 t.has,i64 t.height,zBU t.tries]) zKy zKx (PD_d rfl rfl (PD_d rfl rfl zCI)) rfl)|refine ayA rfl ?_|refine ayL rfl ?_|apply ay (hd:=rfl)|refine zBp rfl rfl ?_|refine zAJ rfl ?_|refine zAI rfl ?_|apply zAP|apply zAM
 all_goals first|omega|rfl|(simp only[qAN,qAj];omega)|(simp;done)|(simp[toD];done)|skip
end
section
theorem zdY{con:List UInt8->Bool}{m:Img}{i:Ins}{s:VS}(ha:i.a<=1048576)(hb:i.b<=1048576): (eff con m i s).takes<=1048577:=by
 have hi:∀{c:Prop} [Decidable c] {x y:Eff},x.takes<=1048577->y.takes<=1048577->(if c then x else y).takes<=1048577:=by
  intro c _ x y h1 h2;split
  ·exact h1
  ·exact h2
 have ht:takes i.a<=1048577:=by unfold takes;repeat' split <;> omega
 unfold eff;dsimp only
 repeat' (with_reducible refine hi ?_ ?_)
 all_goals (dsimp only;omega)
attribute [local irreducible] zAL Program.underlying Ylds zA2 alex zBZ zBP awp zAb zBh zBg zAW zBF zAp zCO zBG zBR zAr zBV zBY zBe zCQ zBM zA8 zBE JFit
theorem zap(m:Img)(kn:Bool){k op a b:Int}{s:VS}(hd:NxAt m k ⟨op,a,b⟩ s)(h0:0<=op/\op<=20)(wb:World)(St0:Stab)(Q:Exit->Sl->List Ob->Prop)
  (h:awp ⟨prog,284,wb,St0,fun _=>False,0⟩ (zEX 7 (zCw Tryz.f56)) Q (nxS k s (eff conF m ⟨op,a,b⟩ s)) (nxB m kn s op a b)) :
  awp ⟨prog,284,wb,St0,fun _=>False,0⟩ (zEX 6 (zCw Tryz.f56)) Q (nxS0 k s) (nxB m kn s op a b):=by
 have hc:op=0\/op=1\/op=2\/op=3\/op=4\/op=5\/op=6\/op=7\/op=8\/op=9\/op=10\/op=11\/op=12\/op=13\/op=14\/op=15\/op=16\/op=17\/op=18\/op=19\/op=20:=by omega
 rcases hc with h1|h1|h1|h1|h1|h1|h1|h1|h1|h1|h1|h1|h1|h1|h1|h1|h1|h1|h1|h1|h1 <;> subst h1
 ·exact zUc.1 m kn hd wb St0 Q h
 ·exact zJx.1 m kn hd wb St0 Q h
 ·exact zJx.2.1 m kn hd wb St0 Q h
 ·exact zUc.2.1 m kn hd wb St0 Q h
 ·exact zJx.2.2.1 m kn hd wb St0 Q h
 ·exact zJx.2.2.2.1 m kn hd wb St0 Q h
 ·exact zJx.2.2.2.2.1 m kn hd wb St0 Q h
 ·exact zJx.2.2.2.2.2.1 m kn hd wb St0 Q h
 ·exact zUc.2.2.1 m kn hd wb St0 Q h
 ·exact zUc.2.2.2.1 m kn hd wb St0 Q h
 ·exact zdA m kn hd wb St0 Q h
 ·exact zJx.2.2.2.2.2.2.1 m kn hd wb St0 Q h
 ·exact zJx.2.2.2.2.2.2.2.1 m kn hd wb St0 Q h
 ·exact zJx.2.2.2.2.2.2.2.2.1 m kn hd wb St0 Q h
 ·exact zUc.2.2.2.2 m kn hd wb St0 Q h
 ·exact zJx.2.2.2.2.2.2.2.2.2.1 m kn hd wb St0 Q h
 ·exact zJx.2.2.2.2.2.2.2.2.2.2.1 m kn hd wb St0 Q h
 ·exact zJx.2.2.2.2.2.2.2.2.2.2.2.1 m kn hd wb St0 Q h
 ·exact zJx.2.2.2.2.2.2.2.2.2.2.2.2 m kn hd wb St0 Q h
 ·exact zc9 m kn hd wb St0 Q h
 ·exact zc8 m kn hd wb St0 Q h
theorem zXK(m:Img)(him:ImgOk m)(k:Nat)(hk:k<m.code.length)(kn:Bool)(s:VS)(hh:-1000000000<=s.height/\s.height<=1000000000)(htr:s.tries.length<=2000000): zAb prog 56 [zCs m,i64 (k:Int),rsD kn s] (.tup [.slice (((zGs conF m k s).getD []).map toD),bl (zGs conF m k s).isSome]):=by
 obtain⟨⟨op,a,b⟩,hi⟩:∃i,m.code[k]?=some i:=⟨_,qAB hk⟩
 have hg:m.code.getD k default=⟨op,a,b⟩:=by rw[qAD,hi];rfl
 obtain⟨o0,o20,a0,a1,b0,b1,-⟩:=him.ins _ (qAF hi)
 dsimp only at o0 o20 a0 a1 b0 b1
 have hcl:=him.code
 have hat:m.code[(k:Int).toNat]?=some ⟨op,a,b⟩:=hi
 have hd:NxAt m (k:Int) ⟨op,a,b⟩ s:=⟨by omega,hat,hcl,him,hh,htr⟩
 obtain⟨e0,e1,e2⟩:=zY4 (con:=conF) (m:=m) (i:=⟨op,a,b⟩) (s:=s) a0 b0
 have e3:=zdY (con:=conF) (m:=m) (i:=⟨op,a,b⟩) (s:=s) a1 b1
 have e14:op=14->(eff conF m ⟨op,a,b⟩ s).holds=true->s.tries≠[]:=by
  intro h1;subst h1
  show (!s.tries.isEmpty)=true->_
  intro h2 h3;rw[h3]at h2;cases h2
 refine zB0 func56 rfl ntmps56 results56 rfl ?_
 intro wb St0
 refine zao m kn hd wb St0 _ ?_
 refine zap m kn hd ⟨o0,o20⟩ wb St0 _ ?_
 have hnv:zGs conF m k s=if(!(eff conF m ⟨op,a,b⟩ s).holds||decide (s.height-(eff conF m ⟨op,a,b⟩ s).takes<zA1 s)||((eff conF m ⟨op,a,b⟩ s).behind&&decide ((k:Int)+1>=m.code.length)))=true then none else some ((if op=17 then[(a,{ s with height:=s.height+1 })]else[])++(if op=18 then[(a,⟨a,b,1,[]⟩)]else[]) ++
   (if(eff conF m ⟨op,a,b⟩ s).behind then[((k:Int)+1,{ s with height:=s.height-(eff conF m ⟨op,a,b⟩ s).takes+(eff conF m ⟨op,a,b⟩ s).puts,tries:=if op=14 then s.tries.dropLast else if op=17 then s.tries++[s.height]else s.tries })]else[])++(if(eff conF m ⟨op,a,b⟩ s).there then[(a,{ s with height:=s.height-(eff conF m ⟨op,a,b⟩ s).takes+(eff conF m ⟨op,a,b⟩ s).puts,tries:=if op=14 then s.tries.dropLast else if op=17 then s.tries++[s.height]else s.tries })]else[])):=by
  unfold zGs;dsimp only;rw[hg]
 generalize eff conF m ⟨op,a,b⟩ s=e at *
 generalize zGs conF m k s=l at *
 refine zXY m kn e ⟨by omega,by omega⟩ hh ⟨e0,by omega⟩ wb St0 l (fun hc=>by rw[hnv,if_pos hc]) (fun hc=>?_)
 rw[if_neg (by rw[hc];decide)]at hnv
 have hho:e.holds=true:=by
  cases hq:e.holds with
  |true=>rfl
  |false=>rw[hq]at hc;cases hc
 subst hnv
 refine nx_t m kn e hh ⟨e0,by omega⟩ ⟨e1,e2⟩ wb St0 _ ?_
 refine zdD m kn e.behind e.there htr (fun h=>e14 h hho) wb St0 _ ?_
 refine zej m kn e.behind e.there htr hh _ wb St0 _ ?_
 refine zei m kn e.behind e.there _ (fun h=>by rw[if_neg (by omega)]) wb St0 _ ?_
 have htt:(if op=17 then s.tries++[s.height]else if op=14 then s.tries.dropLast else s.tries)=if op=14 then s.tries.dropLast else if op=17 then s.tries++[s.height]else s.tries:=by
  by_cases h1:op=17
  ·rw[if_pos h1,if_neg (by omega),if_pos h1]
  ·rw[if_neg h1,if_neg h1]
 rw[htt]
 refine zdB m kn e.behind e.there _ ?_ ⟨by omega,by omega⟩ wb St0
 rw[qAE]
 split <;> split <;> simp

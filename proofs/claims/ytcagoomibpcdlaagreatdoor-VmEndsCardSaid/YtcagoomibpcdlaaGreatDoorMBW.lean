/- Parts of the proof. -/
import Derived.Test.YtcagoomibpcdlaaGreatDoorMBV
set_option maxHeartbeats 16000000
namespace Go.Proofs.YtcagoomibpcdlaaGreatDoor
open _root_.Go.Proofs.Tryz
open Go.Sx Go.Vm
def toD(p:Int×VS): D:=.agg [i64 p.1,bl true,i64 p.2.of,i64 p.2.has,i64 p.2.height,zBW p.2.tries]
abbrev nxT(m:Img)(kn:Bool)(s:VS)(op a b:Int)(t:VS)(L:List (Int×VS)): List Ob:=nxB m kn s op a b++[.box [.d (bl true),.d (i64 t.of),.d (i64 t.has),.d (i64 t.height),.d (zBW t.tries)],.buf false 128 6 (L.map toD)]
abbrev nxU(k:Int)(be th:Bool)(n:Nat): Sl:=[(1,.d (i64 k)),(3,.ptr 0 0),(5,.ptr 1 0),(8,.ptr 2 0),(15,.d (bl be)),(16,.d (bl th)),(17,.ptr 3 0),(18,.buf 4 n)]
abbrev zJk(l:Option (List (Int×VS))): Exit->Sl->List Ob->Prop:=zBc prog #[.tmp 6,.tmp 7] (.tup [.slice ((l.getD []).map toD),bl l.isSome])
theorem zaT{C:Ctx}{Q:Exit->Sl->List Ob->Prop}{σ:Sl}{η:List Ob}{id:Nat}{o:Array Oper}{dr:Bool}(h:Stop (awp C (.region id o dr) Q σ η)): awp C (.region id o dr) Q σ η:=by
 unfold Stop at h;exact h
attribute [local irreducible] zAO Program.underlying Ylds zBE alex zB0 zBk awp zAg zB9 zB8 zAU zBj zA6 zDJ zBl zBn zBC zBq zBz zB7 zDQ zBm zBc zBe JFit
theorem zUW(m:Img)(kn:Bool){k op a b:Int}{s:VS}(e:Eff)(hk:0<=k/\k<=100000)(hh:-1000000000<=s.height/\s.height<=1000000000)(ht:0<=e.takes/\e.takes<=2000000)(wb:World)(St0:Stab)(l:Option (List (Int×VS)))
  (hno:(!e.holds||decide (s.height-e.takes<zA4 s)||(e.behind&&decide (k+1>=m.code.length)))=true->l=none)
  (h:(!e.holds||decide (s.height-e.takes<zA4 s)||(e.behind&&decide (k+1>=m.code.length)))=false->awp ⟨prog,284,wb,St0,fun _=>False,0⟩ (zFs 8 (zDt Tryz.f56)) (zJk l) (nxS k s e) (nxB m kn s op a b)) :
  awp ⟨prog,284,wb,St0,fun _=>False,0⟩ (zFs 7 (zDt Tryz.f56)) (zJk l) (nxS k s e) (nxB m kn s op a b):=by
 obtain⟨tk,pu,ho,be,th⟩:=e
 obtain⟨so,sh,se,st⟩:=s
 try unfold nxS at *
 generalize zA4 ⟨so,sh,se,st⟩=fl at *
 try unfold nxS at *
 try unfold nxT at *
 try unfold nxU at *
 try unfold nxB at *
 dsimp only at *
 conv=>arg 2;whnf
 cases ho with
 |false =>
  rw[hno rfl]
  unfold zJk
  skip
  repeat' first|apply en_n|apply zAG|apply zAA|apply zAD|apply w0|(refine zBQ ?_)|(refine zBp ?_)|exact zCh|(refine RV_d rfl ?_ ?_)|(refine RV_n rfl ?_ ?_)|refine kU (hd:=rfl) rfl rfl ?_|refine k0u (hd:=rfl) rfl rfl ?_|apply ay (hd:=rfl)|exact zAF rfl|exact zAB rfl|exact zBS rfl|exact zAZ rfl rfl|exact zBN rfl|refine zAI rfl ?_|apply zAQ|apply en_r
  all_goals first|omega|rfl|skip
 |true =>
  by_cases hfl:se-tk<fl
  ·rw[hno (by simp[hfl])]
   unfold zJk
   skip
   repeat' first|apply en_n|apply zAG|apply zAA|apply zAD|apply w0|(refine zBQ ?_)|(refine zBp ?_)|exact zCh|(refine RV_d rfl ?_ ?_)|(refine RV_n rfl ?_ ?_)|refine kU (hd:=rfl) rfl rfl ?_|refine k0u (hd:=rfl) rfl rfl ?_|exact zCf rfl rfl|apply ay (hd:=rfl)|exact zAF rfl|exact zAB rfl|refine zC2 rfl rfl ?_|exact zBS rfl|exact zAZ rfl rfl|exact zAV rfl rfl|exact zBN rfl|exact zAC rfl zDG|exact zAE rfl zAP rfl rfl|refine w1 rfl rfl ?_|refine zAI rfl ?_|apply zAQ|apply en_r
   all_goals first|omega|rfl|skip
  ·cases be with
   |false =>
    replace h:=h (by simp[hfl])
    conv at h=>arg 2;whnf
    skip
    repeat' first|(refine zEd (id:=50) ?_)|apply en_n|apply zAG|apply zAA|apply zAD|apply w0|refine k1u (hd:=rfl) rfl rfl ?_|exact zCY rfl rfl|apply ay (hd:=rfl)|exact zAF rfl|refine zC2 rfl rfl ?_|exact zBS rfl|exact zAV rfl rfl|exact zAC rfl zDG|exact zAE rfl zAP rfl rfl|refine w1 rfl rfl ?_|refine zAJ rfl ?_|apply zAR
    all_goals first|omega|skip
    refine Stop.go ?_
    refine zCI ?_ h
    exact zAS (Le_all rfl) (zBF _) rfl rfl
   |true =>
    by_cases hb:k+1>=(m.code.length:Int)
    ·rw[hno (by simp[hb])]
     unfold zJk
     skip
     repeat' first|apply en_n|apply zAG|apply zAA|apply zAD|apply w0|(refine zBQ ?_)|(refine zBp ?_)|exact zCh|(refine RV_d rfl ?_ ?_)|(refine RV_n rfl ?_ ?_)|exact zCY rfl rfl|exact zHL rfl rfl|apply ay (hd:=rfl)|exact zAF rfl|exact zAB rfl|exact zBD rfl zDk|refine zBG rfl rfl ?_|refine zC2 rfl rfl ?_|exact zBS rfl|exact zAZ rfl rfl|exact zAV rfl rfl|exact zBN rfl|(apply zAC;exact rfl;(with_reducible first|exact zDG|exact zA9))|(apply zAE;exact rfl;(with_reducible first|exact zBg|exact zAP);exact rfl;exact rfl)|refine w1 rfl rfl ?_|refine zAI rfl ?_|apply zAQ|apply en_r
     all_goals first|omega|rfl|skip
    ·replace h:=h (by simp[hfl,hb])
     conv at h=>arg 2;whnf
     skip
     repeat' first|(refine zEd (id:=50) ?_)|apply en_n|apply zAG|apply zAA|apply zAD|apply w0|exact zCY rfl rfl|exact zGm rfl rfl|apply ay (hd:=rfl)|exact zAF rfl|exact zBD rfl zDk|refine zBG rfl rfl ?_|refine zC2 rfl rfl ?_|exact zBS rfl|exact zAZ rfl rfl|exact zAV rfl rfl|(apply zAC;exact rfl;(with_reducible first|exact zDG|exact zA9))|(apply zAE;exact rfl;(with_reducible first|exact zBg|exact zAP);exact rfl;exact rfl)|refine w1 rfl rfl ?_|refine zAJ rfl ?_|apply zAR
     all_goals first|omega|skip
     refine Stop.go ?_
     refine zCI ?_ h
     exact zAS (Le_all rfl) (zBF _) rfl rfl
theorem nx_t(m:Img)(kn:Bool){k op a b:Int}{s:VS}(e:Eff)(hh:-1000000000<=s.height/\s.height<=1000000000)(ht:0<=e.takes/\e.takes<=2000000)(hp:0<=e.puts/\e.puts<=1)(wb:World)(St0:Stab)(Q:Exit->Sl->List Ob->Prop)
  (h:awp ⟨prog,284,wb,St0,fun _=>False,0⟩ (zFs 10 (zDt Tryz.f56)) Q (nxU k e.behind e.there 0) (nxT m kn s op a b ⟨s.of,s.has,s.height-e.takes+e.puts,s.tries⟩ [])) :
  awp ⟨prog,284,wb,St0,fun _=>False,0⟩ (zFs 8 (zDt Tryz.f56)) Q (nxS k s e) (nxB m kn s op a b):=by
 obtain⟨tk,pu,ho,be,th⟩:=e
 obtain⟨so,sh,se,st⟩:=s
 try unfold nxS at *
 try unfold nxT at *
 try unfold nxU at *
 try unfold nxB at *
 dsimp only at *
 conv at h=>arg 2;whnf
 conv=>arg 2;whnf
 skip
 repeat' first|(refine zHk (id:=52) ?_)|apply en_n|apply zAG|apply zAA|apply zAD|apply w0|(refine zBr (cs:=[bl true,i64 so,i64 sh,i64 (se-tk+pu),zBW st]) zJM zIF (PD_d rfl rfl (PD_d rfl rfl (PD_d rfl rfl (PD_d rfl rfl (PD_d rfl rfl zCi))))) rfl)|(apply zNz (hd:=rfl) (hro:=rfl);(with_reducible exact zEu);(with_reducible exact zEl);(with_reducible exact zJJ);exact rfl)|(apply zDv (hd:=rfl) (hro:=rfl);(with_reducible exact zIF))|apply ay (hd:=rfl)|exact zAF rfl|refine zBG rfl rfl ?_|refine zC2 rfl rfl ?_|exact zAp rfl|(apply zAC;exact rfl;(with_reducible first|exact zGP|exact zGO|exact zDG|exact zEB))|(apply zAE;exact rfl;(with_reducible first|exact zAP|exact zAt);exact rfl;exact rfl)|(refine w0' ?_)|refine zAj rfl rfl rfl zEk rfl rfl rfl rfl ?_
 all_goals first|omega|skip
 refine Stop.go ?_
 refine zCI ?_ h
 exact zAS (Le_all rfl) (zAN rfl rfl (zAN rfl rfl (zAN rfl rfl (zHC rfl zIY (zAN rfl rfl zAs))))) rfl rfl
theorem zZV(m:Img)(kn:Bool){k op a b:Int}{s:VS}{o hs he:Int}(be th:Bool)(htr:s.tries.length<=2000000)(hne:op=14->s.tries≠[])(wb:World)(St0:Stab)(Q:Exit->Sl->List Ob->Prop)
  (h:awp ⟨prog,284,wb,St0,fun _=>False,0⟩ (zFs 11 (zDt Tryz.f56)) Q (nxU k be th 0) (nxT m kn s op a b ⟨o,hs,he,if op=14 then s.tries.dropLast else s.tries⟩ [])) :
  awp ⟨prog,284,wb,St0,fun _=>False,0⟩ (zFs 10 (zDt Tryz.f56)) Q (nxU k be th 0) (nxT m kn s op a b ⟨o,hs,he,s.tries⟩ []):=by
 obtain⟨so,sh,se,st⟩:=s
 try unfold nxS at *
 try unfold nxT at *
 try unfold nxU at *
 try unfold nxB at *
 dsimp only at *
 conv at h=>arg 2;whnf
 conv=>arg 2;whnf
 by_cases hop:op=14
 ·rw[if_pos hop]at h
  have hst:0<st.length:=qBe.2 (hne hop)
  have hcp:((st.take ((st.length:Int)-1).toNat).map ival).length*8<=140737488355328/\((st.take ((st.length:Int)-1).toNat).map ival).length<=140737488355328:=by rw[qAC,qAK];omega
  have e1:zBW st.dropLast=.slice ((st.take ((st.length:Int)-1).toNat).map ival):=by
   rw[qBY,show st.length-1=((st.length:Int)-1).toNat by omega];rfl
  rw[e1]at h
  have e2:zBW st=.slice (st.map ival):=rfl
  rw[e2]at *
  skip
  repeat' first|(refine zHk (id:=54) ?_)|apply en_n|apply zAG|apply zAA|apply zAD|apply w0|exact zAi rfl rfl|(refine zKH zA0 zA5 (by kernel_rfl) rfl)|(refine zV5 (L:=st) (enc:=ival) (zCQ rfl) zA5 rfl (fun _=>rfl) (by omega))|(refine zLl rfl (zCQ rfl) zA0 zA5 zHD zFl (fun d hd=>by obtain⟨c,_,rfl⟩:=qBO.1 hd;rfl) hcp)|apply ay (hd:=rfl)|exact zBD rfl zCP|refine zC2 rfl rfl ?_|(apply zAC;exact rfl;(with_reducible first|exact zEB|exact zAv))|(apply zAE;exact rfl;(with_reducible first|exact zAa|exact zAt);exact rfl;exact rfl)|(refine w0' ?_)|refine zAj rfl rfl rfl zAt rfl rfl rfl rfl ?_|refine zAI rfl ?_
  all_goals first|omega|(rw[qAC];omega)|skip
  refine Stop.go ?_
  refine zCI ?_ h
  exact zAS (Le_all rfl) (zBF _) rfl rfl
 ·rw[if_neg hop]at h
  skip
  repeat' first|(refine zHk (id:=54) ?_)|apply en_n|apply zAG|apply zAA|apply zAD|apply w0|exact zAn rfl rfl|apply ay (hd:=rfl)|exact zAC rfl zAv|exact zAE rfl zAa rfl rfl|refine zAJ rfl ?_|apply zAR
  all_goals first|omega|skip
  refine Stop.go ?_
  refine zCI ?_ h
  exact zAS (Le_all rfl) (zBF _) rfl rfl
theorem zZU(m:Img)(kn:Bool){k a b:Int}{s:VS}{o hs he:Int}(be th:Bool)(htr:s.tries.length<=2000000)(hh:-1000000000<=s.height/\s.height<=1000000000)(tr:List Int)(wb:World)(St0:Stab)(Q:Exit->Sl->List Ob->Prop)
  (h:awp ⟨prog,284,wb,St0,fun _=>False,0⟩ (zFs 12 (zDt Tryz.f56)) Q (nxU k be th 1) (nxT m kn s 17 a b ⟨o,hs,he,s.tries++[s.height]⟩ [(a,{ s with height:=s.height+1 })])) :
  awp ⟨prog,284,wb,St0,fun _=>False,0⟩ (zFs 11 (zDt Tryz.f56)) Q (nxU k be th 0) (nxT m kn s 17 a b ⟨o,hs,he,tr⟩ []):=by
 obtain⟨so,sh,se,st⟩:=s
 try unfold nxS at *
 try unfold nxT at *
 try unfold nxU at *
 try unfold nxB at *
 dsimp only at *
 conv at h=>arg 2;whnf
 conv=>arg 2;whnf
 cases st with
 |nil =>
  skip
  repeat' first|(refine zHk (id:=57) ?_)|apply en_n|apply zAG|apply zAA|apply zAD|apply w0|exact zAi rfl rfl|(apply aApp (id:=4) (hd:=rfl) (hro:=rfl);exact rfl;exact rfl;(first|exact zCQ rfl|exact zCp rfl rfl rfl|exact Co_nn rfl);(first|exact rfl|exact(by simp));exact rfl;(with_reducible exact zEu);(with_reducible exact zEl);(with_reducible exact zK1);(with_reducible exact zK4);(first|exact zFE (fun _=>rfl)|exact zDS rfl))|(refine zKH zA0 zA5 (by kernel_rfl) rfl)|(refine zVS rfl (zCQ rfl) zA5)|(refine zLl (ys:=[i64 se]) rfl (zCQ rfl) zA0 zA5 zHD zFl (fun d hd=>by rw[qAO.1 hd];rfl) (by simp))|(refine zBr (cs:=[bl true,i64 so,i64 sh,i64 (se+1),zBW []]) zJM zIF (PD_d rfl rfl (PD_d rfl rfl (PD_d rfl rfl (PD_d rfl rfl (PD_d rfl rfl zCi))))) rfl)|(refine zBr (cs:=[i64 a,bl true,i64 so,i64 sh,i64 (se+1),zBW []]) zJL zJK (PD_d rfl rfl (PD_d rfl rfl zCi)) rfl)|(refine zBs (by kernel_rfl) ?_;apply zAj;exact rfl;exact rfl;exact rfl;(with_reducible exact zAt);exact rfl;exact rfl;exact rfl;exact rfl)|apply ay (hd:=rfl)|refine zBG rfl rfl ?_|exact zAz rfl|exact zAp rfl|(apply zAC;exact rfl;(with_reducible first|exact zGP|exact zGO|exact zDG|exact zEB|exact zAv|exact zAl))|(apply zAE;exact rfl;(with_reducible first|exact zAa|exact zAP|exact zAt);exact rfl;exact rfl)|(apply zCC;(with_reducible first|exact zEu|exact zA0);(with_reducible first|exact zEl|exact zA5);(with_reducible first|exact zJJ|exact zCL);exact rfl;exact rfl;(first|exact zAY rfl zAM|exact CoL_b rfl rfl rfl zAM|exact CoL_n rfl zAM);exact rfl)|(refine w0' ?_)|refine zAI rfl ?_|refine zAf (by kernel_rfl) (by kernel_rfl) ?_
  all_goals first|omega|rfl|(simp only[qAP,qAp];omega)|skip
  refine Stop.go ?_
  refine zCI ?_ h
  exact zAS (Le_all rfl) (zBF _) rfl rfl
 |cons t0 r =>
  rw[qAP]at htr
  have hfl:∀d∈(t0::r).map ival,d.flat.length=1:=fun d hd=>by obtain⟨c,_,rfl⟩:=qBO.1 hd;rfl
  have hln:((t0::r).map ival).length=r.length+1:=by rw[qAC,qAP]
  have hcp:((t0::r).map ival).length*8<=140737488355328/\((t0::r).map ival).length<=140737488355328:=by rw[hln];omega
  have hc1:(r.length+1+1)*8<=140737488355328/\r.length+1+1<=140737488355328:=by omega
  skip
  repeat' first|(refine zEd (id:=55) ?_)|apply en_n|apply zAG|apply zAA|apply zAD|apply w0|exact zAi rfl rfl|apply ay (hd:=rfl)|exact zAC rfl zAv|exact zAE rfl zAa rfl rfl|refine zAI rfl ?_
  all_goals first|omega|skip
  refine Stop.go ?_
  refine zAG ?_
  refine zJ9 [.d (.tsl []),.ptr 1 (0+4),.d (.slice ((t0::r).map ival)),.buf 5 (r.length+1),.ptr 1 (0+3),.d (i64 se),.d (.slice [i64 se])] [3] [([.box [.d (.slice (m.pool.map enCn)),.d (.slice (m.code.map enIn))],.box [.d (bl kn),.d (i64 so),.d (i64 sh),.d (i64 se),.d (zBW (t0::r))],.box [.d (i64 17),.d (i64 a),.d (i64 b)]]++[.box [.d (bl true),.d (i64 o),.d (i64 hs),.d (i64 he),.d (zBW tr)],.buf false 128 6 (List.map toD [])]),([.box [.d (.slice (m.pool.map enCn)),.d (.slice (m.code.map enIn))],.box [.d (bl kn),.d (i64 so),.d (i64 sh),.d (i64 se),.d (zBW (t0::r))],.box [.d (i64 17),.d (i64 a),.d (i64 b)]]++[.box [.d (bl true),.d (i64 o),.d (i64 hs),.d (i64 he),.d (zBW tr)],.buf false 128 6 (List.map toD [])])++[.buf false 3 1 ((t0::r).map ival)]] (by kernel_rfl) (by kernel_rfl) rfl (.inr (by kernel_rfl)) rfl (by kernel_rfl) rfl rfl ?_ ?_
  ·refine zED rfl rfl rfl (fun η=>zKH zA0 zA5 (by kernel_rfl) rfl) ?_
   refine zED rfl rfl rfl (fun η=>zAC rfl zEB) ?_
   refine zIK 0 0 rfl rfl rfl (by decide +kernel) (by decide +kernel) (zDy (zAE rfl zAt rfl rfl) zG9) ?_
   refine zQ9 0 rfl rfl rfl rfl rfl zA0 zA5 zHD zFl hfl hcp rfl rfl hln rfl rfl ?_
   refine zED rfl rfl rfl (fun η=>zAC rfl zDG) ?_
   refine zIK 0 1 rfl rfl rfl (by decide +kernel) (by decide +kernel) (zDy (zAE rfl zAP rfl rfl) (zDy (zAE rfl zAP rfl rfl) zG9)) ?_
   refine zED rfl rfl rfl (fun η=>zCC zA0 zA5 zCL rfl rfl (zAY rfl zAM) rfl) ?_
   exact zLF
  skip
  repeat' first|(refine zaT (id:=56) ?_)|apply en_n|apply zAD|apply w0|(refine zBs (by kernel_rfl) ?_;apply zAj;exact rfl;exact rfl;exact rfl;(with_reducible exact zAt);exact rfl;exact rfl;exact rfl;exact rfl)|(refine zBs (by kernel_rfl) ?_;apply aApp (id:=5) (ys:=[i64 se]) (hd:=rfl) (hro:=rfl);exact rfl;exact rfl;exact zCQ rfl;exact hln.symm;exact rfl;(with_reducible exact zA0);(with_reducible exact zA5);(with_reducible exact zHD);(with_reducible exact zFl);exact(fun d hd=>by rw[qAO.1 hd];rfl);exact hc1)|apply ay (hd:=rfl)|exact zAC rfl zEB|(refine w0' ?_)
  all_goals first|omega|skip
  refine Stop.go ?_
  refine zCI (s:=[(1,.d (i64 k)),(3,.ptr 0 0),(5,.ptr 1 0),(8,.ptr 2 0),(15,.d (bl be)),(16,.d (bl th)),(17,.ptr 3 0),(18,.buf 4 0)]) (h:=[.box [.d (.slice (m.pool.map enCn)),.d (.slice (m.code.map enIn))],.box [.d (bl kn),.d (i64 so),.d (i64 sh),.d (i64 se),.d (zBW (t0::r))],.box [.d (i64 17),.d (i64 a),.d (i64 b)],.box [.d (bl true),.d (i64 o),.d (i64 hs),.d (i64 he),.buf 5 (r.length+1+1)],.buf false 128 6 [],.buf false 3 1 ((t0::r).map ival++[i64 se])]) ?_ ?_
  ·exact zAS (Le_all rfl) (zBF _) rfl rfl
  refine zEK 3 4 rfl rfl (zF3 rfl (by rw[qAD,hln];rfl)) ?_
  repeat' first|(refine zHk (id:=57) ?_)|apply en_n|apply zAA|apply zAD|apply w0|(apply aApp (id:=4) (hd:=rfl) (hro:=rfl);exact rfl;exact rfl;(first|exact zCQ rfl|exact zCp rfl rfl rfl|exact Co_nn rfl);(first|exact rfl|exact(by simp));exact rfl;(with_reducible exact zEu);(with_reducible exact zEl);(with_reducible exact zK1);(with_reducible exact zK4);(first|exact zFE (fun _=>rfl)|exact zDS rfl))|(refine zBr (cs:=[bl true,i64 so,i64 sh,i64 (se+1),zBW (t0::r)]) zJM zIF (PD_d rfl rfl (PD_d rfl rfl (PD_d rfl rfl (PD_d rfl rfl (PD_d rfl rfl zCi))))) rfl)|(refine zBr (cs:=[i64 a,bl true,i64 so,i64 sh,i64 (se+1),zBW (t0::r)]) zJL zJK (PD_d rfl rfl (PD_d rfl rfl zCi)) rfl)|apply ay (hd:=rfl)|refine zBG rfl rfl ?_|exact zAz rfl|exact zAp rfl|(apply zAC;exact rfl;(with_reducible first|exact zGP|exact zGO|exact zDG|exact zEB|exact zAl))|(apply zAE;exact rfl;(with_reducible first|exact zAP|exact zAt);exact rfl;exact rfl)|(apply zCC;(with_reducible exact zEu);(with_reducible exact zEl);(with_reducible exact zJJ);exact rfl;exact rfl;(first|exact zAY rfl zAM|exact CoL_b rfl rfl rfl zAM|exact CoL_n rfl zAM);exact rfl)
  all_goals first|omega|rfl|(simp only[qAP,qAp];omega)|skip
  refine Stop.go ?_
  have es:zBW (t0::r++[se])=.slice ((t0::r).map ival++[i64 se]):=by unfold zBW;rw[qAl];rfl
  rw[es]at h
  refine zCI ?_ h
  exact zAS (Le_all rfl) (zAN rfl rfl (zAN rfl rfl (zAN rfl rfl (zAN rfl rfl (zAN rfl rfl zAs))))) rfl rfl
theorem zak(m:Img)(kn:Bool){k op a b:Int}{s:VS}{o hs he:Int}(be th:Bool)(htr:s.tries.length<=2000000)(hh:-1000000000<=s.height/\s.height<=1000000000)(tr:List Int)(wb:World)(St0:Stab)(Q:Exit->Sl->List Ob->Prop)
  (h:awp ⟨prog,284,wb,St0,fun _=>False,0⟩ (zFs 12 (zDt Tryz.f56)) Q (nxU k be th (if op=17 then[(a,{ s with height:=s.height+1 })]else[]:List (Int×VS)).length) (nxT m kn s op a b ⟨o,hs,he,if op=17 then s.tries++[s.height]else tr⟩ (if op=17 then[(a,{ s with height:=s.height+1 })]else[]))) :
  awp ⟨prog,284,wb,St0,fun _=>False,0⟩ (zFs 11 (zDt Tryz.f56)) Q (nxU k be th 0) (nxT m kn s op a b ⟨o,hs,he,tr⟩ []):=by
 by_cases hop:op=17
 ·subst hop
  exact zZU m kn be th htr hh tr wb St0 Q h
 ·rw[if_neg hop,if_neg hop]at h
  conv at h=>arg 2;whnf
  conv=>arg 2;whnf
  skip
  repeat' first|(refine zHk (id:=57) ?_)|apply en_n|apply zAG|apply zAA|apply zAD|apply w0|exact zAn rfl rfl|apply ay (hd:=rfl)|exact zAC rfl zAv|exact zAE rfl zAa rfl rfl|refine zAJ rfl ?_|apply zAR
  all_goals first|omega|skip
  refine Stop.go ?_
  refine zCI ?_ h
  exact zAS (Le_all rfl) (zBF _) rfl rfl
theorem zaj(m:Img)(kn:Bool){k op a b:Int}{s t:VS}(be th:Bool)(L:List (Int×VS))(hL:op=18->L=[])(wb:World)(St0:Stab)(Q:Exit->Sl->List Ob->Prop)
  (h:awp ⟨prog,284,wb,St0,fun _=>False,0⟩ (zFs 13 (zDt Tryz.f56)) Q (nxU k be th (L++(if op=18 then[(a,(⟨a,b,1,[]⟩:VS))]else[])).length) (nxT m kn s op a b t (L++(if op=18 then[(a,(⟨a,b,1,[]⟩:VS))]else[])))) :
  awp ⟨prog,284,wb,St0,fun _=>False,0⟩ (zFs 12 (zDt Tryz.f56)) Q (nxU k be th L.length) (nxT m kn s op a b t L):=by
 by_cases hop:op=18
 ·rw[if_pos hop,hL hop]at h
  rw[hL hop]
  conv at h=>arg 2;whnf
  conv=>arg 2;whnf
  skip
  repeat' first|(refine zHk (id:=59) ?_)|apply en_n|apply zAG|apply zAA|apply zAD|apply w0|exact zAi rfl rfl|(apply aApp (id:=4) (hd:=rfl) (hro:=rfl);exact rfl;exact rfl;(first|exact zCQ rfl|exact zCp rfl rfl rfl|exact Co_nn rfl);(first|exact rfl|exact(by simp));exact rfl;(with_reducible exact zEu);(with_reducible exact zEl);(with_reducible exact zK1);(with_reducible exact zK4);(first|exact zFE (fun _=>rfl)|exact zDS rfl))|(refine zBr (cs:=[bl true,i64 a,i64 b,i64 1,zBW []]) zJM zIF (PD_d rfl rfl (PD_d rfl rfl (PD_d rfl rfl (PD_d rfl rfl zCi)))) rfl)|(refine zBr (cs:=[i64 a,bl true,i64 a,i64 b,i64 1,zBW []]) zJL zJK (PD_d rfl rfl (PD_d rfl rfl zCi)) rfl)|apply ay (hd:=rfl)|exact zAz rfl|exact zAp rfl|(apply zAC;exact rfl;(with_reducible first|exact zAv|exact zAl|exact zCE))|(apply zAE;exact rfl;(with_reducible first|exact zAa|exact zAP);exact rfl;exact rfl)|(apply zCC;(with_reducible exact zEu);(with_reducible exact zEl);(with_reducible exact zJJ);exact rfl;exact rfl;(first|exact zAY rfl zAM|exact CoL_b rfl rfl rfl zAM|exact CoL_n rfl zAM);exact rfl)|refine zAI rfl ?_
  all_goals first|omega|rfl|(simp only[qAP,qAp];omega)|skip
  refine Stop.go ?_
  refine zCI ?_ h
  exact zAS (Le_all rfl) (zBF _) rfl rfl
 ·rw[if_neg hop,qBC]at h
  conv at h=>arg 2;whnf
  conv=>arg 2;whnf
  skip
  repeat' first|(refine zHk (id:=59) ?_)|apply en_n|apply zAG|apply zAA|apply zAD|apply w0|exact zAn rfl rfl|apply ay (hd:=rfl)|exact zAC rfl zAv|exact zAE rfl zAa rfl rfl|refine zAJ rfl ?_|apply zAR
  all_goals first|omega|skip
  refine Stop.go ?_
  refine zCI ?_ h
  exact zAS (Le_all rfl) (zBF _) rfl rfl
theorem zZT(m:Img)(kn:Bool){k op a b:Int}{s t:VS}(be th:Bool)(L:List (Int×VS))(hL:L.length<=5)(hk:0<=k/\k<=100000)(wb:World)(St0:Stab):
  awp ⟨prog,284,wb,St0,fun _=>False,0⟩ (zFs 13 (zDt Tryz.f56)) (zJk (some (L++(if be then[(k+1,t)]else[])++(if th then[(a,t)]else[])))) (nxU k be th L.length) (nxT m kn s op a b t L):=by
 unfold zJk
 conv=>arg 2;whnf
 cases be <;> cases th
 all_goals
  repeat' first|apply en_n|apply zAG|apply zAA|apply zAD|apply w0|(refine zBQ ?_)|(refine zBp ?_)|exact zCh|(refine RV_d rfl ?_ ?_)|(refine RV_b rfl rfl ?_ ?_ ?_)|(apply aApp (id:=4) (hd:=rfl) (hro:=rfl);exact rfl;exact rfl;(first|exact zCQ rfl|exact zCp rfl rfl rfl|exact Co_nn rfl);(first|exact rfl|exact(by simp));exact rfl;(with_reducible exact zEu);(with_reducible exact zEl);(with_reducible exact zK1);(with_reducible exact zK4);(first|exact zFE (fun _=>rfl)|exact zDS rfl))|(refine zBr (cs:=[i64 a,bl true,i64 t.of,i64 t.has,i64 t.height,zBW t.tries]) zJL zJK (PD_d rfl rfl (PD_d rfl rfl zCi)) rfl)|(refine zBr (cs:=[i64 (k+1),bl true,i64 t.of,i64 t.has,i64 t.height,zBW t.tries]) zJL zJK (PD_d rfl rfl (PD_d rfl rfl zCi)) rfl)|apply ay (hd:=rfl)|exact zAF rfl|exact zAB rfl|refine zBG rfl rfl ?_|exact zAz rfl|exact zAp rfl|exact zAC rfl zAl|exact zAE rfl zAP rfl rfl|exact zBA rfl zEk rfl rfl rfl|(apply zCC;(with_reducible exact zEu);(with_reducible exact zEl);(with_reducible exact zJJ);exact rfl;exact rfl;(first|exact zAY rfl zAM|exact CoL_b rfl rfl rfl zAM|exact CoL_n rfl zAM);exact rfl)|refine zAI rfl ?_|refine zAJ rfl ?_|apply zAR|apply zAQ
 all_goals first|omega|rfl|(simp only[qAP,qAp];omega)|(simp;done)|(simp[toD];done)|skip
end Go.Proofs.YtcagoomibpcdlaaGreatDoor

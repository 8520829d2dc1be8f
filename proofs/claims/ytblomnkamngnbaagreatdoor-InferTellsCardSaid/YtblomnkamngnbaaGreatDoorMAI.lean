/- Texts of this claim, merged: TypA. -/
import Derived.Test.YtblomnkamngnbaaGreatDoorMAH
namespace Go.Proofs.YtblomnkamngnbaaGreatDoor
open Go.Sx
attribute [local irreducible] zAT Program.underlying Ylds zBA alex zBe zBP awp zAj zBZ zBk zA2 zBH zBR zA8 zBV zBb zBf zBu zBO
theorem zH1 (n : Int) : zAj Tryz.prog 130 [i64 n] (zAc (varN n)):=by
  refine zAd Tryz.func130 rfl Tryz.ntmps130 Tryz.results130 rfl ?_
  intro wb St0
  repeat' first | apply en_n|apply zAH|apply zAB|apply zAF|apply w0|(apply zBE;exact zFF;exact zAp;exact PD_d rfl rfl (PD_d rfl rfl zB0);exact rfl)|apply ay (hd:=rfl)|exact zAE rfl|exact zAC rfl|exact zAb rfl|(apply zCC;(with_reducible exact zBd);(with_reducible exact zAW);(with_reducible exact zDQ);exact rfl;exact rfl;(first|exact zAX rfl zAG|exact zC4 rfl rfl rfl zAG|exact zDG rfl zAG);exact rfl)|apply zAM|apply zAJ|(apply res1;exact rfl)
  rfl
set_option maxHeartbeats 4000000 in
theorem zRI (n : Nd) : zAj Tryz.prog 52 [n.av] (bl (zBT n)):=by
  refine zAd Tryz.func52 rfl Tryz.ntmps52 Tryz.results52 rfl ?_
  intro wb St0
  repeat' first | apply en_n|apply zAH|apply zAB|apply zAF|apply w0|(apply k1u (hd:=rfl);exact rfl;exact rfl)|(apply k0u (hd:=rfl);exact rfl;exact rfl)|exact zGo rfl rfl|(apply zBE;exact zE6;exact zDl;exact PD_d rfl rfl (PD_d rfl rfl zB0);exact rfl)|(refine zAV zHl (zHv ⟨2,n.text,0,0⟩) (zAX rfl zAG))|(apply aBox (hd:=rfl) (hro:=rfl);exact rfl;exact rfl)|apply ay (hd:=rfl)|exact zAE rfl|exact zAC rfl|exact zHH rfl rfl|exact zEU rfl rfl|exact zC6 rfl rfl|exact zEE rfl rfl|exact zAi rfl rfl|exact zAh rfl rfl|(apply zAR;exact rfl;(with_reducible first|exact fn_0|exact fn_1|exact fn_2|exact fn_3))|(apply zAU;exact rfl;(with_reducible first|exact zAs|exact zAe|exact zBK|exact zAv);exact rfl;exact rfl)|(apply w1;exact rfl;exact rfl)|(apply gD;exact rfl;exact rfl;(intro hb);rotate_left;(intro hb);rotate_right)|(apply g1;exact rfl;exact rfl;(intro hb);rotate_left;(intro hb);rotate_right)|(apply zAz;exact rfl;(intro hb);rotate_left;(intro hb);rotate_right)|(apply zAK;exact rfl)|apply zAI|apply zAP|apply zAM|apply en_r|apply eb_n|apply eb_r|apply zAJ|(apply res1;exact rfl)
  all_goals refine zDB ?_
  all_goals first
    | (simp only [zBT,arrT,intT,texT,refT, *,if_true,if_false,ne_eq,not_true,not_false_iff,or_true,true_or,or_false,false_or,true_and,false_and,and_false,decide_false,decide_true,reduceCtorEq,not_not];done)
    | (simp_all [zBT,arrT,intT,texT,refT];done)
    | (simp_all [zBT];omega)
theorem zQ1 (n : Nd) : zAj Tryz.prog 51 [n.av] (bl (!zBT n)):=by
  refine zAd Tryz.func51 rfl Tryz.ntmps51 Tryz.results51 rfl ?_
  intro wb St0
  repeat' first | apply en_n|apply zAH|apply zAB|apply zAF|apply w0|(refine zAV zRm (zRI n) (zAX rfl zAG))|(apply aBox (hd:=rfl) (hro:=rfl);exact rfl;exact rfl)|apply ay (hd:=rfl)|exact zAC rfl|exact zBr rfl|(apply zCt;exact rfl;(with_reducible exact zAY);exact rfl;exact rfl;exact rfl)|apply zAM|apply zAJ|(apply res1;exact rfl)
  rfl
def idxP {α : Type} (p : α → Bool) (L : List α) : Int:=match L.findIdx? p with
  | some i=>i
  | none=>-1
theorem zFi {α : Type} {p : α → Bool} {L : List α} {i : Nat} {v : α} (h : ∀ (j : Nat) u,j < i → L[j]? = some u → p u = false) (hi : L[i]? = some v) (hv : p v = true) : idxP p L = i:=by
  have : L.findIdx? p = some i:=by
    rw [List.findIdx?_eq_some_iff_getElem]
    obtain ⟨h1,h2⟩:=List.getElem?_eq_some_iff.1 hi
    refine ⟨h1,by rw [h2];exact hv,fun j hj=>?_⟩
    rw [h j _ hj (List.getElem?_eq_getElem (by omega))];simp
  rw [idxP,this]
theorem zDg {α : Type} {p : α → Bool} {L : List α} (h : ∀ (j : Nat) u,L[j]? = some u → p u = false) : idxP p L = -1:=by
  have : L.findIdx? p = none:=by
    rw [List.findIdx?_eq_none_iff]
    intro x hx
    obtain ⟨j,hj⟩:=List.mem_iff_getElem?.1 hx
    exact h j x hj
  rw [idxP,this]
theorem zVH (f : FuncId) (p : Nd → Bool) (hbf : zAT Tryz.prog f = true) (hp : ∀ n,zAj Tryz.prog f [n.av] (bl (p n))) (L : List Nd) (hL : L.length ≤ 2000000) :
    zBH Tryz.prog 93 [.d (zAc L),.clo f []] [] (i64 (idxP p L)):=by
  refine zBx Tryz.func93 rfl Tryz.ntmps93 Tryz.results93 rfl ?_
  intro wb St0
  repeat' first | apply en_n|apply zAH|apply zAB|apply zAF|apply w0|apply ay (hd:=rfl)|exact zAE rfl|exact zAC rfl|(apply zAl;exact rfl;(with_reducible exact zA0))|apply zAI
  refine zAr (α:=Nat) (fun i=>i ≤ L.length ∧ ∀ j u,j < i → L[j]? = some u → p u = false) (fun i=>[(0,.d (zAc L)),(1,.clo f []),(7,.d (i64 (L.length : Int))),(8,.d (i64 (i : Int)))]) (fun _=>[]) (fun i=>L.length - i) 0 ⟨Nat.zero_le _,fun j u h=>by omega⟩
    (zAO (zAA rfl (zAA rfl (Le_d rfl rfl (zAA rfl zAa)))) zAN rfl rfl) ?_
  rintro i ⟨hi1,hi2⟩
  repeat' first | apply en_n|apply zAH|apply zAB|apply zAF|apply w0|exact zBF rfl|(apply zLq (hb:=hbf) (hc:=hp _);exact rfl)|(apply aI (hd:=rfl);(first|exact zAk rfl|exact Co_bb rfl rfl rfl|exact Co_nn rfl);exact rfl;(with_reducible exact zAW);exact fun _=>rfl;rotate_left;intro v hv;rotate_right)|apply ay (hd:=rfl)|exact zAE rfl|exact zAC rfl|(apply zAf;exact rfl;(with_reducible exact zAY);exact rfl)|exact zCT rfl rfl|(apply zBC;exact rfl;exact rfl)|(apply zAz;exact rfl;(intro hb);rotate_left;(intro hb);rotate_right)|(apply zCc;exact rfl;(intro hb);rotate_left;(intro hb);rotate_right)|apply zAI|apply zAP|apply zAM|apply zAt|apply en_r|apply en_e|apply eb_n|apply eb_r|apply eb_e|apply zAJ|(apply res1;exact rfl)|exact zAG|refine zAX rfl ?_
  · omega
  · exact zCr (zFi hi2 hv hb).symm
  · omega
  · refine ⟨i + 1,⟨by omega,fun j u hj hu=>?_⟩,by omega,zAO (zAA rfl (zAA rfl (zAA rfl (zAA rfl zAa)))) zAN rfl rfl⟩
    rcases Nat.lt_or_ge j i with h1 | h1
    · exact hi2 j u h1 hu
    · have hv' : L[i]? = some v:=hv
      rw [show j = i by omega,hv'] at hu;injection hu with hu;subst hu;exact hb
  · exact zCr (zDg fun j u hu=>hi2 j u (by have:=(List.getElem?_eq_some_iff.1 hu).1;omega) hu).symm
theorem zVN (f : FuncId) (p : Nd → Bool) (hbf : zAT Tryz.prog f = true) (hp : ∀ n,zAj Tryz.prog f [n.av] (bl (p n))) (L : List Nd) (hL : L.length ≤ 2000000) :
    zBH Tryz.prog 50 [.d (zAc L),.clo f []] [] (bl (L.any p)):=by
  refine zBx Tryz.func50 rfl Tryz.ntmps50 Tryz.results50 rfl ?_
  intro wb St0
  repeat' first | apply en_n|apply zAH|apply zAB|apply zAF|apply w0|exact zBF rfl|(refine zBB [] [] rfl rfl zUd (zVH f p hbf hp L hL) rfl ?_ rfl (by decide) rfl rfl rfl rfl;(repeat (refine zAL rfl ?_));exact zAS)|apply ay (hd:=rfl)|exact zAE rfl|exact zAC rfl|exact zEU rfl rfl|apply zAM|apply zAJ|(apply res1;exact rfl)
  refine zDB ?_
  cases h : L.any p with
  | true =>
    obtain ⟨x,hx,hpx⟩:=List.any_eq_true.1 h
    have : idxP p L ≥ 0:=by
      unfold idxP;split
      · omega
      · rename_i hn;rw [List.findIdx?_eq_none_iff] at hn;rw [hn x hx] at hpx;cases hpx
    simpa using this
  | false =>
    rw [zDg fun j u hu=>by have:=List.any_eq_false.1 h u (List.mem_of_getElem? hu);simpa using this]
    rfl
theorem zD7 {L : List Nd} (h : okT L = true) : L.length ≤ 4000 ∧ zCA L = true ∧ L.all zBT = true:=by
  simpa [okT,and_assoc] using h
theorem zCR (L : List Nd) (hL : L.length ≤ 2000000) : zAj Tryz.prog 31 [zAc L] (i64 (ckT L)):=by
  refine zAd Tryz.func31 rfl Tryz.ntmps31 Tryz.results31 rfl ?_
  intro wb St0
  repeat' first | apply en_n|apply zAH|apply zAB|apply zAF|apply w0|(apply k0u (hd:=rfl);exact rfl;exact rfl)|(refine zAV zFk (zHu L hL) (zAX rfl zAG))|(refine zBB [] [] rfl rfl zUg (zVN _ (fun n=>!zBT n) zPu zQ1 L hL) rfl ?_ rfl (by decide) rfl rfl rfl rfl;(repeat (refine zAL rfl ?_));exact zAS)|apply ay (hd:=rfl)|exact zAE rfl|exact zAC rfl|(apply zAl;exact rfl;(with_reducible exact zA0))|exact zEp rfl rfl|exact zBr rfl|exact zAi rfl rfl|exact zAh rfl rfl|(apply w1;exact rfl;exact rfl)|(apply gD;exact rfl;exact rfl;(intro hb);rotate_left;(intro hb);rotate_right)|(apply g1;exact rfl;exact rfl;(intro hb);rotate_left;(intro hb);rotate_right)|(apply zAK;exact rfl)|(apply zCc;exact rfl;(intro hb);rotate_left;(intro hb);rotate_right)|apply zAP|apply zAM|apply en_r|apply zAJ|(apply res1;exact rfl)
  all_goals refine zCr ?_
  all_goals unfold ckT
  · rw [if_neg];intro h;have:=(zD7 h).1;omega
  · rw [if_neg];intro h;have:=(zD7 h).2.1;rw [this] at hb;cases hb
  · rw [if_neg];intro h;have:=(zD7 h).2.2
    obtain ⟨x,hx,hpx⟩:=List.any_eq_true.1 hb
    rw [List.all_eq_true.1 this x hx] at hpx;cases hpx
  · rename_i h1 h2
    rw [if_pos]
    have h3 : L.all zBT = true:=List.all_eq_true.2 fun x hx=>by have:=List.any_eq_false.1 hb x hx;simpa using this
    have h4 : zCA L = true:=by simpa using h2
    simp [okT,h3,h4];omega
theorem zR8 (acc : List Int) (n : Nd) : (addV acc n).length ≤ acc.length + 1:=by unfold addV;split <;> simp
theorem zDx {L : List Nd} {i : Nat} {v : Nd} (h : L[i]? = some v) : zB3 (L.take (i + 1)) = addV (zB3 (L.take i)) v:=by
  unfold zB3
  rw [List.take_add_one,h,Option.toList_some,List.foldl_append];rfl
theorem zFB : ∀ (L : List Nd) (acc : List Int),(L.foldl addV acc).length ≤ acc.length + L.length
  | [],acc=>by simp
  | n :: L,acc=>by
    have:=zFB L (addV acc n)
    have:=zR8 acc n
    simp only [List.foldl_cons,List.length_cons];omega
theorem zHc {L : List Nd} (i : Nat) (h : L.length ≤ 2000000) : (zB3 (L.take i)).length ≤ 2000000:=by
  have:=zFB (L.take i) []
  have h2 : (L.take i).length ≤ L.length:=by rw [List.length_take];omega
  simp only [List.length_nil] at this
  unfold zB3;omega
theorem zKT (L : List Nd) (hL : L.length ≤ 2000000) : zAj Tryz.prog 71 [zAc L] (zBm (zCh L)):=by
  refine zAd Tryz.func71 rfl Tryz.ntmps71 Tryz.results71 rfl ?_
  intro wb St0
  repeat' first | apply en_n|apply zAH|apply zAB|apply zAF|apply w0|(refine zAV zCK (zCR L hL) (zAX rfl zAG))|apply ay (hd:=rfl)|exact zAE rfl|(apply zAl;exact rfl;(with_reducible exact zA0))|exact zEE rfl rfl|exact zAb rfl|(apply zAz;exact rfl;(intro hb);rotate_left;(intro hb);rotate_right)|apply zAI|apply zAP|apply zAM|apply en_r|apply zAJ|(apply zRJ;exact rfl)
  · have : okT L = false:=by
      cases h : okT L with
      | false=>rfl
      | true=>exfalso;apply hb;simp [ckT,h]
    simp [zCh,this,zBm]
  · have hok : okT L = true:=by
      cases h : okT L with
      | true=>rfl
      | false=>exfalso;have:=hb;simp [ckT,h] at this
    have h4:=(zD7 hok).1
    refine zCI 3 false 3 1 rfl rfl ?_
    refine zAr (α:=Nat) (fun i=>i ≤ L.length) (fun i=>[(0,.d (zAc L)),(3,.buf 0 ((zB3 (L.take i)).map ival).length),(9,.d (zAc L)),(10,.d (i64 (L.length : Int))),(11,.d (i64 (i : Int)))]) (fun i=>[.buf false 3 1 ((zB3 (L.take i)).map ival)]) (fun i=>L.length - i) 0 (Nat.zero_le _)
      (zAO (zAA rfl (zBt rfl rfl (zAA rfl (Le_d rfl rfl (zAA rfl zAa))))) (zAu rfl rfl rfl zAN) rfl rfl) ?_
    intro i hi
    repeat' first | apply en_n|apply zAH|apply zAB|apply zAF|apply w0|(apply k1u (hd:=rfl);exact rfl;exact rfl)|(refine zAV zFL (zMc (zB3 (L.take i)) v.num (zHc i hL)) (zC4 rfl rfl rfl (zAX rfl zAG)))|(apply aI (hd:=rfl);(first|exact zAk rfl|exact Co_bb rfl rfl rfl|exact Co_nn rfl);exact rfl;(with_reducible exact zAW);exact fun _=>rfl;rotate_left;intro v hv;rotate_right)|(apply aApp (hd:=rfl) (hro:=rfl);exact rfl;exact rfl;(first|exact zAk rfl|exact Co_bb rfl rfl rfl|exact Co_nn rfl);(first|exact rfl|(simp;done));exact rfl;(with_reducible exact zC2);(with_reducible exact zA7);(with_reducible exact zIv);(with_reducible exact zHC);(first|exact zCF (fun _=>rfl)|exact zCE rfl))|(apply zA4 (hd:=rfl) (hro:=rfl);(with_reducible exact zAp))|apply ay (hd:=rfl)|exact zAE rfl|(apply zAf;exact rfl;(with_reducible exact zAY);exact rfl)|exact zCT rfl rfl|exact zC6 rfl rfl|(apply zBC;exact rfl;exact rfl)|exact zBr rfl|exact zAi rfl rfl|exact zAh rfl rfl|exact zAw rfl|exact zAm rfl|(apply zAR;exact rfl;(with_reducible first|exact fn_0|exact fn_2))|(apply zAU;exact rfl;(with_reducible first|exact zAe|exact zBK);exact rfl;exact rfl)|(apply zCC;(with_reducible exact zC2);(with_reducible exact zA7);(with_reducible exact zIu);exact rfl;exact rfl;(first|exact zAX rfl zAG|exact zC4 rfl rfl rfl zAG|exact zDG rfl zAG);exact rfl)|(apply w1;exact rfl;exact rfl)|(apply gD;exact rfl;exact rfl;(intro hb);rotate_left;(intro hb);rotate_right)|(refine w0' ?_)|(apply zAx;exact rfl;exact rfl;exact rfl;(with_reducible exact zAY);exact rfl;exact rfl;exact rfl;exact rfl)|(apply zAz;exact rfl;(intro hb);rotate_left;(intro hb);rotate_right)|(apply zIl;exact rfl;(intro hb);rotate_left;(intro hb);rotate_right)|(apply zAQ;exact rfl)|apply zAI|apply zAP|apply zAM|apply zAt|apply en_e|apply eb_n|apply eb_e|apply zAJ|(apply zGx;exact rfl;exact rfl;(first|exact rfl|(simp;done)))
    all_goals first | omega | skip
    · have:=zHc (L:=L) i hL;simp only [List.length_map,List.length_cons,List.length_nil];omega
    · have hk : v.kind = 31:=‹_›
      have e : zB3 (L.take (i + 1)) = zB3 (L.take i) ++ [v.num]:=by rw [zDx (i:=i) hv,addV,if_pos ⟨hk,hb⟩]
      exact ⟨i + 1,by omega,by omega,zAO (zAA rfl (zBt rfl (by rw [e];simp) (zAA rfl (zAA rfl (zAA rfl zAa))))) (zAu rfl rfl (by rw [e,List.map_append];rfl) zAN) rfl rfl⟩
    · have e : zB3 (L.take (i + 1)) = zB3 (L.take i):=by rw [zDx (i:=i) hv,addV,if_neg (fun h=>h.2 hb)]
      exact ⟨i + 1,by omega,by omega,zAO (zAA rfl (zBt rfl (by rw [e]) (zAA rfl (zAA rfl (zAA rfl zAa))))) (zAu rfl rfl (by rw [e]) zAN) rfl rfl⟩
    · have e : zB3 (L.take (i + 1)) = zB3 (L.take i):=by rw [zDx (i:=i) hv,addV,if_neg (fun h=>hb h.1)]
      exact ⟨i + 1,by omega,by omega,zAO (zAA rfl (zBt rfl (by rw [e]) (zAA rfl (zAA rfl (zAA rfl zAa))))) (zAu rfl rfl (by rw [e]) zAN) rfl rfl⟩
    · have e : L.take i = L:=List.take_of_length_le (by omega)
      rw [e,zCh,if_pos hok];rfl
end Go.Proofs.YtblomnkamngnbaaGreatDoor

/- Texts of this claim, merged: TypA. -/
import Derived.Test.YtblomnkamngnbaaGreatDoorMAI
namespace Go.Proofs.YtblomnkamngnbaaGreatDoor
open Go.Sx
attribute [local irreducible] zAO Program.underlying Ylds zA3 alex zBY zBN awp zAm zBT zBe zAx zBA zBP zA2 zBR zBX zBa zBq zBI
theorem zIB (n : Int) : zAm Tryz.prog 130 [i64 n] (zAc (varN n)):=by
  refine zAd Tryz.func130 rfl Tryz.ntmps130 Tryz.results130 rfl ?_
  intro wb St0
  repeat' first | apply en_n|apply zAH|apply zAC|apply zAF|apply w0|(apply zBS;exact zEd;exact zAp;exact PD_d rfl rfl (PD_d rfl rfl zCF);exact rfl)|apply ay (hd:=rfl)|exact zAE rfl|exact zAD rfl|exact zAY rfl|(apply zCD;(with_reducible exact zBl);(with_reducible exact zAa);(with_reducible exact zDr);exact rfl;exact rfl;(first|exact zAZ rfl zAG|exact zCo rfl rfl rfl zAG|exact zCs rfl zAG);exact rfl)|apply zAN|apply zAP|(apply res1;exact rfl)
  rfl
set_option maxHeartbeats 4000000 in
theorem zSJ (n : Nd) : zAm Tryz.prog 52 [n.av] (bl (zCg n)):=by
  refine zAd Tryz.func52 rfl Tryz.ntmps52 Tryz.results52 rfl ?_
  intro wb St0
  repeat' first | apply en_n|apply zAH|apply zAC|apply zAF|apply w0|(apply k1u (hd:=rfl);exact rfl;exact rfl)|(apply k0u (hd:=rfl);exact rfl;exact rfl)|exact zHa rfl rfl|(apply zBS;exact zVI;exact zNG;exact PD_d rfl rfl (PD_d rfl rfl zCF);exact rfl)|(refine zAX zHz (zH7 ⟨2,n.text,0,0⟩) (zAZ rfl zAG))|(apply aBox (hd:=rfl) (hro:=rfl);exact rfl;exact rfl)|apply ay (hd:=rfl)|exact zAE rfl|exact zAD rfl|exact zI7 rfl rfl|exact zFp rfl rfl|exact zD7 rfl rfl|exact zJD rfl rfl|exact zAq rfl rfl|exact zAo rfl rfl|(apply zAS;exact rfl;(with_reducible first|exact fn_0|exact fn_1|exact fn_2|exact fn_3))|(apply zAV;exact rfl;(with_reducible first|exact zAz|exact zAk|exact zB4|exact zA4);exact rfl;exact rfl)|(apply w1;exact rfl;exact rfl)|(apply gD;exact rfl;exact rfl;(intro hb);rotate_left;(intro hb);rotate_right)|(apply g1;exact rfl;exact rfl;(intro hb);rotate_left;(intro hb);rotate_right)|(apply zA1;exact rfl;(intro hb);rotate_left;(intro hb);rotate_right)|(apply zAQ;exact rfl)|apply zAJ|apply zAT|apply zAN|apply en_r|apply eb_n|apply eb_r|apply zAP|(apply res1;exact rfl)
  all_goals refine zD6 ?_
  all_goals first
    | (simp only [zCg,arrT,intT,texT,refT, *,if_true,if_false,ne_eq,not_true,not_false_iff,or_true,true_or,or_false,false_or,true_and,false_and,and_false,decide_false,decide_true,reduceCtorEq,not_not];done)
    | (simp_all [zCg,arrT,intT,texT,refT];done)
    | (simp_all [zCg];omega)
theorem zRw (n : Nd) : zAm Tryz.prog 51 [n.av] (bl (!zCg n)):=by
  refine zAd Tryz.func51 rfl Tryz.ntmps51 Tryz.results51 rfl ?_
  intro wb St0
  repeat' first | apply en_n|apply zAH|apply zAC|apply zAF|apply w0|(refine zAX zSn (zSJ n) (zAZ rfl zAG))|(apply aBox (hd:=rfl) (hro:=rfl);exact rfl;exact rfl)|apply ay (hd:=rfl)|exact zAD rfl|exact zCS rfl|(apply zC1;exact rfl;(with_reducible exact zAb);exact rfl;exact rfl;exact rfl)|apply zAN|apply zAP|(apply res1;exact rfl)
  rfl
def idxP {α : Type} (p : α → Bool) (L : List α) : Int:=match L.findIdx? p with
  | some i=>i
  | none=>-1
theorem zF5 {α : Type} {p : α → Bool} {L : List α} {i : Nat} {v : α} (h : ∀ (j : Nat) u,j < i → L[j]? = some u → p u = false) (hi : L[i]? = some v) (hv : p v = true) : idxP p L = i:=by
  have : L.findIdx? p = some i:=by
    rw [List.findIdx?_eq_some_iff_getElem]
    obtain ⟨h1,h2⟩:=List.getElem?_eq_some_iff.1 hi
    refine ⟨h1,by rw [h2];exact hv,fun j hj=>?_⟩
    rw [h j _ hj (List.getElem?_eq_getElem (by omega))];simp
  rw [idxP,this]
theorem zDl {α : Type} {p : α → Bool} {L : List α} (h : ∀ (j : Nat) u,L[j]? = some u → p u = false) : idxP p L = -1:=by
  have : L.findIdx? p = none:=by
    rw [List.findIdx?_eq_none_iff]
    intro x hx
    obtain ⟨j,hj⟩:=List.mem_iff_getElem?.1 hx
    exact h j x hj
  rw [idxP,this]
theorem zWI (f : FuncId) (p : Nd → Bool) (hbf : zAO Tryz.prog f = true) (hp : ∀ n,zAm Tryz.prog f [n.av] (bl (p n))) (L : List Nd) (hL : L.length ≤ 2000000) :
    zBA Tryz.prog 93 [.d (zAc L),.clo f []] [] (i64 (idxP p L)):=by
  refine zBw Tryz.func93 rfl Tryz.ntmps93 Tryz.results93 rfl ?_
  intro wb St0
  repeat' first | apply en_n|apply zAH|apply zAC|apply zAF|apply w0|apply ay (hd:=rfl)|exact zAE rfl|exact zAD rfl|(apply zAr;exact rfl;(with_reducible exact zA7))|apply zAJ
  refine zAs (α:=Nat) (fun i=>i ≤ L.length ∧ ∀ j u,j < i → L[j]? = some u → p u = false) (fun i=>[(0,.d (zAc L)),(1,.clo f []),(7,.d (i64 (L.length : Int))),(8,.d (i64 (i : Int)))]) (fun _=>[]) (fun i=>L.length - i) 0 ⟨Nat.zero_le _,fun j u h=>by omega⟩
    (zAL (zAA rfl (zAA rfl (Le_d rfl rfl (zAA rfl zAW)))) zAK rfl rfl) ?_
  rintro i ⟨hi1,hi2⟩
  repeat' first | apply en_n|apply zAH|apply zAC|apply zAF|apply w0|exact zA8 rfl|(apply zML (hb:=hbf) (hc:=hp _);exact rfl)|(apply aI (hd:=rfl);(first|exact zAn rfl|exact Co_bb rfl rfl rfl|exact Co_nn rfl);exact rfl;(with_reducible exact zAa);exact fun _=>rfl;rotate_left;intro v hv;rotate_right)|apply ay (hd:=rfl)|exact zAE rfl|exact zAD rfl|(apply zAf;exact rfl;(with_reducible exact zAb);exact rfl)|exact zDG rfl rfl|(apply zBG;exact rfl;exact rfl)|(apply zA1;exact rfl;(intro hb);rotate_left;(intro hb);rotate_right)|(apply zDB;exact rfl;(intro hb);rotate_left;(intro hb);rotate_right)|apply zAJ|apply zAT|apply zAN|apply zAu|apply en_r|apply en_e|apply eb_n|apply eb_r|apply eb_e|apply zAP|(apply res1;exact rfl)|exact zAG|refine zAZ rfl ?_
  · omega
  · exact zDm (zF5 hi2 hv hb).symm
  · omega
  · refine ⟨i + 1,⟨by omega,fun j u hj hu=>?_⟩,by omega,zAL (zAA rfl (zAA rfl (zAA rfl (zAA rfl zAW)))) zAK rfl rfl⟩
    rcases Nat.lt_or_ge j i with h1 | h1
    · exact hi2 j u h1 hu
    · have hv' : L[i]? = some v:=hv
      rw [show j = i by omega,hv'] at hu;injection hu with hu;subst hu;exact hb
  · exact zDm (zDl fun j u hu=>hi2 j u (by have:=(List.getElem?_eq_some_iff.1 hu).1;omega) hu).symm
theorem zWP (f : FuncId) (p : Nd → Bool) (hbf : zAO Tryz.prog f = true) (hp : ∀ n,zAm Tryz.prog f [n.av] (bl (p n))) (L : List Nd) (hL : L.length ≤ 2000000) :
    zBA Tryz.prog 50 [.d (zAc L),.clo f []] [] (bl (L.any p)):=by
  refine zBw Tryz.func50 rfl Tryz.ntmps50 Tryz.results50 rfl ?_
  intro wb St0
  repeat' first | apply en_n|apply zAH|apply zAC|apply zAF|apply w0|exact zA8 rfl|(refine zA6 [] [] rfl rfl zVf (zWI f p hbf hp L hL) rfl ?_ rfl (by decide) rfl rfl rfl rfl;(repeat (refine zAI rfl ?_));exact zAM)|apply ay (hd:=rfl)|exact zAE rfl|exact zAD rfl|exact zFp rfl rfl|apply zAN|apply zAP|(apply res1;exact rfl)
  refine zD6 ?_
  cases h : L.any p with
  | true =>
    obtain ⟨x,hx,hpx⟩:=List.any_eq_true.1 h
    have : idxP p L ≥ 0:=by
      unfold idxP;split
      · omega
      · rename_i hn;rw [List.findIdx?_eq_none_iff] at hn;rw [hn x hx] at hpx;cases hpx
    simpa using this
  | false =>
    rw [zDl fun j u hu=>by have:=List.any_eq_false.1 h u (List.mem_of_getElem? hu);simpa using this]
    rfl
theorem zDJ {L : List Nd} (h : okT L = true) : L.length ≤ 4000 ∧ zCH L = true ∧ L.all zCg = true:=by
  simpa [okT,and_assoc] using h
theorem zCb (L : List Nd) (hL : L.length ≤ 2000000) : zAm Tryz.prog 31 [zAc L] (i64 (ckT L)):=by
  refine zAd Tryz.func31 rfl Tryz.ntmps31 Tryz.results31 rfl ?_
  intro wb St0
  repeat' first | apply en_n|apply zAH|apply zAC|apply zAF|apply w0|(apply k0u (hd:=rfl);exact rfl;exact rfl)|(refine zAX zF8 (zH6 L hL) (zAZ rfl zAG))|(refine zA6 [] [] rfl rfl zVi (zWP _ (fun n=>!zCg n) zQk zRw L hL) rfl ?_ rfl (by decide) rfl rfl rfl rfl;(repeat (refine zAI rfl ?_));exact zAM)|apply ay (hd:=rfl)|exact zAE rfl|exact zAD rfl|(apply zAr;exact rfl;(with_reducible exact zA7))|exact zHp rfl rfl|exact zCS rfl|exact zAq rfl rfl|exact zAo rfl rfl|(apply w1;exact rfl;exact rfl)|(apply gD;exact rfl;exact rfl;(intro hb);rotate_left;(intro hb);rotate_right)|(apply g1;exact rfl;exact rfl;(intro hb);rotate_left;(intro hb);rotate_right)|(apply zAQ;exact rfl)|(apply zDB;exact rfl;(intro hb);rotate_left;(intro hb);rotate_right)|apply zAT|apply zAN|apply en_r|apply zAP|(apply res1;exact rfl)
  all_goals refine zDm ?_
  all_goals unfold ckT
  · rw [if_neg];intro h;have:=(zDJ h).1;omega
  · rw [if_neg];intro h;have:=(zDJ h).2.1;rw [this] at hb;cases hb
  · rw [if_neg];intro h;have:=(zDJ h).2.2
    obtain ⟨x,hx,hpx⟩:=List.any_eq_true.1 hb
    rw [List.all_eq_true.1 this x hx] at hpx;cases hpx
  · rename_i h1 h2
    rw [if_pos]
    have h3 : L.all zCg = true:=List.all_eq_true.2 fun x hx=>by have:=List.any_eq_false.1 hb x hx;simpa using this
    have h4 : zCH L = true:=by simpa using h2
    simp [okT,h3,h4];omega
theorem zTC (acc : List Int) (n : Nd) : (addV acc n).length ≤ acc.length + 1:=by unfold addV;split <;> simp
theorem zD9 {L : List Nd} {i : Nat} {v : Nd} (h : L[i]? = some v) : zBu (L.take (i + 1)) = addV (zBu (L.take i)) v:=by
  unfold zBu
  rw [List.take_add_one,h,Option.toList_some,List.foldl_append];rfl
theorem zFQ : ∀ (L : List Nd) (acc : List Int),(L.foldl addV acc).length ≤ acc.length + L.length
  | [],acc=>by simp
  | n :: L,acc=>by
    have:=zFQ L (addV acc n)
    have:=zTC acc n
    simp only [List.foldl_cons,List.length_cons];omega
theorem zHq {L : List Nd} (i : Nat) (h : L.length ≤ 2000000) : (zBu (L.take i)).length ≤ 2000000:=by
  have:=zFQ (L.take i) []
  have h2 : (L.take i).length ≤ L.length:=by rw [List.length_take];omega
  simp only [List.length_nil] at this
  unfold zBu;omega
theorem zKt (L : List Nd) (hL : L.length ≤ 2000000) : zAm Tryz.prog 71 [zAc L] (zBv (zBb L)):=by
  refine zAd Tryz.func71 rfl Tryz.ntmps71 Tryz.results71 rfl ?_
  intro wb St0
  repeat' first | apply en_n|apply zAH|apply zAC|apply zAF|apply w0|(refine zAX zCR (zCb L hL) (zAZ rfl zAG))|apply ay (hd:=rfl)|exact zAE rfl|(apply zAr;exact rfl;(with_reducible exact zA7))|exact zJD rfl rfl|exact zAY rfl|(apply zA1;exact rfl;(intro hb);rotate_left;(intro hb);rotate_right)|apply zAJ|apply zAT|apply zAN|apply en_r|apply zAP|(apply zSK;exact rfl)
  · have : okT L = false:=by
      cases h : okT L with
      | false=>rfl
      | true=>exfalso;apply hb;simp [ckT,h]
    simp [zBb,this,zBv]
  · have hok : okT L = true:=by
      cases h : okT L with
      | true=>rfl
      | false=>exfalso;have:=hb;simp [ckT,h] at this
    have h4:=(zDJ hok).1
    refine zCO 3 false 3 1 rfl rfl ?_
    refine zAs (α:=Nat) (fun i=>i ≤ L.length) (fun i=>[(0,.d (zAc L)),(3,.buf 0 ((zBu (L.take i)).map ival).length),(9,.d (zAc L)),(10,.d (i64 (L.length : Int))),(11,.d (i64 (i : Int)))]) (fun i=>[.buf false 3 1 ((zBu (L.take i)).map ival)]) (fun i=>L.length - i) 0 (Nat.zero_le _)
      (zAL (zAA rfl (zBs rfl rfl (zAA rfl (Le_d rfl rfl (zAA rfl zAW))))) (zAl rfl rfl rfl zAK) rfl rfl) ?_
    intro i hi
    repeat' first | apply en_n|apply zAH|apply zAC|apply zAF|apply w0|(apply k1u (hd:=rfl);exact rfl;exact rfl)|(refine zAX zFf (zND (zBu (L.take i)) v.num (zHq i hL)) (zCo rfl rfl rfl (zAZ rfl zAG)))|(apply aI (hd:=rfl);(first|exact zAn rfl|exact Co_bb rfl rfl rfl|exact Co_nn rfl);exact rfl;(with_reducible exact zAa);exact fun _=>rfl;rotate_left;intro v hv;rotate_right)|(apply aApp (hd:=rfl) (hro:=rfl);exact rfl;exact rfl;(first|exact zAn rfl|exact Co_bb rfl rfl rfl|exact Co_nn rfl);(first|exact rfl|(simp;done));exact rfl;(with_reducible exact zDh);(with_reducible exact zBD);(with_reducible exact zKv);(with_reducible exact zI0);(first|exact zCc (fun _=>rfl)|exact zCP rfl))|(apply zBE (hd:=rfl) (hro:=rfl);(with_reducible exact zAp))|apply ay (hd:=rfl)|exact zAE rfl|(apply zAf;exact rfl;(with_reducible exact zAb);exact rfl)|exact zDG rfl rfl|exact zD7 rfl rfl|(apply zBG;exact rfl;exact rfl)|exact zCS rfl|exact zAq rfl rfl|exact zAo rfl rfl|exact zAt rfl|exact zAj rfl|(apply zAS;exact rfl;(with_reducible first|exact fn_0|exact fn_2))|(apply zAV;exact rfl;(with_reducible first|exact zAk|exact zB4);exact rfl;exact rfl)|(apply zCD;(with_reducible exact zDh);(with_reducible exact zBD);(with_reducible exact zNE);exact rfl;exact rfl;(first|exact zAZ rfl zAG|exact zCo rfl rfl rfl zAG|exact zCs rfl zAG);exact rfl)|(apply w1;exact rfl;exact rfl)|(apply gD;exact rfl;exact rfl;(intro hb);rotate_left;(intro hb);rotate_right)|(refine w0' ?_)|(apply zA0;exact rfl;exact rfl;exact rfl;(with_reducible exact zAb);exact rfl;exact rfl;exact rfl;exact rfl)|(apply zA1;exact rfl;(intro hb);rotate_left;(intro hb);rotate_right)|(apply zMH;exact rfl;(intro hb);rotate_left;(intro hb);rotate_right)|(apply zAU;exact rfl)|apply zAJ|apply zAT|apply zAN|apply zAu|apply en_e|apply eb_n|apply eb_e|apply zAP|(apply zJ5;exact rfl;exact rfl;(first|exact rfl|(simp;done)))
    all_goals first | omega | skip
    · have:=zHq (L:=L) i hL;simp only [List.length_map,List.length_cons,List.length_nil];omega
    · have hk : v.kind = 31:=‹_›
      have e : zBu (L.take (i + 1)) = zBu (L.take i) ++ [v.num]:=by rw [zD9 (i:=i) hv,addV,if_pos ⟨hk,hb⟩]
      exact ⟨i + 1,by omega,by omega,zAL (zAA rfl (zBs rfl (by rw [e];simp) (zAA rfl (zAA rfl (zAA rfl zAW))))) (zAl rfl rfl (by rw [e,List.map_append];rfl) zAK) rfl rfl⟩
    · have e : zBu (L.take (i + 1)) = zBu (L.take i):=by rw [zD9 (i:=i) hv,addV,if_neg (fun h=>h.2 hb)]
      exact ⟨i + 1,by omega,by omega,zAL (zAA rfl (zBs rfl (by rw [e]) (zAA rfl (zAA rfl (zAA rfl zAW))))) (zAl rfl rfl (by rw [e]) zAK) rfl rfl⟩
    · have e : zBu (L.take (i + 1)) = zBu (L.take i):=by rw [zD9 (i:=i) hv,addV,if_neg (fun h=>hb h.1)]
      exact ⟨i + 1,by omega,by omega,zAL (zAA rfl (zBs rfl (by rw [e]) (zAA rfl (zAA rfl (zAA rfl zAW))))) (zAl rfl rfl (by rw [e]) zAK) rfl rfl⟩
    · have e : L.take i = L:=List.take_of_length_le (by omega)
      rw [e,zBb,if_pos hok];rfl
end Go.Proofs.YtblomnkamngnbaaGreatDoor

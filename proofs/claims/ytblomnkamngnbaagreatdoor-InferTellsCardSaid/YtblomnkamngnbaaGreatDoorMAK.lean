/- Texts of this claim, merged: TypC. -/
import Derived.Test.YtblomnkamngnbaaGreatDoorMAJ
namespace Go.Proofs.YtblomnkamngnbaaGreatDoor
open Go.Sx
attribute [local irreducible] zAT Program.underlying Ylds zBA alex zBe zBP awp zAj zBZ zBk zA2 zBH zBR zA8 zBV zBb zBf zBu zBO
theorem zEQ {k : Option Nat} {et : Option TypeId} {cs : List SV} : WOb (.bx k none cs) (.bx k et cs):=fun _ _ _ ⟨b,e,us,h1,h2,h3,h4,h5,h6,h7⟩=>⟨b,e,us,h1,h2,h3,h4,h5,h6,h7.1,fun _ h=>(by cases h)⟩
theorem zIq (n : Int) : zA2 Tryz.prog 37 [.d (i64 n)] [] (.ptr 1 0) [.map none (mSto []),.bx none none [.d (i64 n),.mp 0]]:=by
  refine zA1 Tryz.func37 rfl Tryz.ntmps37 Tryz.results37 rfl rfl rfl ?_
  intro wb St0 X fx
  repeat' first | (apply zGl;(with_reducible exact zRS);(with_reducible exact zQ3);exact zEV rfl (zEV rfl zNk);exact rfl;exact rfl;exact rfl;exact rfl)|apply en_n|apply zAH|apply zAB|apply zAF|apply w0|(apply zGk (hd:=rfl) (hro:=rfl);(with_reducible exact zHY);(with_reducible exact zEX))|apply ay (hd:=rfl)|exact zAE rfl|exact zAC rfl|exact zEP rfl|apply zAM
  exact zAq (zAO (zAA rfl zAa) (zAD rfl rfl (zGq rfl zEQ zAN)) rfl rfl)
theorem zSK (nx : Int) (L : Sto) (h : 0 ≤ nx ∧ nx ≤ 4000000000000) : zA2 Tryz.prog 109 [.ptr 0 0] (stO nx L) (.d (zAc (varN nx))) (stO (nx + 1) L):=by
  refine zA1 Tryz.func109 rfl Tryz.ntmps109 Tryz.results109 rfl rfl rfl ?_
  intro wb St0 X fx
  repeat' first | apply en_n|apply zAH|apply zAB|apply zAF|apply w0|exact zAo rfl|(apply zAV (hb:=zIR) (hc:=zH1 _))|apply ay (hd:=rfl)|exact zAC rfl|(apply zBC;exact rfl;exact rfl)|(apply zIt;exact rfl;exact rfl)|exact zAb rfl|exact zAZ rfl|(apply zAR;exact rfl;(with_reducible exact fs_0))|(apply zAU;exact rfl;(with_reducible exact zAs);exact rfl;exact rfl)|(refine w0' ?_)|(apply zAx;exact rfl;exact rfl;exact rfl;(with_reducible exact zAs);exact rfl;exact rfl;exact rfl;exact rfl)|apply zAM|exact zAG|refine zAX rfl ?_
  · omega
  · omega
  · rw [show nx + 1 - 1 = nx by omega]
    exact zAq (zAO (zAA rfl zAa) (zAD rfl rfl (zAD rfl rfl zAN)) rfl rfl)
theorem zPk (nx : Int) (L : Sto) (n : Nat) (t r : List Nd) (h : zJ2 n L t = some r) : zBH Tryz.prog 157 [.ptr 0 0,.d (zAc t)] (stO nx L) (zAc r):=by
  refine zBx Tryz.func157 rfl Tryz.ntmps157 Tryz.results157 rfl ?_
  intro wb St0
  repeat' first | apply en_n|apply zAH|apply zAB|apply zAF|apply w0|apply ay (hd:=rfl)|exact zAb rfl|apply zAI
  refine zAr (α:=Nat × List Nd) (fun p=>zJ2 p.1 L p.2 = some r) (fun p=>[(0,.ptr 0 0),(1,.d (zAc p.2))]) (fun _=>stO nx L) (fun p=>p.1) (n,t) h
    (zAO (zAA rfl (zAA rfl zAa)) (zAD rfl rfl (zAD rfl rfl zAN)) rfl rfl) ?_
  clear h
  rintro ⟨n,t⟩ h
  dsimp only at h ⊢
  obtain ⟨n,rfl⟩ : ∃ m,n = m + 1:=by cases n with | zero=>cases h | succ m=>exact ⟨m,rfl⟩
  cases hx : t[0]? with
  | none=>simp [zJ2,hx] at h
  | some x =>
    have hlen : 0 < t.length:=(List.getElem?_eq_some_iff.1 hx).1
    simp only [zJ2,hx] at h
    repeat' first | apply en_n|apply zAH|apply zAB|apply zAF|apply w0|exact zAo rfl|(apply zLr;exact rfl;exact rfl;exact rfl;(with_reducible exact zHY);(with_reducible exact zEX);(with_reducible exact zDp))|(apply aJ (hd:=rfl);(first|exact zAk rfl|exact Co_bb rfl rfl rfl|exact Co_nn rfl);exact rfl;(with_reducible exact zAW);assumption;omega;exact fun _=>rfl)|apply ay (hd:=rfl)|exact zAE rfl|exact zAC rfl|(apply zAy;exact rfl;(with_reducible first|exact fn_0|exact fn_2))|(apply zAg;exact rfl;(with_reducible first|exact zAe|exact zBK))|exact zC6 rfl rfl|exact zBr rfl|exact zBQ rfl rfl|exact zAZ rfl|(apply zAR;exact rfl;(with_reducible exact fs_1))|(apply zAU;exact rfl;(with_reducible exact zFD);exact rfl;exact rfl)|(apply zAz;exact rfl;(intro hb);rotate_left;(intro hb);rotate_right)|(apply zCc;exact rfl;(intro hb);rotate_left;(intro hb);rotate_right)|apply zAI|apply zAP|apply zAM|apply zAt|refine zA6 (by kernel_rfl) (by kernel_rfl) ?_|apply en_e|apply eb_n|apply eb_e|refine eb_o rfl ?_|apply zAJ|(apply res1;exact rfl)
    · simp only [zGR,Option.isSome_map,Bool.not_eq_true',Option.isSome_eq_false_iff,Option.isNone_iff_eq_none] at hb
      have hk : x.kind = 31:=‹_›
      rw [if_pos hk,hb] at h
      injection h with h;rw [h]
    · have hk : x.kind = 31:=‹_›
      have hs:=(zGP L x.num).2
      rw [hs] at hb
      rw [if_pos hk] at h
      cases hq : zBI L x.num with
      | none=>rw [hq] at hb;cases hb
      | some u =>
        rw [hq] at h
        exact ⟨(n,u),h,by omega,zAO (zAA rfl (Le_d rfl (by rw [(zGP L x.num).1,hq];rfl) zAa)) (zAD rfl rfl (zAD rfl rfl zAN)) rfl rfl⟩
    · rw [if_neg hb] at h;injection h with h;rw [h]
theorem zIh {α : Type} {f : α → Option (List Nd)} : ∀ {L : List α} {r : List Nd},catO f L = some r → ∀ i,∃ a,catO f (L.take i) = some a ∧ a.length ≤ r.length
  | [],r,h,i=>by simp only [catO,Option.some.injEq] at h;subst h;exact ⟨[],by simp [catO],Nat.le_refl _⟩
  | x :: L,r,h,0=>⟨[],by simp [catO],Nat.zero_le _⟩
  | x :: L,r,h,i + 1=>by
    simp only [catO] at h
    split at h
    · rename_i a b h1 h2
      injection h with h;subst h
      obtain ⟨c,h3,h4⟩:=zIh h2 i
      exact ⟨a ++ c,by simp [catO,h1,h3],by simp;omega⟩
    · cases h
theorem zLe {α : Type} {f : α → Option (List Nd)} : ∀ {L : List α} {i : Nat} {v : α} {a c : List Nd},L[i]? = some v → catO f (L.take i) = some a → catO f (L.take (i + 1)) = some c → ∃ b,f v = some b ∧ c = a ++ b
  | x :: L,0,v,a,c,hv,ha,hc=>by
    simp at hv;subst hv
    simp only [List.take_zero,catO,Option.some.injEq] at ha;subst ha
    simp only [Nat.zero_add,List.take_succ_cons,List.take_zero,catO] at hc
    split at hc
    · rename_i b d h1 h2;injection h2 with h2;subst h2;injection hc with hc;subst hc;exact ⟨b,h1,by simp⟩
    · cases hc
  | x :: L,i + 1,v,a,c,hv,ha,hc=>by
    simp only [List.take_succ_cons,catO] at ha hc
    split at ha
    · rename_i p q h1 h2
      injection ha with ha;subst ha
      split at hc
      · rename_i p' q' h3 h4
        injection hc with hc;subst hc
        rw [h1] at h3;injection h3 with h3;subst h3
        obtain ⟨b,h5,h6⟩:=zLe (by simpa using hv) h2 h4
        exact ⟨b,h5,by rw [h6,List.append_assoc]⟩
      · cases hc
    · cases ha
  | [],_,_,_,_,hv,_,_=>by simp at hv
set_option maxHeartbeats 1000000 in
theorem zMj (nx : Int) (L : Sto) : ∀ (n : Nat) (t r : List Nd),resF n L t = some r → t.length ≤ 1000000 → r.length ≤ 1000000 → (∀ p ∈ L,p.2.length ≤ 1000000) → zBH Tryz.prog 108 [.ptr 0 0,.d (zAc t)] (stO nx L) (zAc r)
  | 0,_,_,h,_,_,_=>by cases h
  | n + 1,t,r,h,ht,hr,hL=>by
    have ih:=zMj nx L n
    refine zBx Tryz.func108 rfl Tryz.ntmps108 Tryz.results108 rfl ?_
    intro wb St0
    unfold resF at h
    generalize hf : (fun x : Nd=>if x.kind = 31 then (match zBI L x.num with | some u=>resF n L u | none=>some [x]) else some [x]) = f at h
    have hf' : ∀ x : Nd,f x = if x.kind = 31 then (match zBI L x.num with | some u=>resF n L u | none=>some [x]) else some [x]:=fun x=>by rw [← hf]
    clear hf
    repeat' first | apply en_n|apply zAH|apply zAB|apply zAF|apply w0|apply ay (hd:=rfl)|exact zAE rfl|(apply zAl;exact rfl;(with_reducible exact zA0))|exact zAb rfl|apply zAI
    refine zCI 5 false 40 4 rfl rfl ?_
    refine zAr (α:=Nat × List Nd) (fun p=>p.1 ≤ t.length ∧ catO f (t.take p.1) = some p.2) (fun p=>[(0,.ptr 0 0),(5,.buf 2 (p.2.map Nd.av).length),(10,.d (zAc t)),(11,.d (i64 (t.length : Int))),(12,.d (i64 (p.1 : Int)))]) (fun p=>stO nx L ++ [.buf false 40 4 (p.2.map Nd.av)]) (fun p=>t.length - p.1) (0,[]) ⟨Nat.zero_le _,by simp [catO]⟩
      (zAO (zAA rfl (zBt rfl rfl (zAA rfl (Le_d rfl rfl (zAA rfl zAa))))) (zAD rfl rfl (zAD rfl rfl (zAu rfl rfl rfl zAN))) rfl rfl) ?_
    rintro ⟨i,a⟩ ⟨hi,ha⟩
    dsimp only at hi ha ⊢
    obtain ⟨a',ha',hal⟩:=zIh h i
    rw [ha] at ha';injection ha' with ha';subst ha'
    rcases Nat.lt_or_ge i t.length with hlt | hge
    · have hx : t[i]? = some t[i]:=List.getElem?_eq_getElem hlt
      generalize t[i] = x at hx
      obtain ⟨a2,ha2,hal2⟩:=zIh h (i + 1)
      obtain ⟨b,hb1,hb2⟩:=zLe hx ha ha2
      rw [hf'] at hb1
      have hal3 : (a ++ b).length ≤ 1000000:=by rw [← hb2];omega
      rw [List.length_append] at hal3
      have fin : ∀ {Q : Nat × List Nd → Prop},Q (i + 1,a2) → ∃ y : Nat × List Nd,(y.1 ≤ t.length ∧ catO f (t.take y.1) = some y.2) ∧ t.length - y.1 < t.length - i ∧ Q y:=fun hQ=>⟨(i + 1,a2),⟨hlt,ha2⟩,by show t.length - (i + 1) < _;omega,hQ⟩
      by_cases hk : x.kind = 31
      · rw [if_pos hk] at hb1
        cases hq : zBI L x.num with
        | none =>
          rw [hq] at hb1;injection hb1 with hb1;subst hb1
          repeat' first | apply en_n|apply zAH|apply zAB|apply zAF|apply w0|(apply aApp (id:=2) (hd:=rfl) (hro:=rfl);exact rfl;exact rfl;(first|exact zAk rfl|exact Co_bb rfl rfl rfl|exact Co_nn rfl);(first|exact rfl|exact (by simp));exact rfl;(with_reducible exact zBd);(with_reducible exact zAW);(with_reducible exact zER);(with_reducible exact zDP);(first|exact zCF (fun _=>rfl)|exact zCE rfl))|(apply zA5;exact rfl;exact rfl;first|assumption|omega)|(apply zBD;exact rfl;exact rfl;first|assumption|omega)|exact zAo rfl|(apply zDX;exact zMr hq;exact rfl;exact rfl;exact rfl;(with_reducible exact zHY);(with_reducible exact zEX);(with_reducible exact zDp))|(apply aJ (hd:=rfl);(first|exact zAk rfl|exact Co_bb rfl rfl rfl|exact Co_nn rfl);exact rfl;(with_reducible exact zAW);assumption;omega;exact fun _=>rfl)|(apply zA4 (hd:=rfl) (hro:=rfl);(with_reducible exact zAp))|apply ay (hd:=rfl)|exact zAE rfl|exact zAC rfl|(apply zAf;exact rfl;(with_reducible exact zAY);exact rfl)|(apply zBC;exact rfl;exact rfl)|exact zAi rfl rfl|exact zBQ rfl rfl|exact zAw rfl|exact zAm rfl|exact zAZ rfl|(apply zAR;exact rfl;(with_reducible first|exact fs_1|exact fn_0|exact fn_2))|(apply zAU;exact rfl;(with_reducible first|exact zFD|exact zAe|exact zBK);exact rfl;exact rfl)|(apply zCt;exact rfl;(with_reducible exact zAY);exact rfl;exact rfl;exact rfl)|(apply zCC;(with_reducible exact zBd);(with_reducible exact zAW);(with_reducible exact zDQ);exact rfl;exact rfl;(first|exact zAX rfl zAG|exact zC4 rfl rfl rfl zAG|exact zDG rfl zAG);exact rfl)|(apply w1;exact rfl;exact rfl)|(refine w0' ?_)|(apply zAx;exact rfl;exact rfl;exact rfl;(with_reducible exact zAY);exact rfl;exact rfl;exact rfl;exact rfl)|(apply zAK;exact rfl)|(apply zAQ;exact rfl)|apply zAI|apply zAP|refine zA6 (by kernel_rfl) (by kernel_rfl) ?_|apply eb_n
          · simp only [List.length_map,List.length_singleton];omega
          · omega
          · refine fin ?_
            subst hb2
            exact zAO (zAA rfl (zBt rfl (by simp) (zAA rfl (zAA rfl (zAA rfl zAa))))) (zAD rfl rfl (zAD rfl rfl (zAu rfl rfl (by rw [List.map_append];rfl) zAN))) rfl rfl
        | some u =>
          rw [hq] at hb1
          have hu : u.length ≤ 1000000:=hL _ (zGT hq)
          have hc:=ih u b hb1 hu (by omega) hL
          repeat' first | apply en_n|apply zAH|apply zAB|apply zAF|apply w0|(apply aApp (id:=2) (hd:=rfl) (hro:=rfl);exact rfl;exact rfl;(first|exact zAk rfl|exact Co_bb rfl rfl rfl|exact Co_nn rfl);(first|exact rfl|exact (by simp));exact rfl;(with_reducible exact zBd);(with_reducible exact zAW);(with_reducible exact zER);(with_reducible exact zDP);(first|exact zCF (fun _=>rfl)|exact zCE rfl))|(apply zA5;exact rfl;exact rfl;first|assumption|omega)|(apply zBD;exact rfl;exact rfl;first|assumption|omega)|exact zAo rfl|(apply zDX;exact zJk hq;exact rfl;exact rfl;exact rfl;(with_reducible exact zHY);(with_reducible exact zEX);(with_reducible exact zDp))|(refine zBB [0,1] [] rfl rfl zNJ (hc) rfl ?_ rfl (by decide) rfl rfl rfl rfl;(repeat (refine zAL rfl ?_));exact zAS)|(apply aJ (hd:=rfl);(first|exact zAk rfl|exact Co_bb rfl rfl rfl|exact Co_nn rfl);exact rfl;(with_reducible exact zAW);assumption;omega;exact fun _=>rfl)|(apply zA4 (hd:=rfl) (hro:=rfl);(with_reducible exact zAp))|apply ay (hd:=rfl)|exact zAE rfl|exact zAC rfl|(apply zAf;exact rfl;(with_reducible exact zAY);exact rfl)|(apply zBC;exact rfl;exact rfl)|exact zAi rfl rfl|exact zBQ rfl rfl|exact zAw rfl|exact zAm rfl|exact zAZ rfl|(apply zAR;exact rfl;(with_reducible first|exact fs_1|exact fn_0|exact fn_2))|(apply zAU;exact rfl;(with_reducible first|exact zFD|exact zAe|exact zBK);exact rfl;exact rfl)|(apply w1;exact rfl;exact rfl)|(refine w0' ?_)|(apply zAx;exact rfl;exact rfl;exact rfl;(with_reducible exact zAY);exact rfl;exact rfl;exact rfl;exact rfl)|(apply zAK;exact rfl)|apply zAI|apply zAP|refine zA6 (by kernel_rfl) (by kernel_rfl) ?_|apply eb_n
          · simp only [List.length_map];omega
          · omega
          · refine fin ?_
            subst hb2
            exact zAO (zAA rfl (zBt rfl (by simp) (zAA rfl (zAA rfl (zAA rfl zAa))))) (zAD rfl rfl (zAD rfl rfl (zAu rfl rfl (by rw [List.map_append]) zAN))) rfl rfl
      · rw [if_neg hk] at hb1;injection hb1 with hb1;subst hb1
        repeat' first | apply en_n|apply zAH|apply zAB|apply zAF|apply w0|(apply aApp (id:=2) (hd:=rfl) (hro:=rfl);exact rfl;exact rfl;(first|exact zAk rfl|exact Co_bb rfl rfl rfl|exact Co_nn rfl);(first|exact rfl|exact (by simp));exact rfl;(with_reducible exact zBd);(with_reducible exact zAW);(with_reducible exact zER);(with_reducible exact zDP);(first|exact zCF (fun _=>rfl)|exact zCE rfl))|(apply zA5;exact rfl;exact rfl;first|assumption|omega)|(apply zA9;exact rfl;exact rfl;first|assumption|omega)|exact zAo rfl|(apply zDX;exact ⟨rfl,rfl⟩;exact rfl;exact rfl;exact rfl;(with_reducible exact zHY);(with_reducible exact zEX);(with_reducible exact zDp))|(apply aJ (hd:=rfl);(first|exact zAk rfl|exact Co_bb rfl rfl rfl|exact Co_nn rfl);exact rfl;(with_reducible exact zAW);assumption;omega;exact fun _=>rfl)|(apply zA4 (hd:=rfl) (hro:=rfl);(with_reducible exact zAp))|apply ay (hd:=rfl)|exact zAE rfl|exact zAC rfl|(apply zAf;exact rfl;(with_reducible exact zAY);exact rfl)|(apply zBC;exact rfl;exact rfl)|exact zAh rfl rfl|exact zBQ rfl rfl|exact zAw rfl|exact zAm rfl|exact zAZ rfl|(apply zAR;exact rfl;(with_reducible first|exact fs_1|exact fn_0|exact fn_2))|(apply zAU;exact rfl;(with_reducible first|exact zFD|exact zAe|exact zBK);exact rfl;exact rfl)|(apply zCt;exact rfl;(with_reducible exact zAY);exact rfl;exact rfl;exact rfl)|(apply zCC;(with_reducible exact zBd);(with_reducible exact zAW);(with_reducible exact zDQ);exact rfl;exact rfl;(first|exact zAX rfl zAG|exact zC4 rfl rfl rfl zAG|exact zDG rfl zAG);exact rfl)|(apply k1 (hd:=rfl);exact rfl;exact rfl)|(refine w0' ?_)|(apply zAx;exact rfl;exact rfl;exact rfl;(with_reducible exact zAY);exact rfl;exact rfl;exact rfl;exact rfl)|(apply zAK;exact rfl)|(apply zAQ;exact rfl)|apply zAI|apply zAP|refine zA6 (by kernel_rfl) (by kernel_rfl) ?_|apply eb_n
        · simp only [List.length_map,List.length_singleton];omega
        · omega
        · refine fin ?_
          subst hb2
          exact zAO (zAA rfl (zBt rfl (by simp) (zAA rfl (zAA rfl (zAA rfl zAa))))) (zAD rfl rfl (zAD rfl rfl (zAu rfl rfl (by rw [List.map_append];rfl) zAN))) rfl rfl
    · have e : a = r:=by rw [List.take_of_length_le hge,h] at ha;injection ha with ha;exact ha.symm
      subst e
      repeat' first | apply en_n|apply zAH|apply zAB|apply zAF|apply w0|(apply zBq;exact rfl;exact rfl;first|assumption|omega)|apply ay (hd:=rfl)|exact zAw rfl|exact zAm rfl|(apply zAQ;exact rfl)|apply zAM|apply zAt|apply en_e|apply eb_e|apply zAJ|(apply zGx;exact rfl;exact rfl;(first|exact rfl|(simp;done)))
      rfl
end Go.Proofs.YtblomnkamngnbaaGreatDoor

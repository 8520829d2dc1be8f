/- Texts of this claim, merged: TypC. -/
import Derived.Test.YtblomnkamngnbaaGreatDoorMAK
namespace Go.Proofs.YtblomnkamngnbaaGreatDoor
open Go.Sx
attribute [local irreducible] zAO Program.underlying Ylds zA3 alex zBY zBN awp zAm zBT zBe zAx zBA zBP zA2 zBR zBX zBa zBq zBI
theorem zEb {k : Option Nat} {et : Option TypeId} {cs : List SV} : WOb (.bx k none cs) (.bx k et cs):=fun _ _ _ ⟨b,e,us,h1,h2,h3,h4,h5,h6,h7⟩=>⟨b,e,us,h1,h2,h3,h4,h5,h6,h7.1,fun _ h=>(by cases h)⟩
theorem zI9 (n : Int) : zAx Tryz.prog 37 [.d (i64 n)] [] (.ptr 1 0) [.map none (mSto []),.bx none none [.d (i64 n),.mp 0]]:=by
  refine zAw Tryz.func37 rfl Tryz.ntmps37 Tryz.results37 rfl rfl rfl ?_
  intro wb St0 X fx
  repeat' first | (apply zG9;(with_reducible exact zSO);(with_reducible exact zRy);exact zEf rfl (zEf rfl zOO);exact rfl;exact rfl;exact rfl;exact rfl)|apply en_n|apply zAH|apply zAC|apply zAF|apply w0|(apply zG8 (hd:=rfl) (hro:=rfl);(with_reducible exact zHn);(with_reducible exact zEj))|apply ay (hd:=rfl)|exact zAE rfl|exact zAD rfl|exact zEa rfl|apply zAN
  exact zAh (zAL (zAA rfl zAW) (zAB rfl rfl (zHD rfl zEb zAK)) rfl rfl)
theorem zTP (nx : Int) (L : Sto) (h : 0 ≤ nx ∧ nx ≤ 4000000000000) : zAx Tryz.prog 109 [.ptr 0 0] (stO nx L) (.d (zAc (varN nx))) (stO (nx + 1) L):=by
  refine zAw Tryz.func109 rfl Tryz.ntmps109 Tryz.results109 rfl rfl rfl ?_
  intro wb St0 X fx
  repeat' first | apply en_n|apply zAH|apply zAC|apply zAF|apply w0|exact zAe rfl|(apply zAX (hb:=zIh) (hc:=zIB _))|apply ay (hd:=rfl)|exact zAD rfl|(apply zBG;exact rfl;exact rfl)|(apply zJC;exact rfl;exact rfl)|exact zAY rfl|exact zAR rfl|(apply zAS;exact rfl;(with_reducible exact fs_0))|(apply zAV;exact rfl;(with_reducible exact zAz);exact rfl;exact rfl)|(refine w0' ?_)|(apply zA0;exact rfl;exact rfl;exact rfl;(with_reducible exact zAz);exact rfl;exact rfl;exact rfl;exact rfl)|apply zAN|exact zAG|refine zAZ rfl ?_
  · omega
  · omega
  · rw [show nx + 1 - 1 = nx by omega]
    exact zAh (zAL (zAA rfl zAW) (zAB rfl rfl (zAB rfl rfl zAK)) rfl rfl)
theorem zQa (nx : Int) (L : Sto) (n : Nat) (t r : List Nd) (h : zD2 n L t = some r) : zBA Tryz.prog 157 [.ptr 0 0,.d (zAc t)] (stO nx L) (zAc r):=by
  refine zBw Tryz.func157 rfl Tryz.ntmps157 Tryz.results157 rfl ?_
  intro wb St0
  repeat' first | apply en_n|apply zAH|apply zAC|apply zAF|apply w0|apply ay (hd:=rfl)|exact zAY rfl|apply zAJ
  refine zAs (α:=Nat × List Nd) (fun p=>zD2 p.1 L p.2 = some r) (fun p=>[(0,.ptr 0 0),(1,.d (zAc p.2))]) (fun _=>stO nx L) (fun p=>p.1) (n,t) h
    (zAL (zAA rfl (zAA rfl zAW)) (zAB rfl rfl (zAB rfl rfl zAK)) rfl rfl) ?_
  clear h
  rintro ⟨n,t⟩ h
  dsimp only at h ⊢
  obtain ⟨n,rfl⟩ : ∃ m,n = m + 1:=by cases n with | zero=>cases h | succ m=>exact ⟨m,rfl⟩
  cases hx : t[0]? with
  | none=>simp [zD2,hx] at h
  | some x =>
    have hlen : 0 < t.length:=(List.getElem?_eq_some_iff.1 hx).1
    simp only [zD2,hx] at h
    repeat' first | apply en_n|apply zAH|apply zAC|apply zAF|apply w0|exact zAe rfl|(apply zMM;exact rfl;exact rfl;exact rfl;(with_reducible exact zHn);(with_reducible exact zEj);(with_reducible exact zDx))|(apply aJ (hd:=rfl);(first|exact zAn rfl|exact Co_bb rfl rfl rfl|exact Co_nn rfl);exact rfl;(with_reducible exact zAa);assumption;omega;exact fun _=>rfl)|apply ay (hd:=rfl)|exact zAE rfl|exact zAD rfl|(apply zA5;exact rfl;(with_reducible first|exact fn_0|exact fn_2))|(apply zAi;exact rfl;(with_reducible first|exact zAk|exact zB4))|exact zD7 rfl rfl|exact zCS rfl|exact zBM rfl rfl|exact zAR rfl|(apply zAS;exact rfl;(with_reducible exact fs_1))|(apply zAV;exact rfl;(with_reducible exact zFT);exact rfl;exact rfl)|(apply zA1;exact rfl;(intro hb);rotate_left;(intro hb);rotate_right)|(apply zDB;exact rfl;(intro hb);rotate_left;(intro hb);rotate_right)|apply zAJ|apply zAT|apply zAN|apply zAu|refine zBQ (by kernel_rfl) (by kernel_rfl) ?_|apply en_e|apply eb_n|apply eb_e|refine eb_o rfl ?_|apply zAP|(apply res1;exact rfl)
    · simp only [zGq,Option.isSome_map,Bool.not_eq_true',Option.isSome_eq_false_iff,Option.isNone_iff_eq_none] at hb
      have hk : x.kind = 31:=‹_›
      rw [if_pos hk,hb] at h
      injection h with h;rw [h]
    · have hk : x.kind = 31:=‹_›
      have hs:=(zGo L x.num).2
      rw [hs] at hb
      rw [if_pos hk] at h
      cases hq : zAv L x.num with
      | none=>rw [hq] at hb;cases hb
      | some u =>
        rw [hq] at h
        exact ⟨(n,u),h,by omega,zAL (zAA rfl (Le_d rfl (by rw [(zGo L x.num).1,hq];rfl) zAW)) (zAB rfl rfl (zAB rfl rfl zAK)) rfl rfl⟩
    · rw [if_neg hb] at h;injection h with h;rw [h]
theorem zIy {α : Type} {f : α → Option (List Nd)} : ∀ {L : List α} {r : List Nd},catO f L = some r → ∀ i,∃ a,catO f (L.take i) = some a ∧ a.length ≤ r.length
  | [],r,h,i=>by simp only [catO,Option.some.injEq] at h;subst h;exact ⟨[],by simp [catO],Nat.le_refl _⟩
  | x :: L,r,h,0=>⟨[],by simp [catO],Nat.zero_le _⟩
  | x :: L,r,h,i + 1=>by
    simp only [catO] at h
    split at h
    · rename_i a b h1 h2
      injection h with h;subst h
      obtain ⟨c,h3,h4⟩:=zIy h2 i
      exact ⟨a ++ c,by simp [catO,h1,h3],by simp;omega⟩
    · cases h
theorem zL7 {α : Type} {f : α → Option (List Nd)} : ∀ {L : List α} {i : Nat} {v : α} {a c : List Nd},L[i]? = some v → catO f (L.take i) = some a → catO f (L.take (i + 1)) = some c → ∃ b,f v = some b ∧ c = a ++ b
  | x :: L,0,v,a,c,hv,ha,hc=>by
    simp at hv;subst hv
    simp only [List.take_zero,catO,Option.some.injEq] at ha;subst ha
    simp only [Nat.zero_add,List.take_succ_cons,List.take_zero,catO] at hc
    split at hc
    · rename_i b d h1 h2;injection h2 with h2;subst h2;injection hc with hc;subst hc;exact ⟨b,h1,by simp⟩
    · cases hc
  | x :: L,i + 1,v,a,c,hv,ha,hc=>by
    simp only [List.take_succ_cons,catO] at ha hc
    split at ha
    · rename_i p q h1 h2
      injection ha with ha;subst ha
      split at hc
      · rename_i p' q' h3 h4
        injection hc with hc;subst hc
        rw [h1] at h3;injection h3 with h3;subst h3
        obtain ⟨b,h5,h6⟩:=zL7 (by simpa using hv) h2 h4
        exact ⟨b,h5,by rw [h6,List.append_assoc]⟩
      · cases hc
    · cases ha
  | [],_,_,_,_,hv,_,_=>by simp at hv
set_option maxHeartbeats 1000000 in
theorem zNL (nx : Int) (L : Sto) : ∀ (n : Nat) (t r : List Nd),resF n L t = some r → t.length ≤ 1000000 → r.length ≤ 1000000 → (∀ p ∈ L,p.2.length ≤ 1000000) → zBA Tryz.prog 108 [.ptr 0 0,.d (zAc t)] (stO nx L) (zAc r)
  | 0,_,_,h,_,_,_=>by cases h
  | n + 1,t,r,h,ht,hr,hL=>by
    have ih:=zNL nx L n
    refine zBw Tryz.func108 rfl Tryz.ntmps108 Tryz.results108 rfl ?_
    intro wb St0
    unfold resF at h
    generalize hf : (fun x : Nd=>if x.kind = 31 then (match zAv L x.num with | some u=>resF n L u | none=>some [x]) else some [x]) = f at h
    have hf' : ∀ x : Nd,f x = if x.kind = 31 then (match zAv L x.num with | some u=>resF n L u | none=>some [x]) else some [x]:=fun x=>by rw [← hf]
    clear hf
    repeat' first | apply en_n|apply zAH|apply zAC|apply zAF|apply w0|apply ay (hd:=rfl)|exact zAE rfl|(apply zAr;exact rfl;(with_reducible exact zA7))|exact zAY rfl|apply zAJ
    refine zCO 5 false 40 4 rfl rfl ?_
    refine zAs (α:=Nat × List Nd) (fun p=>p.1 ≤ t.length ∧ catO f (t.take p.1) = some p.2) (fun p=>[(0,.ptr 0 0),(5,.buf 2 (p.2.map Nd.av).length),(10,.d (zAc t)),(11,.d (i64 (t.length : Int))),(12,.d (i64 (p.1 : Int)))]) (fun p=>stO nx L ++ [.buf false 40 4 (p.2.map Nd.av)]) (fun p=>t.length - p.1) (0,[]) ⟨Nat.zero_le _,by simp [catO]⟩
      (zAL (zAA rfl (zBs rfl rfl (zAA rfl (Le_d rfl rfl (zAA rfl zAW))))) (zAB rfl rfl (zAB rfl rfl (zAl rfl rfl rfl zAK))) rfl rfl) ?_
    rintro ⟨i,a⟩ ⟨hi,ha⟩
    dsimp only at hi ha ⊢
    obtain ⟨a',ha',hal⟩:=zIy h i
    rw [ha] at ha';injection ha' with ha';subst ha'
    rcases Nat.lt_or_ge i t.length with hlt | hge
    · have hx : t[i]? = some t[i]:=List.getElem?_eq_getElem hlt
      generalize t[i] = x at hx
      obtain ⟨a2,ha2,hal2⟩:=zIy h (i + 1)
      obtain ⟨b,hb1,hb2⟩:=zL7 hx ha ha2
      rw [hf'] at hb1
      have hal3 : (a ++ b).length ≤ 1000000:=by rw [← hb2];omega
      rw [List.length_append] at hal3
      have fin : ∀ {Q : Nat × List Nd → Prop},Q (i + 1,a2) → ∃ y : Nat × List Nd,(y.1 ≤ t.length ∧ catO f (t.take y.1) = some y.2) ∧ t.length - y.1 < t.length - i ∧ Q y:=fun hQ=>⟨(i + 1,a2),⟨hlt,ha2⟩,by show t.length - (i + 1) < _;omega,hQ⟩
      by_cases hk : x.kind = 31
      · rw [if_pos hk] at hb1
        cases hq : zAv L x.num with
        | none =>
          rw [hq] at hb1;injection hb1 with hb1;subst hb1
          repeat' first | apply en_n|apply zAH|apply zAC|apply zAF|apply w0|(apply aApp (id:=2) (hd:=rfl) (hro:=rfl);exact rfl;exact rfl;(first|exact zAn rfl|exact Co_bb rfl rfl rfl|exact Co_nn rfl);(first|exact rfl|exact (by simp));exact rfl;(with_reducible exact zBl);(with_reducible exact zAa);(with_reducible exact zE1);(with_reducible exact zDi);(first|exact zCc (fun _=>rfl)|exact zCP rfl))|(apply zBK;exact rfl;exact rfl;first|assumption|omega)|(apply zBV;exact rfl;exact rfl;first|assumption|omega)|exact zAe rfl|(apply zDd;exact zNT hq;exact rfl;exact rfl;exact rfl;(with_reducible exact zHn);(with_reducible exact zEj);(with_reducible exact zDx))|(apply aJ (hd:=rfl);(first|exact zAn rfl|exact Co_bb rfl rfl rfl|exact Co_nn rfl);exact rfl;(with_reducible exact zAa);assumption;omega;exact fun _=>rfl)|(apply zBE (hd:=rfl) (hro:=rfl);(with_reducible exact zAp))|apply ay (hd:=rfl)|exact zAE rfl|exact zAD rfl|(apply zAf;exact rfl;(with_reducible exact zAb);exact rfl)|(apply zBG;exact rfl;exact rfl)|exact zAq rfl rfl|exact zBM rfl rfl|exact zAt rfl|exact zAj rfl|exact zAR rfl|(apply zAS;exact rfl;(with_reducible first|exact fs_1|exact fn_0|exact fn_2))|(apply zAV;exact rfl;(with_reducible first|exact zFT|exact zAk|exact zB4);exact rfl;exact rfl)|(apply zC1;exact rfl;(with_reducible exact zAb);exact rfl;exact rfl;exact rfl)|(apply zCD;(with_reducible exact zBl);(with_reducible exact zAa);(with_reducible exact zDr);exact rfl;exact rfl;(first|exact zAZ rfl zAG|exact zCo rfl rfl rfl zAG|exact zCs rfl zAG);exact rfl)|(apply w1;exact rfl;exact rfl)|(refine w0' ?_)|(apply zA0;exact rfl;exact rfl;exact rfl;(with_reducible exact zAb);exact rfl;exact rfl;exact rfl;exact rfl)|(apply zAQ;exact rfl)|(apply zAU;exact rfl)|apply zAJ|apply zAT|refine zBQ (by kernel_rfl) (by kernel_rfl) ?_|apply eb_n
          · simp only [List.length_map,List.length_singleton];omega
          · omega
          · refine fin ?_
            subst hb2
            exact zAL (zAA rfl (zBs rfl (by simp) (zAA rfl (zAA rfl (zAA rfl zAW))))) (zAB rfl rfl (zAB rfl rfl (zAl rfl rfl (by rw [List.map_append];rfl) zAK))) rfl rfl
        | some u =>
          rw [hq] at hb1
          have hu : u.length ≤ 1000000:=hL _ (zFc hq)
          have hc:=ih u b hb1 hu (by omega) hL
          repeat' first | apply en_n|apply zAH|apply zAC|apply zAF|apply w0|(apply aApp (id:=2) (hd:=rfl) (hro:=rfl);exact rfl;exact rfl;(first|exact zAn rfl|exact Co_bb rfl rfl rfl|exact Co_nn rfl);(first|exact rfl|exact (by simp));exact rfl;(with_reducible exact zBl);(with_reducible exact zAa);(with_reducible exact zE1);(with_reducible exact zDi);(first|exact zCc (fun _=>rfl)|exact zCP rfl))|(apply zBK;exact rfl;exact rfl;first|assumption|omega)|(apply zBV;exact rfl;exact rfl;first|assumption|omega)|exact zAe rfl|(apply zDd;exact zJy hq;exact rfl;exact rfl;exact rfl;(with_reducible exact zHn);(with_reducible exact zEj);(with_reducible exact zDx))|(refine zA6 [0,1] [] rfl rfl zNw (hc) rfl ?_ rfl (by decide) rfl rfl rfl rfl;(repeat (refine zAI rfl ?_));exact zAM)|(apply aJ (hd:=rfl);(first|exact zAn rfl|exact Co_bb rfl rfl rfl|exact Co_nn rfl);exact rfl;(with_reducible exact zAa);assumption;omega;exact fun _=>rfl)|(apply zBE (hd:=rfl) (hro:=rfl);(with_reducible exact zAp))|apply ay (hd:=rfl)|exact zAE rfl|exact zAD rfl|(apply zAf;exact rfl;(with_reducible exact zAb);exact rfl)|(apply zBG;exact rfl;exact rfl)|exact zAq rfl rfl|exact zBM rfl rfl|exact zAt rfl|exact zAj rfl|exact zAR rfl|(apply zAS;exact rfl;(with_reducible first|exact fs_1|exact fn_0|exact fn_2))|(apply zAV;exact rfl;(with_reducible first|exact zFT|exact zAk|exact zB4);exact rfl;exact rfl)|(apply w1;exact rfl;exact rfl)|(refine w0' ?_)|(apply zA0;exact rfl;exact rfl;exact rfl;(with_reducible exact zAb);exact rfl;exact rfl;exact rfl;exact rfl)|(apply zAQ;exact rfl)|apply zAJ|apply zAT|refine zBQ (by kernel_rfl) (by kernel_rfl) ?_|apply eb_n
          · simp only [List.length_map];omega
          · omega
          · refine fin ?_
            subst hb2
            exact zAL (zAA rfl (zBs rfl (by simp) (zAA rfl (zAA rfl (zAA rfl zAW))))) (zAB rfl rfl (zAB rfl rfl (zAl rfl rfl (by rw [List.map_append]) zAK))) rfl rfl
      · rw [if_neg hk] at hb1;injection hb1 with hb1;subst hb1
        repeat' first | apply en_n|apply zAH|apply zAC|apply zAF|apply w0|(apply aApp (id:=2) (hd:=rfl) (hro:=rfl);exact rfl;exact rfl;(first|exact zAn rfl|exact Co_bb rfl rfl rfl|exact Co_nn rfl);(first|exact rfl|exact (by simp));exact rfl;(with_reducible exact zBl);(with_reducible exact zAa);(with_reducible exact zE1);(with_reducible exact zDi);(first|exact zCc (fun _=>rfl)|exact zCP rfl))|(apply zBK;exact rfl;exact rfl;first|assumption|omega)|(apply zBW;exact rfl;exact rfl;first|assumption|omega)|exact zAe rfl|(apply zDd;exact ⟨rfl,rfl⟩;exact rfl;exact rfl;exact rfl;(with_reducible exact zHn);(with_reducible exact zEj);(with_reducible exact zDx))|(apply aJ (hd:=rfl);(first|exact zAn rfl|exact Co_bb rfl rfl rfl|exact Co_nn rfl);exact rfl;(with_reducible exact zAa);assumption;omega;exact fun _=>rfl)|(apply zBE (hd:=rfl) (hro:=rfl);(with_reducible exact zAp))|apply ay (hd:=rfl)|exact zAE rfl|exact zAD rfl|(apply zAf;exact rfl;(with_reducible exact zAb);exact rfl)|(apply zBG;exact rfl;exact rfl)|exact zAo rfl rfl|exact zBM rfl rfl|exact zAt rfl|exact zAj rfl|exact zAR rfl|(apply zAS;exact rfl;(with_reducible first|exact fs_1|exact fn_0|exact fn_2))|(apply zAV;exact rfl;(with_reducible first|exact zFT|exact zAk|exact zB4);exact rfl;exact rfl)|(apply zC1;exact rfl;(with_reducible exact zAb);exact rfl;exact rfl;exact rfl)|(apply zCD;(with_reducible exact zBl);(with_reducible exact zAa);(with_reducible exact zDr);exact rfl;exact rfl;(first|exact zAZ rfl zAG|exact zCo rfl rfl rfl zAG|exact zCs rfl zAG);exact rfl)|(apply k1 (hd:=rfl);exact rfl;exact rfl)|(refine w0' ?_)|(apply zA0;exact rfl;exact rfl;exact rfl;(with_reducible exact zAb);exact rfl;exact rfl;exact rfl;exact rfl)|(apply zAQ;exact rfl)|(apply zAU;exact rfl)|apply zAJ|apply zAT|refine zBQ (by kernel_rfl) (by kernel_rfl) ?_|apply eb_n
        · simp only [List.length_map,List.length_singleton];omega
        · omega
        · refine fin ?_
          subst hb2
          exact zAL (zAA rfl (zBs rfl (by simp) (zAA rfl (zAA rfl (zAA rfl zAW))))) (zAB rfl rfl (zAB rfl rfl (zAl rfl rfl (by rw [List.map_append];rfl) zAK))) rfl rfl
    · have e : a = r:=by rw [List.take_of_length_le hge,h] at ha;injection ha with ha;exact ha.symm
      subst e
      repeat' first | apply en_n|apply zAH|apply zAC|apply zAF|apply w0|(apply zCJ;exact rfl;exact rfl;first|assumption|omega)|apply ay (hd:=rfl)|exact zAt rfl|exact zAj rfl|(apply zAU;exact rfl)|apply zAN|apply zAu|apply en_e|apply eb_e|apply zAP|(apply zJ5;exact rfl;exact rfl;(first|exact rfl|(simp;done)))
      rfl
end Go.Proofs.YtblomnkamngnbaaGreatDoor

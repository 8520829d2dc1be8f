/- Texts of this claim, merged: TypD. -/
import Derived.Test.YtblomnkamngnbaaGreatDoorMAB
import Derived.Test.YtblomnkamngnbaaGreatDoorMAL
namespace Go.Proofs.YtblomnkamngnbaaGreatDoor
open Go.Sx
theorem zEs {α β : Type} {f : β → α → Option β} : ∀ {L : List α} {i : Nat} {v : α} {b c : β},L[i]? = some v → zBc f b (L.take i) = some c → zBc f b (L.take (i + 1)) = f c v
  | x :: L,0,v,b,c,hv,hc=>by
    simp at hv;subst hv
    simp only [List.take_zero,zBc,Option.some.injEq] at hc;subst hc
    simp only [Nat.zero_add,List.take_succ_cons,List.take_zero,zBc]
    cases f b x <;> rfl
  | x :: L,i + 1,v,b,c,hv,hc=>by
    simp only [List.take_succ_cons,zBc] at hc ⊢
    cases h : f b x with
    | none=>rw [h] at hc;cases hc
    | some d=>rw [h] at hc;exact zEs (by simpa using hv) hc
  | [],_,_,_,_,hv,_=>by simp at hv
theorem zEr {α β : Type} {f : β → α → Option β} : ∀ {L : List α} {b r : β},zBc f b L = some r → ∀ i,∃ c,zBc f b (L.take i) = some c
  | [],b,r,h,i=>⟨b,by simp [zBc]⟩
  | x :: L,b,r,h,0=>⟨b,by simp [zBc]⟩
  | x :: L,b,r,h,i + 1=>by
    simp only [zBc,List.take_succ_cons] at h ⊢
    cases hf : f b x with
    | none=>rw [hf] at h;cases h
    | some d=>rw [hf] at h;exact zEr h i
theorem zEt {α β : Type} {f : β → α → Option β} {J : β → Prop} (hs : ∀ b x c,J b → f b x = some c → J c) : ∀ {L : List α} {b r : β},J b → zBc f b L = some r → J r
  | [],b,r,hb,h=>by simp only [zBc,Option.some.injEq] at h;subst h;exact hb
  | x :: L,b,r,hb,h=>by
    simp only [zBc] at h
    cases hf : f b x with
    | none=>rw [hf] at h;cases h
    | some d=>rw [hf] at h;exact zEt hs (hs b x d hb hf) h
def SeenB (S : Seen) : Prop:=∀ a v,zAv S a = some v → 0 ≤ v ∧ v ≤ 4001
theorem zGr {β : Type} : ∀ (L : List (Int × β)) (a b : Int) (d : β),zAv (putA L a d) b = if a = b then some d else zAv L b
  | [],a,b,d=>by simp [putA,zAv]
  | (k,x) :: r,a,b,d=>by
    have ih:=zGr r a b d
    unfold putA
    by_cases h : k = a
    · subst h
      rw [if_pos rfl]
      unfold zAv
      split <;> rfl
    · rw [if_neg h]
      simp only [zAv]
      by_cases hb : k = b
      · subst hb
        rw [if_pos rfl,if_pos rfl,if_neg (fun e=>h e.symm)]
      · rw [if_neg hb,if_neg hb,ih]
theorem SeenB.put {S : Seen} (h : SeenB S) {a v : Int} (hv : 0 ≤ v ∧ v ≤ 4001) : SeenB (putA S a v):=fun b w hb=>by
  rw [zGr] at hb
  split at hb
  · injection hb with hb;subst hb;exact hv
  · exact h b w hb
theorem SeenB.get {S : Seen} (h : SeenB S) (a : Int) : 0 ≤ (zAv S a).getD 0 ∧ (zAv S a).getD 0 ≤ 4001:=by
  cases hq : zAv S a with
  | none=>simp
  | some v=>simpa [hq] using h a v hq
def szS (n : Nat) (L : Sto) (p : Int × Seen) (x : Nd) : Option (Int × Seen) :=
  if x.kind = 31 then (match zAv L x.num with
    | some u=>if (zAv p.2 x.num).getD 0 > 0 then some (min (p.1 + (zAv p.2 x.num).getD 0) 4001,p.2) else (match zGE n L u p.2 with
      | some (m,S')=>some (min (p.1 + m) 4001,putA S' x.num m)
      | none=>none)
    | none=>some (min (p.1 + 1) 4001,p.2))
  else some (min (p.1 + 1) 4001,p.2)
theorem zEA (n : Nat) (L : Sto) (t : List Nd) (S : Seen) : zGE (n + 1) L t S = zBc (szS n L) (0,S) t:=rfl
theorem zNX (L : Sto) : ∀ (n : Nat) (t : List Nd) (S : Seen) (m : Int) (S' : Seen),SeenB S → zGE n L t S = some (m,S') → (0 ≤ m ∧ m ≤ 4001) ∧ SeenB S'
  | 0,_,_,_,_,_,h=>by cases h
  | n + 1,t,S,m,S',hS,h=>by
    have ih:=zNX L n
    rw [zEA] at h
    refine zEt (J:=fun p : Int × Seen=>(0 ≤ p.1 ∧ p.1 ≤ 4001) ∧ SeenB p.2) (fun p x c hp hc=>?_) ⟨⟨by simp,by simp⟩,hS⟩ h
    obtain ⟨hp1,hp2⟩:=hp
    unfold szS at hc
    have hg:=hp2.get x.num
    split at hc
    · split at hc
      · split at hc
        · injection hc with hc;subst hc;exact ⟨by simp only;omega,hp2⟩
        · split at hc
          · rename_i m' S1 hs
            injection hc with hc;subst hc
            obtain ⟨h1,h2⟩:=ih _ _ _ _ hp2 hs
            exact ⟨by simp only;omega,h2.put h1⟩
          · cases hc
      · injection hc with hc;subst hc;exact ⟨by simp only;omega,hp2⟩
    · injection hc with hc;subst hc;exact ⟨by simp only;omega,hp2⟩
attribute [local irreducible] zAO Program.underlying Ylds zA3 alex zBY zBN awp zAm zBT zBe zAx zBA zBP zA2 zBR zBX zBa zBq zBI
abbrev sizO (nx : Int) (L : Sto) (S : Seen) : List Ob:=stO nx L ++ [.map none (zSY S)]
set_option maxHeartbeats 4000000 in
theorem zMY (nx : Int) (L : Sto) (hL : ∀ p ∈ L,p.2.length ≤ 1000000) : ∀ (n : Nat) (t : List Nd) (S : Seen) (m : Int) (S' : Seen),SeenB S → t.length ≤ 1000000 → zGE n L t S = some (m,S') →
    zAx Tryz.prog 107 [.ptr 0 0,.d (zAc t),.mp 2] (sizO nx L S) (.d (i64 m)) (sizO nx L S')
  | 0,_,_,_,_,_,_,h=>by cases h
  | n + 1,t,S,m,S',hS,ht,h=>by
    have ih:=zMY nx L hL n
    rw [zEA] at h
    refine zAw Tryz.func107 rfl Tryz.ntmps107 Tryz.results107 rfl rfl rfl ?_
    intro wb St0 X fx
    repeat' first | apply en_n|apply zAH|apply zAC|apply zAF|apply w0|apply ay (hd:=rfl)|exact zAE rfl|exact zAD rfl|(apply zAr;exact rfl;(with_reducible exact zA7))|apply zAJ
    refine zAs (α:=Nat × (Int × Seen)) (fun p=>p.1 ≤ t.length ∧ zBc (szS n L) (0,S) (t.take p.1) = some p.2 ∧ (0 ≤ p.2.1 ∧ p.2.1 ≤ 4001) ∧ SeenB p.2.2) (fun p=>[(0,.ptr 0 0),(2,.mp 2),(7,.d (i64 p.2.1)),(12,.d (zAc t)),(13,.d (i64 (t.length : Int))),(14,.d (i64 (p.1 : Int)))])
      (fun p=>[.bx (fx 0) none [.d (i64 nx),.mp 1],.map (fx 1) (mSto L),.map (fx 2) (zSY p.2.2)]) (fun p=>t.length - p.1) (0,(0,S)) ⟨Nat.zero_le _,by simp [zBc],⟨by simp,by simp⟩,hS⟩
      (zAL (zAA rfl (zAA rfl (zAA rfl (zAA rfl (Le_d rfl rfl (zAA rfl zAW)))))) (zAB rfl rfl (zAB rfl rfl (zAB rfl rfl zAK))) rfl rfl) ?_
    rintro ⟨i,k,S1⟩ ⟨hi,hf,hk,hS1⟩
    dsimp only at hi hf hk hS1 ⊢
    have hg:=fun a=>hS1.get a
    rcases Nat.lt_or_ge i t.length with hlt | hge
    · have hx : t[i]? = some t[i]:=List.getElem?_eq_getElem hlt
      generalize t[i] = x at hx
      obtain ⟨c,hc⟩:=zEr h (i + 1)
      have hst:=zEs hx hf
      rw [hc] at hst
      have fin : ∀ {Q : Nat × (Int × Seen) → Prop},((0 ≤ c.1 ∧ c.1 ≤ 4001) ∧ SeenB c.2) → Q (i + 1,c) → ∃ y : Nat × (Int × Seen),(y.1 ≤ t.length ∧ zBc (szS n L) (0,S) (t.take y.1) = some y.2 ∧ (0 ≤ y.2.1 ∧ y.2.1 ≤ 4001) ∧ SeenB y.2.2) ∧ t.length - y.1 < t.length - i ∧ Q y :=
        fun hb hQ=>⟨(i + 1,c),⟨hlt,hc,hb⟩,by show t.length - (i + 1) < _;omega,hQ⟩
      unfold szS at hst
      by_cases hk31 : x.kind = 31
      · rw [if_pos hk31] at hst
        cases hq : zAv L x.num with
        | none =>
          rw [hq] at hst;injection hst with hst;subst hst
          repeat' first | apply en_n|apply zAH|apply zAC|apply zAF|apply w0|(apply zBK;exact rfl;exact rfl;first|assumption|omega)|(apply zBm;exact rfl;exact rfl;first|assumption|omega)|exact zRe rfl rfl|exact zAe rfl|(apply zDd;exact zNT hq;exact rfl;exact rfl;exact rfl;(with_reducible exact zHn);(with_reducible exact zEj);(with_reducible exact zDx))|(apply aJ (hd:=rfl);(first|exact zAn rfl|exact Co_bb rfl rfl rfl|exact Co_nn rfl);exact rfl;(with_reducible exact zAa);assumption;omega;exact fun _=>rfl)|(apply zBE (hd:=rfl) (hro:=rfl);(with_reducible exact zAp))|apply ay (hd:=rfl)|exact zAE rfl|exact zAD rfl|(apply zAf;exact rfl;(with_reducible exact zAb);exact rfl)|(apply zBG;exact rfl;exact rfl)|exact zCS rfl|exact zAo rfl rfl|exact zBM rfl rfl|exact zAR rfl|(apply zAS;exact rfl;(with_reducible first|exact fs_1|exact fn_0|exact fn_2))|(apply zAV;exact rfl;(with_reducible first|exact zFT|exact zAk|exact zB4);exact rfl;exact rfl)|(apply w1;exact rfl;exact rfl)|(refine w0' ?_)|(apply zA0;exact rfl;exact rfl;exact rfl;(with_reducible exact zAb);exact rfl;exact rfl;exact rfl;exact rfl)|(apply zAQ;exact rfl)|apply zAJ|apply zAT|refine zBQ (by kernel_rfl) (by kernel_rfl) ?_|apply eb_n
          · omega
          · omega
          · exact fin ⟨by simp only;omega,hS1⟩ (zAL (zAA rfl (zAA rfl (zAA rfl (zAA rfl (zAA rfl (zAA rfl zAW)))))) (zAB rfl rfl (zAB rfl rfl (zAB rfl rfl zAK))) rfl rfl)
        | some u =>
          rw [hq] at hst
          have hgx:=hg x.num
          by_cases hs0 : (zAv S1 x.num).getD 0 > 0
          · simp only [hs0,if_true] at hst;injection hst with hst;subst hst
            repeat' first | apply en_n|apply zAH|apply zAC|apply zAF|apply w0|(apply zBK;exact rfl;exact rfl;first|assumption|omega)|(apply zE0;exact rfl;exact rfl;first|assumption|omega)|(apply zBm;exact rfl;exact rfl;first|assumption|omega)|exact zRe rfl rfl|exact zAe rfl|(apply zDd;exact zJy hq;exact rfl;exact rfl;exact rfl;(with_reducible exact zHn);(with_reducible exact zEj);(with_reducible exact zDx))|(apply zFH;exact zEo S1 x.num;exact rfl;exact rfl;exact rfl;(with_reducible exact zHm);(with_reducible exact zFK);(with_reducible exact zJE))|exact zFo rfl|(apply aJ (hd:=rfl);(first|exact zAn rfl|exact Co_bb rfl rfl rfl|exact Co_nn rfl);exact rfl;(with_reducible exact zAa);assumption;omega;exact fun _=>rfl)|(apply zBE (hd:=rfl) (hro:=rfl);(with_reducible exact zAp))|apply ay (hd:=rfl)|exact zAE rfl|exact zAD rfl|(apply zAf;exact rfl;(with_reducible exact zAb);exact rfl)|(apply zBG;exact rfl;exact rfl)|exact zCS rfl|exact zAo rfl rfl|exact zBM rfl rfl|exact zAR rfl|(apply zAS;exact rfl;(with_reducible first|exact fs_1|exact fn_0|exact fn_2))|(apply zAV;exact rfl;(with_reducible first|exact zFT|exact zAk|exact zB4);exact rfl;exact rfl)|(apply w1;exact rfl;exact rfl)|(refine w0' ?_)|(apply zA0;exact rfl;exact rfl;exact rfl;(with_reducible exact zAb);exact rfl;exact rfl;exact rfl;exact rfl)|(apply zAQ;exact rfl)|(apply zAU;exact rfl)|apply zAJ|apply zAT|refine zBQ (by kernel_rfl) (by kernel_rfl) ?_|apply eb_n
            · omega
            · omega
            · exact fin ⟨by simp only;omega,hS1⟩ (zAL (zAA rfl (zAA rfl (zAA rfl (zAA rfl (zAA rfl (zAA rfl zAW)))))) (zAB rfl rfl (zAB rfl rfl (zAB rfl rfl zAK))) rfl rfl)
          · simp only [hs0,if_false] at hst
            have hu : u.length ≤ 1000000:=hL _ (zFc hq)
            cases hz : zGE n L u S1 with
            | none=>rw [hz] at hst;cases hst
            | some q =>
              obtain ⟨m',S2⟩:=q
              rw [hz] at hst;injection hst with hst;subst hst
              have hc':=ih u S1 m' S2 hS1 hu hz
              obtain ⟨hm',hS2⟩:=zNX L n u S1 m' S2 hS1 hz
              have hput : (zCW (encA i64 (putA S2 x.num m')) x.num).getD (.val (.int .i64 0)) = i64 m':=by rw [zEo,zGr,if_pos rfl];rfl
              repeat' first | (refine zRM (id:=6) [.mp 2,.ptr 3 2,.d (i64 x.num),.ptr 0 0,.d (zAc u),.mp 2] [0,1,2] (by kernel_rfl) (by kernel_rfl) rfl (.inr (by kernel_rfl)) ⟨⟨rfl,zFo rfl⟩,rfl,⟨rfl,zAS rfl fn_2⟩,rfl,⟨rfl,zAV rfl zB4 rfl rfl⟩,rfl,⟨rfl,zAR rfl⟩,rfl,⟨rfl,zAE rfl⟩,rfl,⟨rfl,zFo rfl⟩,rfl,trivial⟩ ⟨.inr ⟨rfl,rfl,zFo rfl⟩,.inr ⟨rfl,rfl,zAS rfl fn_2⟩,.inr ⟨rfl,rfl,zAV rfl zB4 rfl rfl⟩,.inl (by kernel_rfl),.inl (by kernel_rfl),.inl (by kernel_rfl),trivial⟩ zKM hc' ⟨rfl,rfl,rfl,trivial⟩ rfl rfl (by decide) rfl rfl rfl rfl rfl rfl ?_)|apply en_n|apply zAH|apply zAC|apply zAF|apply w0|(apply zBK;exact rfl;exact rfl;first|assumption|omega)|(apply zDw;exact rfl;exact rfl;first|assumption|omega)|(apply zBm;exact rfl;exact rfl;first|assumption|omega)|exact zRe rfl rfl|exact zAe rfl|(apply zDd;exact zJy hq;exact rfl;exact rfl;exact rfl;(with_reducible exact zHn);(with_reducible exact zEj);(with_reducible exact zDx))|(apply zFH;exact zEo S1 x.num;exact rfl;exact rfl;exact rfl;(with_reducible exact zHm);(with_reducible exact zFK);(with_reducible exact zJE))|(apply zFH;exact hput;exact rfl;exact rfl;exact rfl;(with_reducible exact zHm);(with_reducible exact zFK);(with_reducible exact zJE))|exact zFo rfl|(refine zDF (by kernel_rfl) ?_;apply zG7;exact zFx i64 S2 x.num m';exact rfl;exact rfl;exact rfl;exact zAn rfl;(with_reducible exact zHm);(with_reducible exact zFK);exact rfl)|(apply aJ (hd:=rfl);(first|exact zAn rfl|exact Co_bb rfl rfl rfl|exact Co_nn rfl);exact rfl;(with_reducible exact zAa);assumption;omega;exact fun _=>rfl)|(apply zBE (hd:=rfl) (hro:=rfl);(with_reducible exact zAp))|apply ay (hd:=rfl)|exact zAE rfl|exact zAD rfl|(apply zAf;exact rfl;(with_reducible exact zAb);exact rfl)|(apply zBG;exact rfl;exact rfl)|exact zCS rfl|exact zAo rfl rfl|exact zBM rfl rfl|exact zAR rfl|(apply zAS;exact rfl;(with_reducible first|exact fs_1|exact fn_0|exact fn_2))|(apply zAV;exact rfl;(with_reducible first|exact zFT|exact zAk|exact zB4);exact rfl;exact rfl)|(apply w1;exact rfl;exact rfl)|(refine w0' ?_)|(apply zA0;exact rfl;exact rfl;exact rfl;(with_reducible exact zAb);exact rfl;exact rfl;exact rfl;exact rfl)|(apply zAQ;exact rfl)|(apply zAU;exact rfl)|apply zAJ|apply zAT|refine zBQ (by kernel_rfl) (by kernel_rfl) ?_|apply eb_n
              · omega
              · omega
              · exact fin ⟨by simp only;omega,hS2.put hm'⟩ (zAL (zAA rfl (zAA rfl (zAA rfl (zAA rfl (zAA rfl (zAA rfl zAW)))))) (zAB rfl rfl (zAB rfl rfl (zAB rfl rfl zAK))) rfl rfl)
      · rw [if_neg hk31] at hst;injection hst with hst;subst hst
        repeat' first | apply en_n|apply zAH|apply zAC|apply zAF|apply w0|(apply zBK;exact rfl;exact rfl;first|assumption|omega)|(apply zCT;exact rfl;exact rfl;first|assumption|omega)|exact zRe rfl rfl|exact zAe rfl|(apply zDd;exact ⟨rfl,rfl⟩;exact rfl;exact rfl;exact rfl;(with_reducible exact zHn);(with_reducible exact zEj);(with_reducible exact zDx))|(apply aJ (hd:=rfl);(first|exact zAn rfl|exact Co_bb rfl rfl rfl|exact Co_nn rfl);exact rfl;(with_reducible exact zAa);assumption;omega;exact fun _=>rfl)|(apply zBE (hd:=rfl) (hro:=rfl);(with_reducible exact zAp))|apply ay (hd:=rfl)|exact zAE rfl|exact zAD rfl|(apply zAf;exact rfl;(with_reducible exact zAb);exact rfl)|(apply zBG;exact rfl;exact rfl)|exact zAq rfl rfl|exact zBM rfl rfl|exact zAR rfl|(apply zAS;exact rfl;(with_reducible first|exact fs_1|exact fn_0|exact fn_2))|(apply zAV;exact rfl;(with_reducible first|exact zFT|exact zAk|exact zB4);exact rfl;exact rfl)|(apply k0 (hd:=rfl);exact rfl;exact rfl)|(refine w0' ?_)|(apply zA0;exact rfl;exact rfl;exact rfl;(with_reducible exact zAb);exact rfl;exact rfl;exact rfl;exact rfl)|(apply zAQ;exact rfl)|apply zAJ|apply zAT|refine zBQ (by kernel_rfl) (by kernel_rfl) ?_|apply eb_n
        · omega
        · omega
        · exact fin ⟨by simp only;omega,hS1⟩ (zAL (zAA rfl (zAA rfl (zAA rfl (zAA rfl (zAA rfl (zAA rfl zAW)))))) (zAB rfl rfl (zAB rfl rfl (zAB rfl rfl zAK))) rfl rfl)
    · have e : (k,S1) = (m,S'):=by rw [List.take_of_length_le hge,h] at hf;injection hf with hf;exact hf.symm
      injection e with e1 e2;subst e1;subst e2
      repeat' first | apply en_n|apply zAH|apply zAC|apply zAF|apply w0|(apply zCJ;exact rfl;exact rfl;first|assumption|omega)|apply ay (hd:=rfl)|exact zAE rfl|exact zAD rfl|(apply zAU;exact rfl)|apply zAN|apply zAu|apply en_e|apply eb_e
      exact zAh (zAL (zAA rfl zAW) (zAB rfl rfl (zAB rfl rfl (zAB rfl rfl zAK))) rfl rfl)
end Go.Proofs.YtblomnkamngnbaaGreatDoor

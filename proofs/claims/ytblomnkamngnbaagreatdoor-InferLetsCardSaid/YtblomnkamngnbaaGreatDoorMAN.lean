/- Texts of this claim, merged: TypE. -/
import Derived.Test.YtblomnkamngnbaaGreatDoorMAM
namespace Go.Proofs.YtblomnkamngnbaaGreatDoor
open Go.Sx
def inS (n : Nat) (L : Sto) (v : Int) (p : Bool × Seen) (x : Nd) : Option (Bool × Seen) :=
  if p.1 then some p
  else if x.kind ≠ 31 ∨ (zAv p.2 x.num).getD 0 > 0 then some p
  else if x.num = v then some (true,putA p.2 x.num ((zAv p.2 x.num).getD 0 + 1))
  else inF n L v ((zAv L x.num).getD []) (putA p.2 x.num ((zAv p.2 x.num).getD 0 + 1))
theorem zF3 (n : Nat) (L : Sto) (v : Int) (t : List Nd) (S : Seen) : inF (n + 1) L v t S = zBc (inS n L v) (false,S) t:=rfl
theorem zNu {n : Nat} {L : Sto} {v : Int} : ∀ {t : List Nd} {S : Seen} {r : Bool × Seen},zBc (inS n L v) (true,S) t = some r → r = (true,S)
  | [],S,r,h=>by simp only [zBc,Option.some.injEq] at h;exact h.symm
  | x :: t,S,r,h=>by
    simp only [zBc,inS,if_true] at h
    exact zNu h
theorem zId {n : Nat} {L : Sto} {v : Int} : ∀ {t : List Nd} {b : Bool × Seen} {r : Bool × Seen} {i : Nat} {S : Seen},zBc (inS n L v) b t = some r → zBc (inS n L v) b (t.take i) = some (true,S) → r = (true,S)
  | [],b,r,i,S,h,h2=>by simp only [List.take_nil] at h2;rw [h] at h2;exact Option.some.inj h2
  | x :: t,b,r,0,S,h,h2=>by
    simp only [List.take_zero,zBc,Option.some.injEq] at h2;subst h2
    exact zNu h
  | x :: t,b,r,i + 1,S,h,h2=>by
    simp only [List.take_succ_cons,zBc] at h h2
    cases hf : inS n L v b x with
    | none=>rw [hf] at h;cases h
    | some c=>rw [hf] at h h2;exact zId h h2
def Small (S : Seen) : Prop:=∀ a w,zAv S a = some w → 0 ≤ w ∧ w ≤ 1
theorem Small.put {S : Seen} (h : Small S) {a : Int} (hv : ¬ (zAv S a).getD 0 > 0) : Small (putA S a ((zAv S a).getD 0 + 1)):=fun b w hb=>by
  rw [zGr] at hb
  split at hb
  · injection hb with hb;subst hb
    cases hq : zAv S a with
    | none=>simp
    | some v=>rw [hq] at hv;simp only [Option.getD_some] at hv ⊢;have:=h a v hq;omega
  · exact h b w hb
theorem zLX (L : Sto) (v : Int) : ∀ (n : Nat) (t : List Nd) (S : Seen) (r : Bool × Seen),Small S → inF n L v t S = some r → Small r.2
  | 0,_,_,_,_,h=>by cases h
  | n + 1,t,S,r,hS,h=>by
    have ih:=zLX L v n
    rw [zF3] at h
    refine zEt (J:=fun p : Bool × Seen=>Small p.2) (fun p x c hp hc=>?_) hS h
    unfold inS at hc
    split at hc
    · injection hc with hc;subst hc;exact hp
    · split at hc
      · injection hc with hc;subst hc;exact hp
      · rename_i h2
        have h2' : ¬ (zAv p.2 x.num).getD 0 > 0:=fun h=>h2 (.inr h)
        split at hc
        · injection hc with hc;subst hc;exact hp.put h2'
        · exact ih _ _ _ (hp.put h2') hc
attribute [local irreducible] zAO Program.underlying Ylds zA3 alex zBY zBN awp zAm zBT zBe zAx zBA zBP zA2 zBR zBX zBa zBq zBI
abbrev parO (nx : Int) (L : Sto) (v : Int) (S : Seen) : List Ob:=[.bx none none [.mp 6],.bx none none [.d (i64 v)],.bx none none [.clo 173 [0,1,2,3]],.bx none none [.ptr 4 0],.bx none none [.d (i64 nx),.mp 5],.map none (mSto L),.map none (zSY S)]
set_option maxHeartbeats 4000000 in
theorem zNj (nx : Int) (L : Sto) (v : Int) (hL : ∀ p ∈ L,p.2.length ≤ 1000000) : ∀ (n : Nat) (t : List Nd) (S : Seen) (b : Bool) (S' : Seen),Small S → t.length ≤ 1000000 → inF n L v t S = some (b,S') →
    zAx Tryz.prog 173 [.d (zAc t),.ptr 0 0,.ptr 1 0,.ptr 2 0,.ptr 3 0] (parO nx L v S) (.d (bl b)) (parO nx L v S')
  | 0,_,_,_,_,_,_,h=>by cases h
  | n + 1,t,S,b,S',hS,ht,h=>by
    have ih:=zNj nx L v hL n
    have hinv:=h
    rw [zF3] at h
    refine zAw Tryz.func173 rfl Tryz.ntmps173 Tryz.results173 rfl rfl rfl ?_
    intro wb St0 X fx
    repeat' first | apply en_n|apply zAH|apply zAC|apply zAF|apply w0|apply ay (hd:=rfl)|exact zAE rfl|exact zAD rfl|(apply zAr;exact rfl;(with_reducible exact zA7))|apply zAJ
    refine zAs (α:=Nat × Seen) (fun p=>p.1 ≤ t.length ∧ zBc (inS n L v) (false,S) (t.take p.1) = some (false,p.2) ∧ Small p.2) (fun p=>[(1,.ptr 0 0),(2,.ptr 1 0),(3,.ptr 2 0),(4,.ptr 3 0),(9,.d (zAc t)),(10,.d (i64 (t.length : Int))),(11,.d (i64 (p.1 : Int)))])
      (fun p=>[.bx (fx 0) none [.mp 6],.bx (fx 1) none [.d (i64 v)],.bx (fx 2) none [.clo 173 [0,1,2,3]],.bx (fx 3) none [.ptr 4 0],.bx (fx 4) none [.d (i64 nx),.mp 5],.map (fx 5) (mSto L),.map (fx 6) (zSY p.2)]) (fun p=>t.length - p.1) (0,S) ⟨Nat.zero_le _,by simp [zBc],hS⟩
      (zAL (zAA rfl (zAA rfl (zAA rfl (zAA rfl (zAA rfl (Le_d rfl rfl (zAA rfl zAW))))))) (zAB rfl rfl (zAB rfl rfl (zAB rfl rfl (zAB rfl rfl (zAB rfl rfl (zAB rfl rfl (zAB rfl rfl zAK))))))) rfl rfl) ?_
    rintro ⟨i,S1⟩ ⟨hi,hf,hS1⟩
    dsimp only at hi hf hS1 ⊢
    rcases Nat.lt_or_ge i t.length with hlt | hge
    · have hx : t[i]? = some t[i]:=List.getElem?_eq_getElem hlt
      generalize t[i] = x at hx
      obtain ⟨c,hc⟩:=zEr h (i + 1)
      have hst:=zEs hx hf
      rw [hc] at hst
      have fin : ∀ {Q : Nat × Seen → Prop} {S2 : Seen},c = (false,S2) → Small S2 → Q (i + 1,S2) → ∃ y : Nat × Seen,(y.1 ≤ t.length ∧ zBc (inS n L v) (false,S) (t.take y.1) = some (false,y.2) ∧ Small y.2) ∧ t.length - y.1 < t.length - i ∧ Q y :=
        fun {Q S2} he hb hQ=>⟨(i + 1,S2),⟨hlt,by rw [hc,he],hb⟩,by show t.length - (i + 1) < _;omega,hQ⟩
      unfold inS at hst
      simp only [Bool.false_eq_true,if_false] at hst
      have hsm : 0 ≤ (zAv S1 x.num).getD 0 ∧ (zAv S1 x.num).getD 0 ≤ 1:=by
        cases hq : zAv S1 x.num with
        | none=>simp
        | some w=>simpa using hS1 _ _ hq
      by_cases hk : x.kind = 31
      · by_cases hs0 : (zAv S1 x.num).getD 0 > 0
        · rw [if_pos (.inr hs0)] at hst;injection hst with hst
          repeat' first | apply en_n|apply zAH|apply zAC|apply zAF|apply w0|(apply zBK;exact rfl;exact rfl;first|assumption|omega)|(apply zE0;exact rfl;exact rfl;first|assumption|omega)|(apply zBm;exact rfl;exact rfl;first|assumption|omega)|(apply zFH;exact zEo S1 x.num;exact rfl;exact rfl;exact rfl;(with_reducible exact zHm);(with_reducible exact zFK);(with_reducible exact zJE))|(apply aJ (hd:=rfl);(first|exact zAn rfl|exact Co_bb rfl rfl rfl|exact Co_nn rfl);exact rfl;(with_reducible exact zAa);assumption;omega;exact fun _=>rfl)|(apply zBE (hd:=rfl) (hro:=rfl);(with_reducible exact zAp))|apply ay (hd:=rfl)|exact zAE rfl|(apply zAf;exact rfl;(with_reducible exact zAb);exact rfl)|(apply zBG;exact rfl;exact rfl)|exact zAo rfl rfl|(apply zAS;exact rfl;(with_reducible first|exact fn_0|exact fn_2))|(apply zAV;exact rfl;(with_reducible first|exact zNP|exact zAk|exact zB4);exact rfl;exact rfl)|(apply w1;exact rfl;exact rfl)|(refine w0' ?_)|(apply zA0;exact rfl;exact rfl;exact rfl;(with_reducible exact zAb);exact rfl;exact rfl;exact rfl;exact rfl)|(apply zAQ;exact rfl)|apply zAJ|apply zAT|apply zAu|apply en_e|apply eb_e
          · omega
          · exact fin hst hS1 (zAL (zAA rfl (zAA rfl (zAA rfl (zAA rfl (zAA rfl (zAA rfl (zAA rfl zAW))))))) (zAB rfl rfl (zAB rfl rfl (zAB rfl rfl (zAB rfl rfl (zAB rfl rfl (zAB rfl rfl (zAB rfl rfl zAK))))))) rfl rfl)
        · rw [if_neg (by omega)] at hst
          have hS2:=hS1.put hs0
          by_cases hv : x.num = v
          · rw [if_pos hv] at hst;injection hst with hst
            have hr:=zId h (i:=i + 1) (by rw [hc,hst])
            injection hr with e1 e2;subst e1;subst e2
            repeat' first | apply en_n|apply zAH|apply zAC|apply zAF|apply w0|(apply zBK;exact rfl;exact rfl;first|assumption|omega)|(apply zDw;exact rfl;exact rfl;first|assumption|omega)|(apply zBV;exact rfl;exact rfl;first|assumption|omega)|(apply zBm;exact rfl;exact rfl;first|assumption|omega)|(apply zFH;exact zEo S1 x.num;exact rfl;exact rfl;exact rfl;(with_reducible exact zHm);(with_reducible exact zFK);(with_reducible exact zJE))|(apply zG7;exact zFx i64 S1 x.num ((zAv S1 x.num).getD 0 + 1);exact rfl;exact rfl;exact rfl;exact zAn rfl;(with_reducible exact zHm);(with_reducible exact zFK);exact rfl)|(apply aJ (hd:=rfl);(first|exact zAn rfl|exact Co_bb rfl rfl rfl|exact Co_nn rfl);exact rfl;(with_reducible exact zAa);assumption;omega;exact fun _=>rfl)|(apply zBE (hd:=rfl) (hro:=rfl);(with_reducible exact zAp))|apply ay (hd:=rfl)|exact zAE rfl|exact zAD rfl|(apply zAf;exact rfl;(with_reducible exact zAb);exact rfl)|(apply zBG;exact rfl;exact rfl)|exact zAq rfl rfl|exact zAo rfl rfl|(apply zAS;exact rfl;(with_reducible first|exact fn_0|exact fn_2))|(apply zAV;exact rfl;(with_reducible first|exact zNP|exact zAk|exact zB4);exact rfl;exact rfl)|(apply w1;exact rfl;exact rfl)|(apply k0 (hd:=rfl);exact rfl;exact rfl)|(refine w0' ?_)|(apply zA0;exact rfl;exact rfl;exact rfl;(with_reducible exact zAb);exact rfl;exact rfl;exact rfl;exact rfl)|(apply zAQ;exact rfl)|(apply zAU;exact rfl)|apply zAJ|apply zAT|apply zAN|refine zBQ (by kernel_rfl) (by kernel_rfl) ?_|apply en_r|apply eb_r
            · omega
            · exact zAh (zAL (zAA rfl zAW) (zAB rfl rfl (zAB rfl rfl (zAB rfl rfl (zAB rfl rfl (zAB rfl rfl (zAB rfl rfl (zAB rfl rfl zAK))))))) rfl rfl)
          · rw [if_neg hv] at hst
            obtain ⟨b2,S2⟩:=c
            have hu : ((zAv L x.num).getD []).length ≤ 1000000:=by
              cases hq : zAv L x.num with
              | none=>simp
              | some u=>exact hL _ (zFc hq)
            have hc':=ih _ _ b2 S2 hS2 hu hst.symm
            have hS3:=zLX L v n _ _ _ hS2 hst.symm
            repeat' first | apply en_n|apply zAH|apply zAC|apply zAF|apply w0|(apply zBK;exact rfl;exact rfl;first|assumption|omega)|(apply zDw;exact rfl;exact rfl;first|assumption|omega)|(apply zBW;exact rfl;exact rfl;first|assumption|omega)|(apply zBm;exact rfl;exact rfl;first|assumption|omega)|exact zAe rfl|(apply zFH;exact zEo S1 x.num;exact rfl;exact rfl;exact rfl;(with_reducible exact zHm);(with_reducible exact zFK);(with_reducible exact zJE))|(apply zG7;exact zFx i64 S1 x.num ((zAv S1 x.num).getD 0 + 1);exact rfl;exact rfl;exact rfl;exact zAn rfl;(with_reducible exact zHm);(with_reducible exact zFK);exact rfl)|(apply zFH;exact (zGo L x.num).1;exact rfl;exact rfl;exact rfl;(with_reducible exact zHn);(with_reducible exact zEj);(with_reducible exact zDx))|(refine zDF (by kernel_rfl) ?_;refine zRW [0,1,2,3,4,5,6] [0,1,2,3] rfl rfl zN0 (hc') rfl ?_ rfl rfl (by decide) rfl rfl rfl rfl rfl rfl ?_;(repeat (refine zAI rfl ?_));exact zAM)|(apply aJ (hd:=rfl);(first|exact zAn rfl|exact Co_bb rfl rfl rfl|exact Co_nn rfl);exact rfl;(with_reducible exact zAa);assumption;omega;exact fun _=>rfl)|(apply zBE (hd:=rfl) (hro:=rfl);(with_reducible exact zAp))|apply ay (hd:=rfl)|exact zAE rfl|exact zAD rfl|(apply zAf;exact rfl;(with_reducible exact zAb);exact rfl)|(apply zBG;exact rfl;exact rfl)|exact zAo rfl rfl|(apply zAS;exact rfl;(with_reducible first|exact fs_1|exact fn_0|exact fn_2))|(apply zAV;exact rfl;(with_reducible first|exact zFT|exact zNP|exact zVE|exact zUD|exact zAk|exact zB4);exact rfl;exact rfl)|(apply w1;exact rfl;exact rfl)|(refine w0' ?_)|(apply zA0;exact rfl;exact rfl;exact rfl;(with_reducible exact zAb);exact rfl;exact rfl;exact rfl;exact rfl)|(apply zAQ;exact rfl)|(apply zAU;exact rfl)|(apply zDB;exact rfl;(intro hb);rotate_left;(intro hb);rotate_right)|apply zAJ|apply zAT|apply zAN|refine zBQ (by kernel_rfl) (by kernel_rfl) ?_|apply en_r|apply eb_n|apply eb_r
            · omega
            · subst hb
              have hr:=zId h (i:=i + 1) hc
              injection hr with e1 e2;subst e1;subst e2
              exact zAh (zAL (zAA rfl zAW) (zAB rfl rfl (zAB rfl rfl (zAB rfl rfl (zAB rfl rfl (zAB rfl rfl (zAB rfl rfl (zAB rfl rfl zAK))))))) rfl rfl)
            · omega
            · subst hb
              exact fin rfl hS3 (zAL (zAA rfl (zAA rfl (zAA rfl (zAA rfl (zAA rfl (zAA rfl (zAA rfl zAW))))))) (zAB rfl rfl (zAB rfl rfl (zAB rfl rfl (zAB rfl rfl (zAB rfl rfl (zAB rfl rfl (zAB rfl rfl zAK))))))) rfl rfl)
      · rw [if_pos (.inl hk)] at hst;injection hst with hst
        repeat' first | apply en_n|apply zAH|apply zAC|apply zAF|apply w0|(apply k0u (hd:=rfl);exact rfl;exact rfl)|(apply zBK;exact rfl;exact rfl;first|assumption|omega)|(apply zCT;exact rfl;exact rfl;first|assumption|omega)|(apply aJ (hd:=rfl);(first|exact zAn rfl|exact Co_bb rfl rfl rfl|exact Co_nn rfl);exact rfl;(with_reducible exact zAa);assumption;omega;exact fun _=>rfl)|(apply zBE (hd:=rfl) (hro:=rfl);(with_reducible exact zAp))|apply ay (hd:=rfl)|exact zAE rfl|(apply zAf;exact rfl;(with_reducible exact zAb);exact rfl)|(apply zBG;exact rfl;exact rfl)|exact zAq rfl rfl|(apply zAS;exact rfl;(with_reducible exact fn_0))|(apply zAV;exact rfl;(with_reducible exact zAk);exact rfl;exact rfl)|(refine w0' ?_)|(apply zA0;exact rfl;exact rfl;exact rfl;(with_reducible exact zAb);exact rfl;exact rfl;exact rfl;exact rfl)|(apply zAQ;exact rfl)|apply zAJ|apply zAT|apply zAu|apply en_e|apply eb_e
        · omega
        · exact fin hst hS1 (zAL (zAA rfl (zAA rfl (zAA rfl (zAA rfl (zAA rfl (zAA rfl (zAA rfl zAW))))))) (zAB rfl rfl (zAB rfl rfl (zAB rfl rfl (zAB rfl rfl (zAB rfl rfl (zAB rfl rfl (zAB rfl rfl zAK))))))) rfl rfl)
    · have e : (false,S1) = (b,S'):=by rw [List.take_of_length_le hge,h] at hf;injection hf with hf;exact hf.symm
      injection e with e1 e2;subst e1;subst e2
      repeat' first | apply en_n|apply zAH|apply zAC|apply zAF|apply w0|(apply zCJ;exact rfl;exact rfl;first|assumption|omega)|apply ay (hd:=rfl)|exact zAD rfl|(apply zAU;exact rfl)|apply zAN|apply zAu|apply en_e|apply eb_e
      exact zAh (zAL (zAA rfl zAW) (zAB rfl rfl (zAB rfl rfl (zAB rfl rfl (zAB rfl rfl (zAB rfl rfl (zAB rfl rfl (zAB rfl rfl zAK))))))) rfl rfl)
set_option maxHeartbeats 8000000 in
theorem zQD (nx : Int) (L : Sto) (v : Int) (hL : ∀ p ∈ L,p.2.length ≤ 1000000) (n : Nat) (t : List Nd) (b : Bool) (S' : Seen) (ht : t.length ≤ 1000000) (h : inF n L v t [] = some (b,S')) :
    zAx Tryz.prog 158 [.ptr 0 0,.d (i64 v),.d (zAc t)] (stO nx L) (.d (bl b)) (stO nx L):=by
  refine zAw Tryz.func158 rfl Tryz.ntmps158 Tryz.results158 rfl rfl rfl ?_
  intro wb St0 X fx
  have hc:=zNj nx L v hL n t [] b S' (fun a w h=>by cases h) ht h
  repeat' first | apply en_n|apply zAH|apply zAC|apply zAF|apply w0|(apply zG8 (hd:=rfl) (hro:=rfl);(with_reducible exact zHm);(with_reducible exact zFK))|(refine zRW [5,3,6,2,0,1,4] [0,1,2,3] rfl rfl zN0 (hc) rfl ?_ rfl rfl (by decide) rfl rfl rfl rfl rfl rfl ?_;(repeat (refine zAI rfl ?_));exact zAM)|(apply aBox (hd:=rfl) (hro:=rfl);exact rfl;exact rfl)|(apply zBE (hd:=rfl) (hro:=rfl);(with_reducible first|exact zU7|exact zVA))|apply ay (hd:=rfl)|exact zAE rfl|exact zAD rfl|(apply zAV;exact rfl;(with_reducible exact zUD);exact rfl;exact rfl)|exact zGV rfl|(refine w0' ?_)|(apply zA0;exact rfl;exact rfl;exact rfl;(with_reducible first|exact zNP|exact zUD);exact rfl;exact rfl;exact rfl;exact rfl)|apply zAN
  exact zAh (zAL (zAA rfl zAW) (zAB rfl rfl (zAB rfl rfl zAK)) rfl rfl)
end Go.Proofs.YtblomnkamngnbaaGreatDoor

/- Texts of this claim, merged: RefB. -/
import Derived.Test.YtblomnkamngnbaaGreatDoorMBL
import Derived.Test.YtblomnkamngnbaaGreatDoorMBP
import Derived.Test.YtblomnkamngnbaaGreatDoorMBQ
namespace Go.Proofs.YtblomnkamngnbaaGreatDoor
open Go.Sx
attribute [local irreducible] zAT Program.underlying Ylds zBA alex zBe zBP awp zAj zBZ zBk zA2 zBH zBR zA8 zBV zBb zBf zBu zBO
theorem zPJ (L : List Nd) (n : Nat) (x y : Nd) (kx : Int) (pat : Bool) (hx : L[n]? = some x) (hy : x.kind = 8 → L[n + 1]? = some y ∧ y.kind = kx) (hlen : n < 2000000) (ht : x.text.length ≤ 1000000)
    (hok : okK x.kind = true) (hp : patK x.kind = pat) (hc : cntK x.kind x.kids = true) :
    zAj Tryz.prog 45 [zAc L,i64 (n : Int),bl pat] (i64 (genE (numK x.kind) (decide (x.kind = 2)) (if namK x.kind = true then some (zDe x.text) else if x.kind = 4 ∨ x.kind = 24 then some (conF x.text) else none) pat true pat x (x.kind = 8 ∧ kx ≠ 5))):=by
  have hs:=zH8 x.kind
  have hi:=zGz x.kind
  have hk:=zKr x.kind x.kids
  have hN:=zKt x.text ht
  have hC:=zJr x.text ht
  have hW:=zMx x.num
  rw [hp] at hi
  rw [hc] at hk
  have hcl : (x.kind = 1 ∨ x.kind = 23) ∨ (x.kind = 6 ∨ x.kind = 9 ∨ x.kind = 10 ∨ x.kind = 11 ∨ x.kind = 21) ∨ (x.kind = 3 ∨ x.kind = 5 ∨ x.kind = 7 ∨ x.kind = 12 ∨ x.kind = 22) ∨ x.kind = 8 ∨ (x.kind = 4 ∨ x.kind = 24) ∨ x.kind = 2:=by
    have:=zGO hok;omega
  have e8 : ∀ {a b : Bool} {m : Option Bool} {p q : Prop} [Decidable p] [Decidable q],(p ↔ q) → genE a b m pat true pat x p = genE a b m pat true pat x q:=fun {a b m p q _ _} h=>by
    unfold genE;simp only [h]
  have key : ∀ (nu b2 : Bool) (m : Option Bool),numK x.kind = nu → decide (x.kind = 2) = b2 → (if namK x.kind = true then some (zDe x.text) else if x.kind = 4 ∨ x.kind = 24 then some (conF x.text) else none) = m →
      (i64 (genE (numK x.kind) (decide (x.kind = 2)) (if namK x.kind = true then some (zDe x.text) else if x.kind = 4 ∨ x.kind = 24 then some (conF x.text) else none) pat true pat x (x.kind = 8 ∧ kx ≠ 5))) = i64 (genE nu b2 m pat true pat x (x.kind = 8 ∧ kx ≠ 5)):=fun nu b2 m h2 h3 h4=>by rw [h2,h3,h4]
  have nk : ∀ {p : Prop},(namK x.kind = true ↔ (x.kind = 3 ∨ x.kind = 5 ∨ x.kind = 7 ∨ x.kind = 8 ∨ x.kind = 12 ∨ x.kind = 22)):=fun {p}=>by rw [namK,decide_eq_true_eq]
  have nk:=@nk True
  rcases hcl with h | h | h | h | h | h
  · have es : zEr x.kind = 0:=by rw [zEr,if_pos (by omega)]
    rw [key true false none (by rw [numK];exact decide_eq_true (by omega)) (decide_eq_false (by omega)) (by rw [if_neg (by rw [nk];omega),if_neg (by omega)]),e8 (q:=False) ⟨fun c=>by omega,False.elim⟩]
    rw [es] at hs
    exact zRR L n x y kx pat _ _ hx hlen h hp hs hi hk hN hC hW
  · have es : zEr x.kind = 0:=by rw [zEr,if_pos (by omega)]
    rw [key false false none (by rw [numK];exact decide_eq_false (by omega)) (decide_eq_false (by omega)) (by rw [if_neg (by rw [nk];omega),if_neg (by omega)]),e8 (q:=False) ⟨fun c=>by omega,False.elim⟩]
    rw [es] at hs
    exact zRQ L n x y kx pat _ _ hx hlen h hp hs hi hk hN hC hW
  · have es : zEr x.kind = 1:=by rw [zEr,if_neg (by omega),if_pos (nk.2 (by omega))]
    rw [key false false (some (zDe x.text)) (by rw [numK];exact decide_eq_false (by omega)) (decide_eq_false (by omega)) (by rw [if_pos (nk.2 (by omega))]),e8 (q:=False) ⟨fun c=>by omega,False.elim⟩]
    rw [es] at hs
    exact zRP L n x y kx pat _ _ hx hlen h hp hs hi hk hN hC hW
  · have es : zEr x.kind = 1:=by rw [zEr,if_neg (by omega),if_pos (nk.2 (by omega))]
    rw [key false false (some (zDe x.text)) (by rw [numK];exact decide_eq_false (by omega)) (decide_eq_false (by omega)) (by rw [if_pos (nk.2 (by omega))]),e8 (q:=kx ≠ 5) ⟨fun c=>c.2,fun c=>⟨h,c⟩⟩]
    rw [es] at hs
    obtain ⟨hy1,hy2⟩:=hy h
    exact zRO L n x y kx pat _ _ hx hy1 hy2 hlen h hp hs hi hk hN hC hW
  · have es : zEr x.kind = 2:=by rw [zEr,if_neg (by omega),if_neg (by rw [nk];omega),if_pos h]
    rw [key false false (some (conF x.text)) (by rw [numK];exact decide_eq_false (by omega)) (decide_eq_false (by omega)) (by rw [if_neg (by rw [nk];omega),if_pos h]),e8 (q:=False) ⟨fun c=>by omega,False.elim⟩]
    rw [es] at hs
    exact zRN L n x y kx pat _ _ hx hlen h hp hs hi hk hN hC hW
  · have es : zEr x.kind = 3:=by rw [zEr,if_neg (by omega),if_neg (by rw [nk];omega),if_neg (by omega),if_pos h]
    rw [key false true none (by rw [numK];exact decide_eq_false (by omega)) (decide_eq_true h) (by rw [if_neg (by rw [nk];omega),if_neg (by omega)]),e8 (q:=False) ⟨fun c=>by omega,False.elim⟩]
    rw [es] at hs
    exact zRM L n x y kx pat _ _ hx hlen h hp hs hi hk hN hC hW
set_option maxHeartbeats 4000000 in
theorem zKq (L : List Nd) (n : Nat) (x y : Nd) (kx : Int) (pat : Bool) (hx : L[n]? = some x) (hy : x.kind = 8 → cntK x.kind x.kids = true → L[n + 1]? = some y ∧ y.kind = kx) (hlen : n < 2000000) (ht : x.text.length ≤ 1000000) :
    zAj Tryz.prog 45 [zAc L,i64 (n : Int),bl pat] (i64 (zEG x kx pat)):=by
  by_cases hok : okK x.kind = true
  · by_cases hpc : patK x.kind = pat ∧ cntK x.kind x.kids = true
    · rw [zPw x kx pat hok,hpc.1,hpc.2]
      exact zPJ L n x y kx pat hx (fun h8=>hy h8 hpc.2) hlen ht hok hpc.1 hpc.2
    · have e : zEG x kx pat = 61:=by
        rw [zEG,if_pos]
        by_cases c : patK x.kind = pat
        · exact .inr (.inr (Bool.eq_false_iff.2 fun d=>hpc ⟨c,d⟩))
        · exact .inr (.inl c)
      rw [e]
      have hs:=zH8 x.kind
      have hi:=zGz x.kind
      have hk:=zKr x.kind x.kids
      have hs0 : 0 ≤ zEr x.kind:=by
        rcases zGO hok with h | h | h | h | h | h | h | h | h | h | h | h | h | h | h | h <;> rw [h] <;> decide
      generalize zEr x.kind = s at *
      generalize patK x.kind = kp at *
      generalize cntK x.kind x.kids = r at *
      clear hy
      cases kp <;> cases pat <;> cases r
      all_goals first
        | exact absurd ⟨rfl,rfl⟩ hpc
        | skip
      all_goals
        refine zAd Tryz.func45 rfl Tryz.ntmps45 Tryz.results45 rfl ?_
        intro wb St0
        repeat' first | apply en_n|apply zAH|apply zAB|apply zAF|apply w0|(apply kUd (hd:=rfl);exact rfl;exact rfl)|(apply k0ud (hd:=rfl);exact rfl;exact rfl)|(apply k0u (hd:=rfl);exact rfl;exact rfl)|(apply zBq;exact rfl;exact rfl;(first|assumption|omega))|(apply zFS;exact rfl;exact rfl;with_reducible exact zGE)|(refine zAV zC9 hs (zAX rfl zAG))|(refine zAV zD9 hk (zAX rfl (zAX rfl zAG)))|(refine zAV zC1 hi (zAX rfl zAG))|(apply aJ (hd:=rfl);(first|exact zAk rfl|exact Co_bb rfl rfl rfl|exact Co_nn rfl);exact rfl;(with_reducible exact zAW);assumption;omega;exact fun _=>rfl)|(apply zA4 (hd:=rfl) (hro:=rfl);(with_reducible exact zAp))|apply ay (hd:=rfl)|exact zAE rfl|exact zAC rfl|(apply zAf;exact rfl;(with_reducible exact zAY);exact rfl)|exact zC6 rfl rfl|exact zBr rfl|exact zAi rfl rfl|exact zAh rfl rfl|(apply zAR;exact rfl;(with_reducible first|exact fn_0|exact fn_3))|(apply zAU;exact rfl;(with_reducible first|exact zAs|exact zAe);exact rfl;exact rfl)|(apply w1;exact rfl;exact rfl)|(apply gD;exact rfl;exact rfl;(intro hb);rotate_left;(intro hb);rotate_right)|(refine w0' ?_)|(apply zAx;exact rfl;exact rfl;exact rfl;(with_reducible exact zAY);exact rfl;exact rfl;exact rfl;exact rfl)|(apply zAK;exact rfl)|apply zAM|refine zA6 (by kernel_rfl) (by kernel_rfl) ?_|apply en_r|apply zAJ|(apply res1;exact rfl)
      all_goals rfl
  · have e : zEG x kx pat = 61:=by rw [zEG,if_pos (.inl (by simpa using hok))]
    rw [e]
    have hs:=zH8 x.kind
    have hs0 : zEr x.kind = -1:=by
      rcases zIJ x.kind with h | ⟨_,h⟩
      · exact absurd (by rcases h with h | h | h | h | h | h | h | h | h | h | h | h | h | h | h | h <;> rw [h] <;> rfl) hok
      · unfold zEr namK
        rw [if_neg (by omega),if_neg (by rw [decide_eq_true_eq];omega),if_neg (by omega),if_neg (by omega)]
    rw [hs0] at hs
    clear hy
    refine zAd Tryz.func45 rfl Tryz.ntmps45 Tryz.results45 rfl ?_
    intro wb St0
    by_cases hn : x.kind = 1
    · skip
      repeat' first | apply en_n|apply zAH|apply zAB|apply zAF|apply w0|(apply kUd (hd:=rfl);exact rfl;exact rfl)|(apply k0ud (hd:=rfl);exact rfl;exact rfl)|(apply k0u (hd:=rfl);exact rfl;exact rfl)|(apply zA5;exact rfl;exact rfl;first|assumption|omega)|(apply zBD;exact rfl;exact rfl;first|assumption|omega)|(refine zAV zC9 hs (zAX rfl zAG))|(apply aJ (hd:=rfl);(first|exact zAk rfl|exact Co_bb rfl rfl rfl|exact Co_nn rfl);exact rfl;(with_reducible exact zAW);assumption;omega;exact fun _=>rfl)|(apply zA4 (hd:=rfl) (hro:=rfl);(with_reducible exact zAp))|apply ay (hd:=rfl)|exact zAE rfl|exact zAC rfl|(apply zAf;exact rfl;(with_reducible exact zAY);exact rfl)|exact zAi rfl rfl|(apply zAR;exact rfl;(with_reducible exact fn_0))|(apply zAU;exact rfl;(with_reducible exact zAe);exact rfl;exact rfl)|(refine w0' ?_)|(apply zAx;exact rfl;exact rfl;exact rfl;(with_reducible exact zAY);exact rfl;exact rfl;exact rfl;exact rfl)|(apply zAK;exact rfl)|apply zAM|refine zA6 (by kernel_rfl) (by kernel_rfl) ?_|apply en_r|apply zAJ|(apply res1;exact rfl)
      all_goals rfl
    · by_cases hn2 : x.kind = 23
      · skip
        repeat' first | apply en_n|apply zAH|apply zAB|apply zAF|apply w0|(apply kUd (hd:=rfl);exact rfl;exact rfl)|(apply k0ud (hd:=rfl);exact rfl;exact rfl)|(apply zA5;exact rfl;exact rfl;first|assumption|omega)|(apply zBD;exact rfl;exact rfl;first|assumption|omega)|(apply zA9;exact rfl;exact rfl;first|assumption|omega)|(refine zAV zC9 hs (zAX rfl zAG))|(apply aJ (hd:=rfl);(first|exact zAk rfl|exact Co_bb rfl rfl rfl|exact Co_nn rfl);exact rfl;(with_reducible exact zAW);assumption;omega;exact fun _=>rfl)|(apply zA4 (hd:=rfl) (hro:=rfl);(with_reducible exact zAp))|apply ay (hd:=rfl)|exact zAE rfl|exact zAC rfl|(apply zAf;exact rfl;(with_reducible exact zAY);exact rfl)|exact zAi rfl rfl|exact zAh rfl rfl|(apply zAR;exact rfl;(with_reducible exact fn_0))|(apply zAU;exact rfl;(with_reducible exact zAe);exact rfl;exact rfl)|(apply w1;exact rfl;exact rfl)|(refine w0' ?_)|(apply zAx;exact rfl;exact rfl;exact rfl;(with_reducible exact zAY);exact rfl;exact rfl;exact rfl;exact rfl)|(apply zAK;exact rfl)|apply zAM|refine zA6 (by kernel_rfl) (by kernel_rfl) ?_|apply en_r|apply zAJ|(apply res1;exact rfl)
        all_goals rfl
      · skip
        repeat' first | apply en_n|apply zAH|apply zAB|apply zAF|apply w0|(apply kUd (hd:=rfl);exact rfl;exact rfl)|(apply k0ud (hd:=rfl);exact rfl;exact rfl)|(apply zA5;exact rfl;exact rfl;first|assumption|omega)|(apply zA9;exact rfl;exact rfl;first|assumption|omega)|(refine zAV zC9 hs (zAX rfl zAG))|(apply aJ (hd:=rfl);(first|exact zAk rfl|exact Co_bb rfl rfl rfl|exact Co_nn rfl);exact rfl;(with_reducible exact zAW);assumption;omega;exact fun _=>rfl)|(apply zA4 (hd:=rfl) (hro:=rfl);(with_reducible exact zAp))|apply ay (hd:=rfl)|exact zAE rfl|exact zAC rfl|(apply zAf;exact rfl;(with_reducible exact zAY);exact rfl)|exact zAi rfl rfl|exact zAh rfl rfl|(apply zAR;exact rfl;(with_reducible exact fn_0))|(apply zAU;exact rfl;(with_reducible exact zAe);exact rfl;exact rfl)|(apply w1;exact rfl;exact rfl)|(refine w0' ?_)|(apply zAx;exact rfl;exact rfl;exact rfl;(with_reducible exact zAY);exact rfl;exact rfl;exact rfl;exact rfl)|(apply zAK;exact rfl)|apply zAM|refine zA6 (by kernel_rfl) (by kernel_rfl) ?_|apply en_r|apply zAJ|(apply res1;exact rfl)
        all_goals rfl
end Go.Proofs.YtblomnkamngnbaaGreatDoor

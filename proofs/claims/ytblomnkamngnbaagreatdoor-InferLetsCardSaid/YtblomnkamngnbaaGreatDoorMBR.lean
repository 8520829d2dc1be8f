/- Texts of this claim, merged: TypL, TypM. -/
import Derived.Test.YtblomnkamngnbaaGreatDoorMAP
namespace Go.Proofs.YtblomnkamngnbaaGreatDoor
open Go.Sx
attribute [local irreducible] zAO Program.underlying Ylds zA3 alex zBY zBN awp zAm zBT zBe zAx zBA zBP zA2 zBR zBX zBa zBq zBI
abbrev shO (L : List Nd) (i : Int) : List Ob:=[.bx none none [.d (zAc L)],.bx none none [.d (i64 i)]]
set_option maxHeartbeats 2000000 in
theorem zJz (f : FuncId) (p : Nd → Bool) (hbf : zAO Tryz.prog f = true) (hp : ∀ n,zAm Tryz.prog f [n.av] (bl (p n))) (L : List Nd) (i j : Nat) (y : Nd) (s : List UInt8) (hy : L[i]? = some y) (hs : s.length ≤ 100000000) (_hj : j ≤ 2000000) (hi : i ≤ 2000000)
    (hc : zAm Tryz.prog 41 [zAc L,i64 (i : Int)] (.tup [str s,i64 (j : Int)])) :
    zAx Tryz.prog 74 [.clo f [],.ptr 0 0,.ptr 1 0] (shO L i) (.d (str (if p y then 40 :: s ++ [41] else s))) (shO L j):=by
  refine zAw Tryz.func74 rfl Tryz.ntmps74 Tryz.results74 rfl rfl rfl ?_
  intro wb St0 X fx
  cases hpy : p y with
  | true =>
    have hpc:=hp y;rw [hpy] at hpc
    repeat' first | apply en_n|apply zAH|apply zAC|apply zAF|apply w0|exact zA8 rfl|(apply zAX (hb:=zMq) (hc:=hc))|(apply zML (hb:=hbf) (hc:=hpc);exact rfl)|(apply zKr;exact rfl;exact rfl;simp only [List.length_append,List.length_cons,List.length_nil];omega)|(apply aJ (hd:=rfl);(first|exact zAn rfl|exact Co_bb rfl rfl rfl|exact Co_nn rfl);exact rfl;(with_reducible exact zAa);assumption;omega;exact fun _=>rfl)|(apply zBE (hd:=rfl) (hro:=rfl);(with_reducible exact zAp))|apply ay (hd:=rfl)|exact zAE rfl|exact zAD rfl|(apply zAf;exact rfl;(with_reducible exact zAb);exact rfl)|exact zBM rfl rfl|(apply zAV;exact rfl;(with_reducible first|exact zAz|exact zAg);exact rfl;exact rfl)|(apply zC1;exact rfl;(with_reducible exact zAb);exact rfl;exact rfl;exact rfl)|(refine w0' ?_)|(apply zA0;exact rfl;exact rfl;exact rfl;(with_reducible first|exact zAz|exact zAb);exact rfl;exact rfl;exact rfl;exact rfl)|(apply zAQ;exact rfl)|apply zAN|apply en_r|exact zAG|refine zAZ rfl ?_
    exact zAh (zAL (Le_d rfl (by simp) zAW) (zAB rfl rfl (zAB rfl rfl zAK)) rfl rfl)
  | false =>
    have hpc:=hp y;rw [hpy] at hpc
    repeat' first | apply en_n|apply zAH|apply zAC|apply zAF|apply w0|exact zA8 rfl|(apply zAX (hb:=zMq) (hc:=hc))|(apply zML (hb:=hbf) (hc:=hpc);exact rfl)|(apply aJ (hd:=rfl);(first|exact zAn rfl|exact Co_bb rfl rfl rfl|exact Co_nn rfl);exact rfl;(with_reducible exact zAa);assumption;omega;exact fun _=>rfl)|(apply zBE (hd:=rfl) (hro:=rfl);(with_reducible exact zAp))|apply ay (hd:=rfl)|exact zAE rfl|exact zAD rfl|(apply zAf;exact rfl;(with_reducible exact zAb);exact rfl)|exact zBM rfl rfl|(apply zAV;exact rfl;(with_reducible first|exact zAz|exact zAg);exact rfl;exact rfl)|(apply zC1;exact rfl;(with_reducible exact zAb);exact rfl;exact rfl;exact rfl)|(refine w0' ?_)|(apply zA0;exact rfl;exact rfl;exact rfl;(with_reducible first|exact zAz|exact zAb);exact rfl;exact rfl;exact rfl;exact rfl)|(apply zAU;exact rfl)|apply zAT|apply zAN|exact zAG|refine zAZ rfl ?_
    exact zAh (zAL (Le_d rfl (by simp) zAW) (zAB rfl rfl (zAB rfl rfl zAK)) rfl rfl)
end Go.Proofs.YtblomnkamngnbaaGreatDoor
namespace Go.Proofs.YtblomnkamngnbaaGreatDoor
open Go.Sx
theorem zEz {f : Nat → Option (List UInt8 × Nat)} {L : List Nd} {p : Nd → Bool} {i j : Nat} {u : List UInt8} (h : argF f L p i = some (u,j)) : ∃ y s,L[i]? = some y ∧ f i = some (s,j) ∧ u = (if p y then 40 :: s ++ [41] else s):=by
  unfold argF at h
  split at h
  · rename_i y s k hy hs
    injection h with h;injection h with h1 h2;subst h1;subst h2
    exact ⟨y,s,hy,hs,rfl⟩
  · cases h
theorem zGf (L : List Nd) : ∀ (n i : Nat) (u : List UInt8) (j : Nat),zHk n L i = some (u,j) → i < j ∧ j ≤ L.length
  | 0,_,_,_,h=>by cases h
  | n + 1,i,u,j,h=>by
    have ih:=zGf L n
    unfold zHk at h
    split at h
    · cases h
    · rename_i x hx
      have hi:=(List.getElem?_eq_some_iff.1 hx).1
      split at h
      · injection h with h;injection h with h1 h2;omega
      · split at h
        · split at h
          · rename_i u1 j1 h1
            split at h
            · rename_i u2 j2 h2
              injection h with h;injection h with h3 h4;subst h4
              obtain ⟨_,_,_,q1,_⟩:=zEz h1
              obtain ⟨_,_,_,q2,_⟩:=zEz h2
              have:=ih _ _ _ q1;have:=ih _ _ _ q2;omega
            · cases h
          · cases h
        · have:=zEt (J:=fun p : List UInt8 × Nat=>i < p.2 ∧ p.2 ≤ L.length) (fun b x c hb hc=>by
            split at hc
            · rename_i u1 j1 h1
              injection hc with hc;subst hc
              obtain ⟨_,_,_,q1,_⟩:=zEz h1
              have:=ih _ _ _ q1
              simp only
              omega
            · cases hc) ⟨by simp,by simp only;omega⟩ h
          exact this
end Go.Proofs.YtblomnkamngnbaaGreatDoor

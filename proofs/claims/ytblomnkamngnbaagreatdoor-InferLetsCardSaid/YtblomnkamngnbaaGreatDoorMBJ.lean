/- Texts of this claim, merged: InfM. -/
import Derived.Test.YtblomnkamngnbaaGreatDoorMAB
import Derived.Test.YtblomnkamngnbaaGreatDoorMBI
namespace Go.Proofs.YtblomnkamngnbaaGreatDoor
open Go.Sx
abbrev tslN (N : List Lc) : D:=.tsl (N.map Lc.av)
abbrev bufN (N : List Lc) : Ob:=.buf false 91 3 (N.map Lc.av)
abbrev lnN (N : List Lc) : Nat:=(N.map Lc.av).length
structure Ask (E : List Sg) (N : List Lc) (S : TS) (k : Nat) : Prop where
  e : E.length ≤ 1000000
  t : ∀ s ∈ E,s.ty.length ≤ 10000
  n : N.length + k ≤ 100000
  ok : LcsOk N
  st : StoB S.st
  nx : 0 ≤ S.nx ∧ S.nx + 5000 * k ≤ 2000000000000
structure PatOk (L : List Nd) (E : List Sg) (q m : Nat) : Prop where
  a : ∀ (n : Nat) (p : Tr) (N N' : List Lc) (S S' : TS) (r : List Nd),p.sz ≤ m → At L n p → p.werr true = 0 → Ask E N S p.sz → p.patS q E N S = some (r,N',S') → p.pv = 0 →
    zAx Tryz.prog 70 [.ptr 0 0,.d (i64 (n : Int)),.d (tslN N)] (tyO L E S) (.pair (.d (zAc r)) (.d (tslN N))) (tyO L E S')
  b : ∀ (n : Nat) (p : Tr) (N N' : List Lc) (S S' : TS) (r : List Nd),p.sz ≤ m → At L n p → p.werr true = 0 → Ask E N S p.sz → p.patS q E N S = some (r,N',S') → p.pv ≠ 0 →
    zAx Tryz.prog 70 [.ptr 0 0,.d (i64 (n : Int)),.d (tslN N)] (tyO L E S ++ [bufN []]) (.pair (.d (zAc r)) (.buf 3 (lnN N'))) (tyO L E S' ++ [bufN N'])
  c : ∀ (n : Nat) (p : Tr) (N N' : List Lc) (S S' : TS) (r : List Nd),p.sz ≤ m → At L n p → p.werr true = 0 → Ask E N S p.sz → p.patS q E N S = some (r,N',S') →
    zAx Tryz.prog 70 [.ptr 0 0,.d (i64 (n : Int)),.buf 3 (lnN N)] (tyO L E S ++ [bufN N]) (.pair (.d (zAc r)) (.buf 3 (lnN N'))) (tyO L E S' ++ [bufN N'])
theorem zQA {x : Nd} {ks : List Tr} (hw : (Tr.mk x ks).werr true = 0) : (21 ≤ x.kind ∧ x.kind ≤ 24) ∧ cntK x.kind x.kids = true:=by
  have h1:=zCv (zDC hw).1
  exact ⟨by simpa [patK] using h1.2.1,h1.2.2⟩
section
variable {q : Nat} {E : List Sg} {x : Nd} {N N' : List Lc} {S S' : TS} {r : List Nd} {ks : List Tr}
theorem zVL (hk : x.kind = 23) (h : (Tr.mk x ks).patS q E N S = some (r,N',S')) : r = zBC intT ∧ N' = N ∧ S' = S:=by
  rw [Tr.patS,if_pos hk] at h
  injection h with h;injection h with e1 e2;injection e2 with e2 e3;exact ⟨e1.symm,e2.symm,e3.symm⟩
theorem zVN (hk : x.kind = 21) (h : (Tr.mk x ks).patS q E N S = some (r,N',S')) : r = varN S.nx ∧ N' = N ∧ S' = zB7 S:=by
  rw [Tr.patS,if_neg (by omega),if_pos hk] at h
  injection h with h;injection h with e1 e2;injection e2 with e2 e3;exact ⟨e1.symm,e2.symm,e3.symm⟩
theorem zVM (hk : x.kind = 22) (h : (Tr.mk x ks).patS q E N S = some (r,N',S')) : r = varN S.nx ∧ N' = N ++ [⟨x.text,varN S.nx,[]⟩] ∧ S' = zB7 S:=by
  rw [Tr.patS,if_neg (by omega),if_neg (by omega),if_pos hk] at h
  injection h with h;injection h with e1 e2;injection e2 with e2 e3;exact ⟨e1.symm,e2.symm,e3.symm⟩
theorem zVK (hk : x.kind = 24) (h : (Tr.mk x ks).patS q E N S = some (r,N',S')) : ∃ c S1,zHj E S x.text = some (c,S1) ∧ patL q E (zBp c).1 ks N S1 = some (N',S') ∧ r = (zBp c).2:=by
  rw [Tr.patS,if_neg (by omega),if_neg (by omega),if_neg (by omega)] at h
  split at h
  · rename_i c S1 h1
    split at h
    · rename_i N2 S2 h2
      injection h with h;injection h with e1 e2;injection e2 with e2 e3;subst e1;subst e2;subst e3
      exact ⟨c,S1,h1,h2,rfl⟩
    · cases h
  · cases h
theorem zQB {A : List (List Nd)} {i : Nat} {k : Tr} (hk : ks[i]? = some k) (h : patL q E (A.drop i) (ks.drop i) N S = some (N',S')) : ∃ a t N1 S1 S2,A[i]? = some a ∧ k.patS q E N S = some (t,N1,S1) ∧ zCy q S1 t a = some S2 ∧ patL q E (A.drop (i + 1)) (ks.drop (i + 1)) N1 S2 = some (N',S'):=by
  obtain ⟨hi,rfl⟩:=List.getElem?_eq_some_iff.1 hk
  rw [List.drop_eq_getElem_cons hi] at h
  cases hA : A.drop i with
  | nil=>rw [hA,patL] at h;cases h
  | cons a r =>
    have hai : A[i]? = some a:=by
      have:=congrArg (·[0]?) hA
      simpa using this
    have hr : r = A.drop (i + 1):=by
      have h1 : A.drop (i + 1) = (A.drop i).drop 1:=by rw [List.drop_drop]
      rw [h1,hA];rfl
    rw [hA,patL] at h
    split at h
    · rename_i t N1 S1 h1
      split at h
      · rename_i S2 h2
        exact ⟨a,t,N1,S1,S2,hai,h1,h2,by rw [← hr];exact h⟩
      · cases h
    · cases h
end
theorem zDQ (N : List Lc) : ∀ d ∈ N.map Lc.av,d.flat.length = 3:=fun d hd=>by obtain ⟨l,_,rfl⟩:=List.mem_map.1 hd;rfl
attribute [local irreducible] zAO Program.underlying Ylds zA3 alex zBY zBN awp zAm zBT zBe zAx zBA zBP zA2 zBR zBX zBa zBq zBI zET VCall
set_option maxHeartbeats 4000000 in
theorem zJ9 {L : List Nd} {E : List Sg} {q : Nat} (_hL : L.length ≤ 2000000) (n : Nat) (x : Nd) (ks : List Tr) (N N' : List Lc) (S S' : TS) (r : List Nd) (hx : L[n]? = some x) (hA : Ask E N S 1) (hk : x.kind ≠ 24) (hk2 : 21 ≤ x.kind ∧ x.kind ≤ 24) (h : (Tr.mk x ks).patS q E N S = some (r,N',S')) :
    (x.kind ≠ 22 → zAx Tryz.prog 70 [.ptr 0 0,.d (i64 (n : Int)),.d (tslN N)] (tyO L E S) (.pair (.d (zAc r)) (.d (tslN N))) (tyO L E S')) ∧
    (x.kind = 22 → zAx Tryz.prog 70 [.ptr 0 0,.d (i64 (n : Int)),.d (tslN N)] (tyO L E S ++ [bufN []]) (.pair (.d (zAc r)) (.buf 3 (lnN N'))) (tyO L E S' ++ [bufN N'])) ∧
    zAx Tryz.prog 70 [.ptr 0 0,.d (i64 (n : Int)),.buf 3 (lnN N)] (tyO L E S ++ [bufN N]) (.pair (.d (zAc r)) (.buf 3 (lnN N'))) (tyO L E S' ++ [bufN N']):=by
  have hnx:=zFZ L E S (by have:=hA.nx;omega)
  have hlen : n < L.length:=(List.getElem?_eq_some_iff.1 hx).1
  have hpl:=zES intT
  have hcap : (lnN N + [Lc.av ⟨x.text,varN S.nx,[]⟩].length) * 64 ≤ 140737488355328 ∧ lnN N + [Lc.av ⟨x.text,varN S.nx,[]⟩].length ≤ 140737488355328:=by
    have:=hA.n
    simp only [lnN,List.length_map,List.length_cons,List.length_nil];omega
  have hc : x.kind = 23 ∨ x.kind = 21 ∨ x.kind = 22:=by omega
  rcases hc with hc | hc | hc
  · obtain ⟨rfl,rfl,rfl⟩:=zVL hc h
    refine ⟨fun _=>?_,fun h=>absurd h (by omega),?_⟩
    · refine zAw Tryz.func70 rfl Tryz.ntmps70 Tryz.results70 rfl rfl rfl ?_
      intro wb St0 X fx
      repeat' first | apply en_n|apply zAH|apply zAC|apply zAF|apply w0|(apply zBV;exact rfl;exact rfl;first|assumption|omega)|exact zAe rfl|(refine zAX zD3 hpl (zAZ rfl zAG))|(apply aJ (hd:=rfl);(first|exact zAn rfl|exact Co_bb rfl rfl rfl|exact Co_nn rfl);exact rfl;(with_reducible exact zAa);assumption;omega;exact fun _=>rfl)|(apply zBE (hd:=rfl) (hro:=rfl);(with_reducible exact zAp))|apply ay (hd:=rfl)|exact zAE rfl|exact zAD rfl|(apply zAf;exact rfl;(with_reducible exact zAb);exact rfl)|exact zAY rfl|exact zAR rfl|(apply zAS;exact rfl;(with_reducible first|exact fy_1|exact fn_0))|(apply zAV;exact rfl;(with_reducible first|exact zAg|exact zAk);exact rfl;exact rfl)|(refine w0' ?_)|(apply zA0;exact rfl;exact rfl;exact rfl;(with_reducible exact zAb);exact rfl;exact rfl;exact rfl;exact rfl)|(apply zAQ;exact rfl)|apply zAJ|apply zAN|apply en_r|apply eb_r
      exact zAh ⟨zAL (zAA rfl (zAA rfl zAW)) (zAB rfl rfl (zAB rfl rfl (zAB rfl rfl zAK))) rfl rfl,rfl⟩
    · refine zAw Tryz.func70 rfl Tryz.ntmps70 Tryz.results70 rfl rfl rfl ?_
      intro wb St0 X fx
      repeat' first | apply en_n|apply zAH|apply zAC|apply zAF|apply w0|(apply zBV;exact rfl;exact rfl;first|assumption|omega)|exact zAe rfl|(refine zAX zD3 hpl (zAZ rfl zAG))|(apply aJ (hd:=rfl);(first|exact zAn rfl|exact Co_bb rfl rfl rfl|exact Co_nn rfl);exact rfl;(with_reducible exact zAa);assumption;omega;exact fun _=>rfl)|(apply zBE (hd:=rfl) (hro:=rfl);(with_reducible exact zAp))|apply ay (hd:=rfl)|exact zAE rfl|exact zAD rfl|(apply zAf;exact rfl;(with_reducible exact zAb);exact rfl)|exact zAY rfl|exact zAt rfl|exact zAj rfl|exact zAR rfl|(apply zAS;exact rfl;(with_reducible first|exact fy_1|exact fn_0))|(apply zAV;exact rfl;(with_reducible first|exact zAg|exact zAk);exact rfl;exact rfl)|(refine w0' ?_)|(apply zA0;exact rfl;exact rfl;exact rfl;(with_reducible exact zAb);exact rfl;exact rfl;exact rfl;exact rfl)|(apply zAQ;exact rfl)|apply zAJ|apply zAN|apply en_r|apply eb_r
      exact zAh ⟨zAL (zAA rfl (zAA rfl zAW)) (zAB rfl rfl (zAB rfl rfl (zAB rfl rfl (zAl rfl rfl rfl zAK)))) rfl rfl,rfl⟩
  · obtain ⟨rfl,rfl,rfl⟩:=zVN hc h
    refine ⟨fun _=>?_,fun h=>absurd h (by omega),?_⟩
    · refine zAw Tryz.func70 rfl Tryz.ntmps70 Tryz.results70 rfl rfl rfl ?_
      intro wb St0 X fx
      repeat' first | apply en_n|apply zAH|apply zAC|apply zAF|apply w0|(apply zBV;exact rfl;exact rfl;first|assumption|omega)|(apply zBW;exact rfl;exact rfl;first|assumption|omega)|exact zAe rfl|(refine zAy [0,1,2] zEL (hnx) ?_ rfl rfl (by decide) rfl rfl rfl rfl rfl rfl ?_;(repeat (refine zAI rfl ?_));exact zAM)|(apply aJ (hd:=rfl);(first|exact zAn rfl|exact Co_bb rfl rfl rfl|exact Co_nn rfl);exact rfl;(with_reducible exact zAa);assumption;omega;exact fun _=>rfl)|(apply zBE (hd:=rfl) (hro:=rfl);(with_reducible exact zAp))|apply ay (hd:=rfl)|exact zAE rfl|exact zAD rfl|(apply zAf;exact rfl;(with_reducible exact zAb);exact rfl)|exact zAY rfl|exact zAR rfl|(apply zAS;exact rfl;(with_reducible first|exact fy_1|exact fn_0))|(apply zAV;exact rfl;(with_reducible first|exact zAg|exact zAk);exact rfl;exact rfl)|(refine w0' ?_)|(apply zA0;exact rfl;exact rfl;exact rfl;(with_reducible exact zAb);exact rfl;exact rfl;exact rfl;exact rfl)|(apply zAQ;exact rfl)|(apply zAU;exact rfl)|apply zAJ|apply zAN|apply en_r|apply eb_r
      exact zAh ⟨zAL (zAA rfl (zAA rfl zAW)) (zAB rfl rfl (zAB rfl rfl (zAB rfl rfl zAK))) rfl rfl,rfl⟩
    · refine zAw Tryz.func70 rfl Tryz.ntmps70 Tryz.results70 rfl rfl rfl ?_
      intro wb St0 X fx
      repeat' first | apply en_n|apply zAH|apply zAC|apply zAF|apply w0|(apply zBV;exact rfl;exact rfl;first|assumption|omega)|(apply zBW;exact rfl;exact rfl;first|assumption|omega)|exact zAe rfl|(refine zAy [0,1,2] zEL (hnx) ?_ rfl rfl (by decide) rfl rfl rfl rfl rfl rfl ?_;(repeat (refine zAI rfl ?_));exact zAM)|(apply aJ (hd:=rfl);(first|exact zAn rfl|exact Co_bb rfl rfl rfl|exact Co_nn rfl);exact rfl;(with_reducible exact zAa);assumption;omega;exact fun _=>rfl)|(apply zBE (hd:=rfl) (hro:=rfl);(with_reducible exact zAp))|apply ay (hd:=rfl)|exact zAE rfl|exact zAD rfl|(apply zAf;exact rfl;(with_reducible exact zAb);exact rfl)|exact zAY rfl|exact zAt rfl|exact zAj rfl|exact zAR rfl|(apply zAS;exact rfl;(with_reducible first|exact fy_1|exact fn_0))|(apply zAV;exact rfl;(with_reducible first|exact zAg|exact zAk);exact rfl;exact rfl)|(refine w0' ?_)|(apply zA0;exact rfl;exact rfl;exact rfl;(with_reducible exact zAb);exact rfl;exact rfl;exact rfl;exact rfl)|(apply zAQ;exact rfl)|(apply zAU;exact rfl)|apply zAJ|apply zAN|apply en_r|apply eb_r
      exact zAh ⟨zAL (zAA rfl (zAA rfl zAW)) (zAB rfl rfl (zAB rfl rfl (zAB rfl rfl (zAl rfl rfl rfl zAK)))) rfl rfl,rfl⟩
  · obtain ⟨rfl,rfl,rfl⟩:=zVM hc h
    refine ⟨fun h=>absurd hc h,fun _=>?_,?_⟩
    · refine zAw Tryz.func70 rfl Tryz.ntmps70 Tryz.results70 rfl rfl rfl ?_
      intro wb St0 X fx
      repeat' first | (apply zV4 (ys:=[Lc.av ⟨x.text,varN S.nx,[]⟩]) (id:=3) (xs0:=[]) (hd:=rfl) (hro:=rfl);exact rfl;exact rfl;exact zAn rfl;exact rfl;(with_reducible exact zCl);(with_reducible exact zBy);(with_reducible exact zHb);(with_reducible exact zFm);exact zDQ N;exact zCP rfl;exact hcap)|apply en_n|apply zAH|apply zAC|apply zAF|apply w0|(apply zBV;exact rfl;exact rfl;first|assumption|omega)|(apply zBW;exact rfl;exact rfl;first|assumption|omega)|exact zAe rfl|(refine zAy [0,1,2] zEL (hnx) ?_ rfl rfl (by decide) rfl rfl rfl rfl rfl rfl ?_;(repeat (refine zAI rfl ?_));exact zAM)|(apply zBS (cs:=Lc.cells ⟨x.text,varN S.nx,[]⟩);exact zHe;exact zFJ;exact PD_d rfl rfl (PD_d rfl rfl (PD_n rfl zCF));exact rfl)|(apply aJ (hd:=rfl);(first|exact zAn rfl|exact Co_bb rfl rfl rfl|exact Co_nn rfl);exact rfl;(with_reducible exact zAa);assumption;omega;exact fun _=>rfl)|(apply zBE (hd:=rfl) (hro:=rfl);(with_reducible exact zAp))|apply ay (hd:=rfl)|exact zAE rfl|exact zAD rfl|(apply zAf;exact rfl;(with_reducible exact zAb);exact rfl)|exact zAY rfl|exact zAj rfl|exact zAR rfl|(apply zAS;exact rfl;(with_reducible first|exact fy_1|exact fn_0|exact fn_1))|(apply zAV;exact rfl;(with_reducible first|exact zAg|exact zAk|exact zA4);exact rfl;exact rfl)|(apply zCD;(with_reducible exact zCl);(with_reducible exact zBy);(with_reducible exact zH8);exact rfl;exact rfl;(first|exact zAZ rfl zAG|exact zCo rfl rfl rfl zAG|exact zCs rfl zAG);exact rfl)|(refine w0' ?_)|(apply zA0;exact rfl;exact rfl;exact rfl;(with_reducible exact zAb);exact rfl;exact rfl;exact rfl;exact rfl)|(apply zAQ;exact rfl)|(apply zAU;exact rfl)|apply zAJ|apply zAN|apply en_r|apply eb_r
      exact zAh ⟨zAL (zAA rfl (zBs rfl (by simp) zAW)) (zAB rfl rfl (zAB rfl rfl (zAB rfl rfl (zAl rfl rfl (by rw [List.map_append];rfl) zAK)))) rfl rfl,rfl⟩
    · refine zAw Tryz.func70 rfl Tryz.ntmps70 Tryz.results70 rfl rfl rfl ?_
      intro wb St0 X fx
      repeat' first | apply en_n|apply zAH|apply zAC|apply zAF|apply w0|(apply zBV;exact rfl;exact rfl;first|assumption|omega)|(apply zBW;exact rfl;exact rfl;first|assumption|omega)|exact zAe rfl|(refine zAy [0,1,2] zEL (hnx) ?_ rfl rfl (by decide) rfl rfl rfl rfl rfl rfl ?_;(repeat (refine zAI rfl ?_));exact zAM)|(apply aApp (id:=3) (hd:=rfl) (hro:=rfl);exact rfl;exact rfl;(first|exact zAn rfl|exact Co_bb rfl rfl rfl|exact Co_nn rfl);(first|exact rfl|exact (by simp));exact rfl;(with_reducible exact zCl);(with_reducible exact zBy);(with_reducible exact zHb);(with_reducible exact zFm);(first|exact zCc (fun _=>rfl)|exact zCP rfl))|(apply zBS (cs:=Lc.cells ⟨x.text,varN S.nx,[]⟩);exact zHe;exact zFJ;exact PD_d rfl rfl (PD_d rfl rfl (PD_n rfl zCF));exact rfl)|(apply aJ (hd:=rfl);(first|exact zAn rfl|exact Co_bb rfl rfl rfl|exact Co_nn rfl);exact rfl;(with_reducible exact zAa);assumption;omega;exact fun _=>rfl)|(apply zBE (hd:=rfl) (hro:=rfl);(with_reducible exact zAp))|apply ay (hd:=rfl)|exact zAE rfl|exact zAD rfl|(apply zAf;exact rfl;(with_reducible exact zAb);exact rfl)|exact zAY rfl|exact zAt rfl|exact zAj rfl|exact zAR rfl|(apply zAS;exact rfl;(with_reducible first|exact fy_1|exact fn_0|exact fn_1))|(apply zAV;exact rfl;(with_reducible first|exact zAg|exact zAk|exact zA4);exact rfl;exact rfl)|(apply zCD;(with_reducible exact zCl);(with_reducible exact zBy);(with_reducible exact zH8);exact rfl;exact rfl;(first|exact zAZ rfl zAG|exact zCo rfl rfl rfl zAG|exact zCs rfl zAG);exact rfl)|(refine w0' ?_)|(apply zA0;exact rfl;exact rfl;exact rfl;(with_reducible exact zAb);exact rfl;exact rfl;exact rfl;exact rfl)|(apply zAQ;exact rfl)|(apply zAU;exact rfl)|apply zAJ|apply zAN|apply en_r|apply eb_r
      all_goals first | exact hcap | skip
      exact zAh ⟨zAL (zAA rfl (zBs rfl (by simp) zAW)) (zAB rfl rfl (zAB rfl rfl (zAB rfl rfl (zAl rfl rfl (by rw [List.map_append];rfl) zAK)))) rfl rfl,rfl⟩
end Go.Proofs.YtblomnkamngnbaaGreatDoor

/- Texts of this claim, merged: InfB, InfC, SynA, SynB, SynS, SynD, SynC, NodI, NodJ, SynE, SynG, SynH, SynI, InfA, SynL, SynM, SynK, SynJ, SynN, InfD, InfYA, InfE, InfH, InfI. -/
import Derived.Shelf.Sort.Plain
import Derived.Shelf.Slices.In.SortNone
import Derived.Lib.SlicesCompact
import Derived.Lib.SliceRun
import Derived.Test.YtblomnkamngnbaaGreatDoorMC
namespace Go.Proofs.YtblomnkamngnbaaGreatDoor
open Go.Sx
attribute [local irreducible] zAT Program.underlying Ylds zBA alex zBc zBO awp zAj zBX RCall zA2 zBH zBQ zA8 zBT zBZ zBd zBr zBN VCall
theorem zED (s : List UInt8) : zAj Tryz.prog 64 [str s] (zAc (zBx s)):=by
  refine zAd Tryz.func64 rfl Tryz.ntmps64 Tryz.results64 rfl ?_
  intro wb St0
  repeat' first | apply en_n|apply zAH|apply zAB|apply zAF|apply w0|(apply zBE;exact zE9;exact zAp;exact PD_d rfl rfl (PD_d rfl rfl zBy);exact rfl)|apply ay (hd:=rfl)|exact zAE rfl|exact zAC rfl|exact zAb rfl|(apply zB8;(with_reducible exact zBb);(with_reducible exact zAW);(with_reducible exact zDM);exact rfl;exact rfl;(first|exact zAX rfl zAG|exact zCx rfl rfl rfl zAG|exact zDB rfl zAG);exact rfl)|apply zAM|apply zAJ|exact res1 rfl
  rfl
def hdA : Nd:=⟨32,arrT,0,2⟩
def arrI (A : List (List Nd)) (i : Nat) : List Nd:=(A.take i).flatMap fun a=>hdA :: a
theorem zP0 {A : List (List Nd)} {i : Nat} {a : List Nd} (h : A[i]? = some a) : arrI A (i + 1) = arrI A i ++ [hdA] ++ a:=by
  unfold arrI;rw [List.take_add_one,h];simp
def zMC (A : List (List Nd)) (b : List Nd) : List Nd:=arrI A A.length ++ b
set_option maxHeartbeats 1000000 in
theorem zRr (A : List (List Nd)) (b : List Nd) (hA : ∀ i,(arrI A i).length ≤ 1000000) (hA2 : ∀ a ∈ A,a.length ≤ 1000000) (hAl : A.length ≤ 1000000) (hb : b.length ≤ 1000000) : zAj Tryz.prog 113 [zFk A,zAc b] (zAc (zMC A b)):=by
  refine zAd Tryz.func113 rfl Tryz.ntmps113 Tryz.results113 rfl ?_
  intro wb St0
  repeat' first | apply en_n|apply zAH|apply zAB|apply zAF|apply w0|apply ay (hd:=rfl)|exact zAE rfl|(apply zAl;exact rfl;(with_reducible exact zGZ))|exact zAb rfl|apply zAI
  refine zCE 5 false 40 4 rfl rfl ?_
  refine zAr (α:=Nat) (fun i=>i ≤ A.length) (fun i=>[(1,.d (zAc b)),(5,.buf 0 ((arrI A i).map Nd.av).length),(8,.d (zFk A)),(9,.d (i64 (A.length : Int))),(10,.d (i64 (i : Int)))]) (fun i=>[.buf false 40 4 ((arrI A i).map Nd.av)]) (fun i=>A.length - i) 0 (Nat.zero_le _)
    (zAO (zAA rfl (zBq rfl rfl (zAA rfl (Le_d rfl rfl (zAA rfl zAa))))) (zAu rfl rfl rfl zAN) rfl rfl) ?_
  intro i hi
  have hbd:=hA i
  repeat' first | apply en_n|apply zAH|apply zAB|apply zAF|apply w0|(apply aApp (id:=0) (hd:=rfl) (hro:=rfl);exact rfl;exact rfl;(first|exact zAk rfl|exact Co_bb rfl rfl rfl|exact Co_nn rfl);(first|exact rfl|exact (by simp));exact rfl;(with_reducible exact zBb);(with_reducible exact zAW);(with_reducible exact zEL);(with_reducible exact zDL);(first|exact zCC (fun _=>rfl)|exact zCA rfl))|(apply zBE (cs:=Nd.cells hdA);exact zE9;exact zAp;exact PD_d rfl rfl (PD_d rfl rfl (PD_d rfl rfl zBy));exact rfl)|(apply aI (hd:=rfl);(first|exact zAk rfl|exact Co_bb rfl rfl rfl|exact Co_nn rfl);exact rfl;(with_reducible exact zCP);exact fun _=>rfl;rotate_left;intro v hv;rotate_right)|apply ay (hd:=rfl)|exact zAE rfl|exact zAC rfl|(apply zAg;exact rfl;(with_reducible exact zAn))|exact zCQ rfl rfl|exact zBC rfl rfl|exact zAw rfl|exact zAm rfl|(apply zB8;(with_reducible exact zBb);(with_reducible exact zAW);(with_reducible exact zDM);exact rfl;exact rfl;(first|exact zAX rfl zAG|exact zCx rfl rfl rfl zAG|exact zDB rfl zAG);exact rfl)|(apply zAz;exact rfl;(intro hb);rotate_left;(intro hb);rotate_right)|apply zAI|apply zAP|apply zAM|apply zAt|apply en_e|apply eb_n|apply eb_e|apply zAJ
  all_goals first | omega | skip
  · simp only [List.length_map,List.length_cons,List.length_nil];omega
  · have:=hA2 v (List.mem_of_getElem? hv)
    simp only [List.length_map,List.length_cons,List.length_nil];omega
  · have e:=zP0 (show A[i]? = some v from hv)
    exact ⟨i + 1,by omega,by omega,zAO (zAA rfl (zBq rfl (by rw [e];simp;omega) (zAA rfl (zAA rfl (zAA rfl zAa))))) (zAu rfl rfl (by rw [e,List.map_append,List.map_append];rfl) zAN) rfl rfl⟩
  · simp only [List.length_map];omega
  · have : A.length = i:=by omega
    exact ⟨_,_,_,rfl,by simp,by rw [List.take_of_length_le (by simp)];simp [zAc,zMC,this]⟩
theorem zNN (a b : List Nd) (ha : a.length ≤ 900000) (hb : b.length ≤ 1000000) : zAj Tryz.prog 68 [zAc a,zAc b] (zAc (zGb a b)):=by
  have hc:=zRr [a] b (fun i=>by
    unfold arrI
    match i with
    | 0=>simp
    | i + 1=>simp;omega) (by simp;omega) (by simp) hb
  refine zAd Tryz.func68 rfl Tryz.ntmps68 Tryz.results68 rfl ?_
  intro wb St0
  repeat' first | apply en_n|apply zAH|apply zAB|apply zAF|apply w0|(refine zAV zRN hc (zAX rfl (zAX rfl zAG)))|apply ay (hd:=rfl)|exact zAE rfl|exact zAC rfl|exact zAb rfl|(apply zB8;(with_reducible exact zDu);(with_reducible exact zCP);(with_reducible exact zHS);exact rfl;exact rfl;(first|exact zAX rfl zAG|exact zCx rfl rfl rfl zAG|exact zDB rfl zAG);exact rfl)|apply zAM|apply zAJ|exact res1 rfl
  congr 1
  simp [zMC,arrI,zGb,hdA]
set_option maxHeartbeats 1000000 in
theorem zPF (l : List Int) (hl : l.length ≤ 1000000) : zAj Tryz.prog 115 [zBj l] (binds (zDI l)):=by
  refine zAd Tryz.func115 rfl Tryz.ntmps115 Tryz.results115 rfl ?_
  intro wb St0
  repeat' first | apply en_n|apply zAH|apply zAB|apply zAF|apply w0|apply ay (hd:=rfl)|exact zAE rfl|(apply zAl;exact rfl;(with_reducible exact zBt))|exact zAb rfl|apply zAI
  refine zCE 3 false 147 2 rfl rfl ?_
  refine zAr (α:=Nat) (fun i=>i ≤ l.length) (fun i=>[(3,.buf 0 ((zDI (l.take i)).map Bd.av).length),(6,.d (zBj l)),(7,.d (i64 (l.length : Int))),(8,.d (i64 (i : Int)))]) (fun i=>[.buf false 147 2 ((zDI (l.take i)).map Bd.av)]) (fun i=>l.length - i) 0 (Nat.zero_le _)
    (zAO (zBq rfl rfl (zAA rfl (Le_d rfl rfl (zAA rfl zAa)))) (zAu rfl rfl rfl zAN) rfl rfl) ?_
  intro i hi
  repeat' first | apply en_n|apply zAH|apply zAB|apply zAF|apply w0|(apply aApp (id:=0) (hd:=rfl) (hro:=rfl);exact rfl;exact rfl;(first|exact zAk rfl|exact Co_bb rfl rfl rfl|exact Co_nn rfl);(first|exact rfl|exact (by simp));exact rfl;(with_reducible exact zGY);(with_reducible exact zFh);(with_reducible exact zOM);(with_reducible exact zNL);(first|exact zCC (fun _=>rfl)|exact zCA rfl))|(refine zAV zDn (zED intT) (zAX rfl zAG))|(apply zBE (cs:=[ival v,zAc (zBx intT)]);exact zOu;exact zOL;exact PD_d rfl rfl (PD_d rfl rfl zBy);exact rfl)|(apply aI (hd:=rfl);(first|exact zAk rfl|exact Co_bb rfl rfl rfl|exact Co_nn rfl);exact rfl;(with_reducible exact zA7);exact fun _=>rfl;rotate_left;intro v hv;rotate_right)|apply ay (hd:=rfl)|exact zAE rfl|exact zAC rfl|(apply zAg;exact rfl;(with_reducible exact zAs))|exact zCQ rfl rfl|exact zBC rfl rfl|exact zAw rfl|exact zAm rfl|(apply zB8;(with_reducible exact zGY);(with_reducible exact zFh);(with_reducible exact zOJ);exact rfl;exact rfl;(first|exact zAX rfl zAG|exact zCx rfl rfl rfl zAG|exact zDB rfl zAG);exact rfl)|(apply zAz;exact rfl;(intro hb);rotate_left;(intro hb);rotate_right)|apply zAI|apply zAP|apply zAM|apply zAt|apply en_e|apply eb_n|apply eb_e|apply zAJ|(apply zGq;exact rfl;exact rfl;(first|exact rfl|(simp;done)))
  all_goals first | omega | skip
  · simp only [List.length_map,List.length_cons,List.length_nil]
    have : (zDI (l.take i)).length ≤ 1000000:=by simp [zDI];omega
    omega
  · have hv' : l[i]? = some v:=hv
    have e : zDI (l.take (i + 1)) = zDI (l.take i) ++ [⟨v,zBx intT⟩]:=by rw [List.take_add_one,hv'];simp [zDI]
    exact ⟨i + 1,by omega,by omega,zAO (zBq rfl (by rw [e];simp) (zAA rfl (zAA rfl (zAA rfl zAa)))) (zAu rfl rfl (by rw [e,List.map_append];rfl) zAN) rfl rfl⟩
  · rw [List.take_of_length_le (by omega)];rfl
set_option maxHeartbeats 1000000 in
theorem zL5 (L : List Nd) (E : List Sg) (S : TS) (e : Int) : zA2 Tryz.prog 63 [.ptr 0 0,.d (i64 e)] (tyO L E S) .top (tyO L E (zHQ S e)):=by
  refine zA1 Tryz.func63 rfl Tryz.ntmps63 Tryz.results63 rfl rfl rfl ?_
  intro wb St0 X fx
  unfold zHQ
  repeat' first | apply en_n|apply zAH|apply zAB|apply zAF|apply w0|exact zAo rfl|apply ay (hd:=rfl)|exact zAE rfl|exact zCz rfl rfl|exact zAZ rfl|(apply zAR;exact rfl;(with_reducible exact fy_3))|(apply zAU;exact rfl;(with_reducible exact zCf);exact rfl;exact rfl)|(refine w0' ?_)|(apply zAx;exact rfl;exact rfl;exact rfl;(with_reducible exact zCf);exact rfl;exact rfl;exact rfl;exact rfl)|(apply zAz;exact rfl;(intro hb);rotate_left;(intro hb);rotate_right)|apply zAP
  · rw [if_pos hb];exact zFB ⟨rfl,zAO zAa (zAD rfl rfl (zAD rfl rfl (zAD rfl rfl zAN))) rfl rfl⟩
  · rw [if_neg hb];exact zFB ⟨rfl,zAO zAa (zAD rfl rfl (zAD rfl rfl (zAD rfl rfl zAN))) rfl rfl⟩
set_option maxHeartbeats 1000000 in
theorem zFA (L : List Nd) (E : List Sg) (S : TS) (h : 0 ≤ S.nx ∧ S.nx ≤ 4000000000000) : zA2 Tryz.prog 65 [.ptr 0 0] (tyO L E S) (.d (zAc (varN S.nx))) (tyO L E (zCk S)):=by
  have hf:=zRp S.nx S.st h
  refine zA1 Tryz.func65 rfl Tryz.ntmps65 Tryz.results65 rfl rfl rfl ?_
  intro wb St0 X fx
  have hh : (varN S.nx)[0]? = some ⟨31,[],S.nx,0⟩:=rfl
  by_cases h1 : S.nx > 1048576
  · rw [zCk,if_pos h1]
    have hg:=zL5 L E { S with nx:=S.nx + 1 } 113
    skip
    repeat' first | apply en_n|apply zAH|apply zAB|apply zAF|apply w0|(apply zEj;exact rfl;exact rfl;first|assumption|omega)|exact zAo rfl|(refine zA3 [1,2] zNA (hf) ?_ rfl rfl (by decide) rfl rfl rfl rfl rfl rfl ?_;(repeat (refine zAL rfl ?_));exact zAS)|(refine zA3 [0,1,2] zJx (hg) ?_ rfl rfl (by decide) rfl rfl rfl rfl rfl rfl ?_;(repeat (refine zAL rfl ?_));exact zAS)|(apply aJ (hd:=rfl);(first|exact zAk rfl|exact Co_bb rfl rfl rfl|exact Co_nn rfl);exact rfl;(with_reducible exact zAW);assumption;omega;exact fun _=>rfl)|apply ay (hd:=rfl)|exact zAE rfl|exact zAC rfl|(apply zAy;exact rfl;(with_reducible exact fn_2))|(apply zAg;exact rfl;(with_reducible exact zBI))|exact zAb rfl|exact zAZ rfl|(apply zAR;exact rfl;(with_reducible exact fy_0))|(apply zAU;exact rfl;(with_reducible exact zDw);exact rfl;exact rfl)|exact zAK rfl|apply zAM
    exact zAq (zAO (zAA rfl zAa) (zAD rfl rfl (zAD rfl rfl (zAD rfl rfl zAN))) rfl rfl)
  · rw [zCk,if_neg h1]
    repeat' first | apply en_n|apply zAH|apply zAB|apply zAF|apply w0|(apply zDi;exact rfl;exact rfl;first|assumption|omega)|exact zAo rfl|(refine zA3 [1,2] zNA (hf) ?_ rfl rfl (by decide) rfl rfl rfl rfl rfl rfl ?_;(repeat (refine zAL rfl ?_));exact zAS)|(apply aJ (hd:=rfl);(first|exact zAk rfl|exact Co_bb rfl rfl rfl|exact Co_nn rfl);exact rfl;(with_reducible exact zAW);assumption;omega;exact fun _=>rfl)|apply ay (hd:=rfl)|exact zAE rfl|exact zAC rfl|(apply zAy;exact rfl;(with_reducible exact fn_2))|(apply zAg;exact rfl;(with_reducible exact zBI))|exact zAb rfl|exact zAZ rfl|(apply zAR;exact rfl;(with_reducible exact fy_0))|(apply zAU;exact rfl;(with_reducible exact zDw);exact rfl;exact rfl)|exact zAQ rfl|apply zAP|apply zAM
    exact zAq (zAO (zAA rfl zAa) (zAD rfl rfl (zAD rfl rfl (zAD rfl rfl zAN))) rfl rfl)
set_option maxHeartbeats 1000000 in
theorem zQl (L : List Nd) (E : List Sg) (S : TS) (a b : List Nd) (h : S.er ≠ 0) : zA2 Tryz.prog 66 [.ptr 0 0,.d (zAc a),.d (zAc b)] (tyO L E S) .top (tyO L E S):=by
  refine zA1 Tryz.func66 rfl Tryz.ntmps66 Tryz.results66 rfl rfl rfl ?_
  intro wb St0 X fx
  repeat' first | apply en_n|apply zAH|apply zAB|apply zAF|apply w0|(apply k1u (hd:=rfl);exact rfl;exact rfl)|(apply zA9;exact rfl;exact rfl;first|assumption|omega)|exact zAo rfl|apply ay (hd:=rfl)|exact zAE rfl|exact zAh rfl rfl|exact zAZ rfl|(apply zAR;exact rfl;(with_reducible exact fy_3))|(apply zAU;exact rfl;(with_reducible exact zCf);exact rfl;exact rfl)|exact zAQ rfl|apply zAP
  all_goals exact zFB ⟨rfl,zAO zAa (zAD rfl rfl (zAD rfl rfl (zAD rfl rfl zAN))) rfl rfl⟩
set_option maxHeartbeats 1000000 in
theorem zC6 (L : List Nd) (E : List Sg) (S S' : TS) (q : Nat) (a b : List Nd) (hla : a.length ≤ 2000000) (hlb : b.length ≤ 2000000) (hL : StoB S.st) (h : zDP q S a b = some S') : zA2 Tryz.prog 66 [.ptr 0 0,.d (zAc a),.d (zAc b)] (tyO L E S) .top (tyO L E S'):=by
  unfold zDP at h
  by_cases h0 : S.er = 0
  · rw [if_neg (by omega)] at h
    cases hu : uniF q S.st a b with
    | none=>rw [hu] at h;cases h
    | some p =>
      obtain ⟨e,M⟩:=p
      rw [hu] at h
      have hq:=zQJ S.nx q S.st a b e M hla hlb hL hu
      have hg:=zL5 L E { S with st:=M } 112
      by_cases he : e = 0
      · simp only [he,ne_eq,not_true,if_false,Option.some.injEq] at h
        subst h
        refine zA1 Tryz.func66 rfl Tryz.ntmps66 Tryz.results66 rfl rfl rfl ?_
        intro wb St0 X fx
        repeat' first | apply en_n|apply zAH|apply zAB|apply zAF|apply w0|(apply zBD;exact rfl;exact rfl;first|assumption|omega)|(apply zBS;exact rfl;exact rfl;first|assumption|omega)|exact zAo rfl|(refine zA3 [1,2] zK1 (hq) ?_ rfl rfl (by decide) rfl rfl rfl rfl rfl rfl ?_;(repeat (refine zAL rfl ?_));exact zAS)|apply ay (hd:=rfl)|exact zAE rfl|exact zAi rfl rfl|exact zAZ rfl|(apply zAR;exact rfl;(with_reducible first|exact fy_0|exact fy_3))|(apply zAU;exact rfl;(with_reducible first|exact zDw|exact zCf);exact rfl;exact rfl)|exact w1 rfl rfl|exact zAQ rfl|apply zAP
        all_goals exact zFB ⟨rfl,zAO zAa (zAD rfl rfl (zAD rfl rfl (zAD rfl rfl zAN))) rfl rfl⟩
      · simp only [he,ne_eq,not_false_eq_true,if_true,Option.some.injEq] at h
        subst h
        refine zA1 Tryz.func66 rfl Tryz.ntmps66 Tryz.results66 rfl rfl rfl ?_
        intro wb St0 X fx
        repeat' first | apply en_n|apply zAH|apply zAB|apply zAF|apply w0|(apply zBD;exact rfl;exact rfl;first|assumption|omega)|(apply zB4;exact rfl;exact rfl;first|assumption|omega)|exact zAo rfl|(refine zA3 [1,2] zK1 (hq) ?_ rfl rfl (by decide) rfl rfl rfl rfl rfl rfl ?_;(repeat (refine zAL rfl ?_));exact zAS)|(refine zA3 [0,1,2] zJx (hg) ?_ rfl rfl (by decide) rfl rfl rfl rfl rfl rfl ?_;(repeat (refine zAL rfl ?_));exact zAS)|apply ay (hd:=rfl)|exact zAE rfl|exact zAi rfl rfl|exact zAZ rfl|(apply zAR;exact rfl;(with_reducible first|exact fy_0|exact fy_3))|(apply zAU;exact rfl;(with_reducible first|exact zDw|exact zCf);exact rfl;exact rfl)|exact w1 rfl rfl|exact zAK rfl
        all_goals exact zFB ⟨rfl,zAO zAa (zAD rfl rfl (zAD rfl rfl (zAD rfl rfl zAN))) rfl rfl⟩
  · rw [if_pos h0] at h
    injection h with h;subst h
    exact zQl L E S a b h0
set_option maxHeartbeats 1000000 in
theorem zJm (L : List Nd) (E : List Sg) (S S' : TS) (q : Nat) (t r : List Nd) (hlt : t.length ≤ 1000000) (hL : StoB S.st) (h : zEY q S t = some (r,S')) : zA2 Tryz.prog 38 [.ptr 0 0,.d (zAc t)] (tyO L E S) (.d (zAc r)) (tyO L E S'):=by
  unfold zEY at h
  have hg:=zL5 L E S 113
  by_cases h0 : S.er = 0
  · rw [if_neg (by omega)] at h
    by_cases hc : ckT t = 0
    · rw [if_neg (by omega)] at h
      cases hz : zIh q S.st t [] with
      | none=>rw [hz] at h;cases h
      | some p =>
        obtain ⟨m,S2⟩:=p
        rw [hz] at h
        dsimp only at h
        by_cases hm : m > 4000
        · rw [if_pos hm] at h
          injection h with h;injection h with h1 h2;subst h1;subst h2
          have hq:=zMI S.nx S.st t q m S2 hL hlt hc hz hm
          refine zA1 Tryz.func38 rfl Tryz.ntmps38 Tryz.results38 rfl rfl rfl ?_
          intro wb St0 X fx
          repeat' first | apply en_n|apply zAH|apply zAB|apply zAF|apply w0|(apply zB4;exact rfl;exact rfl;first|assumption|omega)|(apply zBS;exact rfl;exact rfl;first|assumption|omega)|exact zAo rfl|exact zCJ rfl|exact zFo rfl|exact zFn rfl|(refine zA3 [1,2] zG1 (hq) ?_ rfl rfl (by decide) rfl rfl rfl rfl rfl rfl ?_;(repeat (refine zAL rfl ?_));exact zAS)|(refine zA3 [0,1,2] zJx (hg) ?_ rfl rfl (by decide) rfl rfl rfl rfl rfl rfl ?_;(repeat (refine zAL rfl ?_));exact zAS)|apply ay (hd:=rfl)|exact zAE rfl|exact zAC rfl|exact zAb rfl|exact zAZ rfl|(apply zAR;exact rfl;(with_reducible first|exact fy_0|exact fy_3))|(apply zAU;exact rfl;(with_reducible first|exact zDw|exact zCf);exact rfl;exact rfl)|exact zAK rfl|exact zAQ rfl|apply zAP|apply zAM|apply en_r
          all_goals exact zAq (zAO (zAA rfl zAa) (zAD rfl rfl (zAD rfl rfl (zAD rfl rfl zAN))) rfl rfl)
        · rw [if_neg hm] at h
          cases hr : resF q S.st t with
          | none=>rw [hr] at h;cases h
          | some u =>
            rw [hr] at h
            dsimp only at h
            split at h
            case isFalse=>cases h
            rename_i hlr
            injection h with h;injection h with h1 h2;subst h1;subst h2
            have hq:=zOG S.nx S.st t u q q m S2 hL hlt hc hz hm hr (by omega)
            refine zA1 Tryz.func38 rfl Tryz.ntmps38 Tryz.results38 rfl rfl rfl ?_
            intro wb St0 X fx
            repeat' first | apply en_n|apply zAH|apply zAB|apply zAF|apply w0|(apply zBS;exact rfl;exact rfl;first|assumption|omega)|exact zAo rfl|exact zCJ rfl|exact zFo rfl|exact zFn rfl|(refine zA3 [1,2] zG1 (hq) ?_ rfl rfl (by decide) rfl rfl rfl rfl rfl rfl ?_;(repeat (refine zAL rfl ?_));exact zAS)|apply ay (hd:=rfl)|exact zAE rfl|exact zAC rfl|exact zAb rfl|exact zAZ rfl|(apply zAR;exact rfl;(with_reducible first|exact fy_0|exact fy_3))|(apply zAU;exact rfl;(with_reducible first|exact zDw|exact zCf);exact rfl;exact rfl)|exact zAQ rfl|apply zAP|apply zAM
            all_goals exact zAq (zAO (zAA rfl zAa) (zAD rfl rfl (zAD rfl rfl (zAD rfl rfl zAN))) rfl rfl)
    · rw [if_pos hc] at h
      injection h with h;injection h with h1 h2;subst h1;subst h2
      have hq:=zMJ S.nx S.st t (by omega) hc
      refine zA1 Tryz.func38 rfl Tryz.ntmps38 Tryz.results38 rfl rfl rfl ?_
      intro wb St0 X fx
      repeat' first | apply en_n|apply zAH|apply zAB|apply zAF|apply w0|(apply zB4;exact rfl;exact rfl;first|assumption|omega)|(apply zBS;exact rfl;exact rfl;first|assumption|omega)|exact zAo rfl|exact zCJ rfl|exact zFo rfl|exact zFn rfl|(refine zA3 [1,2] zG1 (hq) ?_ rfl rfl (by decide) rfl rfl rfl rfl rfl rfl ?_;(repeat (refine zAL rfl ?_));exact zAS)|(refine zA3 [0,1,2] zJx (hg) ?_ rfl rfl (by decide) rfl rfl rfl rfl rfl rfl ?_;(repeat (refine zAL rfl ?_));exact zAS)|apply ay (hd:=rfl)|exact zAE rfl|exact zAC rfl|exact zAb rfl|exact zAZ rfl|(apply zAR;exact rfl;(with_reducible first|exact fy_0|exact fy_3))|(apply zAU;exact rfl;(with_reducible first|exact zDw|exact zCf);exact rfl;exact rfl)|exact zAK rfl|exact zAQ rfl|apply zAP|apply zAM|apply en_r
      all_goals exact zAq (zAO (zAA rfl zAa) (zAD rfl rfl (zAD rfl rfl (zAD rfl rfl zAN))) rfl rfl)
  · rw [if_pos h0] at h
    injection h with h;injection h with h1 h2;subst h1;subst h2
    refine zA1 Tryz.func38 rfl Tryz.ntmps38 Tryz.results38 rfl rfl rfl ?_
    intro wb St0 X fx
    repeat' first | apply en_n|apply zAH|apply zAB|apply zAF|apply w0|(apply zB4;exact rfl;exact rfl;first|assumption|omega)|exact zAo rfl|apply ay (hd:=rfl)|exact zAE rfl|exact zAC rfl|exact zAb rfl|exact zAZ rfl|(apply zAR;exact rfl;(with_reducible exact fy_3))|(apply zAU;exact rfl;(with_reducible exact zCf);exact rfl;exact rfl)|exact zAK rfl|apply zAM|apply en_r
    all_goals exact zAq (zAO (zAA rfl zAa) (zAD rfl rfl (zAD rfl rfl (zAD rfl rfl zAN))) rfl rfl)
end Go.Proofs.YtblomnkamngnbaaGreatDoor
namespace Go.Proofs.YtblomnkamngnbaaGreatDoor
open Go.Sx
attribute [local irreducible] zAT Program.underlying Ylds zBA alex zBc zBO awp zAj zBX RCall zA2 zBH zBQ zA8 zBT zBZ zBd zBr zBN VCall
theorem zNU (L : List Nd) (hL : L.length ≤ 2000000) (hne : L ≠ []) : zAj Tryz.prog 55 [zAc L] (zAc L):=by
  refine zAd Tryz.func55 rfl Tryz.ntmps55 Tryz.results55 rfl ?_
  intro wb St0
  repeat' first | apply en_n|apply zAH|apply zAB|apply zAF|apply w0|(apply zNO;exact rfl;exact rfl;exact (by simpa using hne);with_reducible exact zA0)|(apply zMG (hd:=rfl) (hro:=rfl);exact zBb;exact zAW;exact zDM;exact rfl)|(apply aApp (hd:=rfl) (hro:=rfl);exact rfl;exact rfl;(first|exact zAk rfl|exact Co_bb rfl rfl rfl|exact Co_nn rfl);(first|exact rfl|(simp;done));exact rfl;(with_reducible exact zBb);(with_reducible exact zAW);(with_reducible exact zEL);(with_reducible exact zDL);(first|exact zCC (fun _=>rfl)|exact zCA rfl))|apply ay (hd:=rfl)|exact zAE rfl|exact zAb rfl|exact zAm rfl|exact zAQ rfl|apply zAP|apply zAM|apply zAJ
  · simp only [List.length_map];omega
  · exact ⟨_,_,_,rfl,by simp,by rw [List.take_of_length_le (by simp)];rfl⟩
theorem zRn (t : List Nd) (hL : t.length ≤ 2000000) (hc : ckT t ≠ 0) : zAj Tryz.prog 33 [zAc t] (.tup [.slice [],.slice []]):=by
  refine zAd Tryz.func33 rfl Tryz.ntmps33 Tryz.results33 rfl ?_
  intro wb St0
  repeat' first | apply en_n|apply zAH|apply zAB|apply zAF|apply w0|(apply zB4;exact rfl;exact rfl;first|assumption|omega)|(apply zAV (hb:=zCH) (hc:=zCO t hL);exact zAX rfl zAG)|apply ay (hd:=rfl)|exact zAE rfl|exact zAb rfl|exact zAK rfl|apply zAM|apply en_r|apply zAJ
  exact ⟨Or.inl rfl,Or.inl rfl⟩
set_option maxHeartbeats 2000000 in
theorem zRm (T : Tr) (hw : T.wf) (hr : ∀ n ∈ T.fl,zBh n = true) (hL : T.sz ≤ 4000) : zAj Tryz.prog 33 [zAc T.fl] (.tup [zFk (zBi T).1,zAc (zBi T).2]):=by
  have hck : ckT T.fl = 0:=by
    rw [ckT,if_pos]
    simp only [okT,Bool.and_eq_true,decide_eq_true_eq,List.all_eq_true]
    exact ⟨⟨by rw [Tr.fl_len];exact hL,zFS.2 ⟨T,rfl,hw⟩⟩,hr⟩
  have hc:=zCO T.fl (by rw [Tr.fl_len];omega)
  rw [hck] at hc
  refine zAd Tryz.func33 rfl Tryz.ntmps33 Tryz.results33 rfl ?_
  intro wb St0
  repeat' first | apply en_n|apply zAH|apply zAB|apply zAF|apply w0|(apply zBS;exact rfl;exact rfl;first|assumption|omega)|(apply zAV (hb:=zCH) (hc:=hc);exact zAX rfl zAG)|apply ay (hd:=rfl)|exact zAE rfl|exact zAb rfl|exact zAQ rfl|apply zAI|apply zAP
  refine zCE 4 false 23 1 rfl rfl ?_
  refine zAr (α:=List (List Nd) × Tr) (fun p=>p.2.wf ∧ (∀ n ∈ p.2.fl,zBh n = true) ∧ p.2.sz ≤ 4000 ∧ p.1 ++ (zBi p.2).1 = (zBi T).1 ∧ (zBi p.2).2 = (zBi T).2) (fun p=>[(0,.d (zAc p.2.fl)),(4,.buf 0 (p.1.map zAc).length)]) (fun p=>[.buf false 23 1 (p.1.map zAc)]) (fun p=>p.2.sz) ([],T) ⟨hw,hr,hL,rfl,rfl⟩
    (zAO (zAA rfl (zBq rfl rfl zAa)) (zAu rfl rfl rfl zAN) rfl rfl) ?_
  rintro ⟨A,t⟩ ⟨h1,h2,h3,h4,h5⟩
  dsimp only at h1 h2 h3 h4 h5 ⊢
  match t,h1,h2,h3,h4,h5 with
  | .mk x ks,h1,h2,h3,h4,h5 =>
    have hx:=(At.top h1).here
    by_cases ht : x.text = arrT
    · obtain ⟨a,b,rfl⟩:=zJ6 h2 h1 ht
      rw [zDr ht] at h4 h5
      dsimp only at h4 h5
      have hat:=At.top h1
      have hk0:=hat.kids_get (i:=0) (by simp)
      have hk1:=hat.kids_get (i:=1) (by simp)
      have e0 : kidAt 0 [a,b] 0 = 1:=zCD 0 _
      have e1 : kidAt 0 [a,b] 1 = 1 + a.sz:=by rw [zCu (k:=a) rfl,e0]
      rw [e0] at hk0
      rw [e1] at hk1
      have hkid:=zCa (Tr.mk x [a,b]).fl 0 (by rw [Tr.fl_len];omega)
      have hfa : (Tr.mk x [a,b]).fl = x :: (a.fl ++ b.fl):=by rw [Tr.fl,flL,flL,flL,List.append_nil]
      have hla:=Tr.fl_len a
      have hXa : ((Tr.mk x [a,b]).fl.take (((1 + a.sz : Nat) : Int)).toNat).drop (((1 : Nat) : Int)).toNat = a.fl:=by
        rw [hfa,Int.toNat_natCast,Int.toNat_natCast,Nat.add_comm,List.take_succ_cons,List.drop_succ_cons,List.drop_zero,← hla,List.take_left]
      have hXb : (Tr.mk x [a,b]).fl.drop (((1 + a.sz : Nat) : Int)).toNat = b.fl:=by
        rw [hfa,Int.toNat_natCast,Nat.add_comm,List.drop_succ_cons,← hla,List.drop_left]
      have hsz : (Tr.mk x [a,b]).sz = a.sz + b.sz + 1:=by rw [Tr.sz,szL,szL,szL];omega
      have hpa:=zBR a
      have hpb:=zBR b
      have hcl:=zNU a.fl (by omega) (fun h=>by rw [h] at hla;simp at hla;omega)
      rw [← hXa] at hcl
      have hw2 : b.wf:=(zCT.1 (by rw [Tr.wf] at h1;exact h1.2)) b (by simp)
      have hr2:=(zHd h2).2 b (by simp)
      have hpl:=(zFW _ T (Nat.le_refl _)).1
      have hAl : A.length ≤ 4000:=by
        have:=congrArg List.length h4
        rw [List.length_append] at this;omega
      have h0 : (0 : Int) < ((Tr.mk x [a,b]).fl.length : Int):=by rw [Tr.fl_len];omega
      have hl : ((Tr.mk x [a,b]).fl.length : Int) = ((a.sz + b.sz + 1 : Nat) : Int):=by rw [Tr.fl_len,hsz]
      have hfin : ∃ y : List (List Nd) × Tr,(y.2.wf ∧ (∀ n ∈ y.2.fl,zBh n = true) ∧ y.2.sz ≤ 4000 ∧ y.1 ++ (zBi y.2).1 = (zBi T).1 ∧ (zBi y.2).2 = (zBi T).2) ∧ y.2.sz < (Tr.mk x [a,b]).sz ∧ y = (A ++ [a.fl],b):=⟨_,⟨hw2,hr2,by show b.sz ≤ _;omega,by rw [← h4];simp,h5⟩,by show b.sz < _;omega,rfl⟩
      clear h1 h2 h4 h5 hat hfa hw2 hr2 hw hr hpl hck hc e0 e1 hL hsz h3
      rw [show arrT = [45,62] from rfl] at ht
      generalize (Tr.mk x [a,b]).fl = t at *
      generalize zBV t ((0 : Nat) : Int) = KK at *
      have hkid : zAj Tryz.prog 54 [zAc t,i64 0] (zBj KK):=hkid
      skip
      repeat' first | apply en_n|apply zAH|apply zAB|apply zAF|apply w0|(apply Y_eqsT;exact rfl;exact rfl;assumption)|(refine zAV zCV hkid (zAX rfl (zAX rfl zAG)))|(refine zAV zJ0 hcl (zAX rfl zAG))|(refine zC5 (by kernel_rfl) ?_;apply aApp (id:=0) (hd:=rfl) (hro:=rfl);exact rfl;exact rfl;(first|exact zAk rfl|exact Co_bb rfl rfl rfl|exact Co_nn rfl);(first|exact rfl|exact (by simp));exact rfl;(with_reducible exact zDu);(with_reducible exact zCP);(with_reducible exact zMN);(with_reducible exact zLQ);(first|exact zCC (fun _=>rfl)|exact zCA rfl))|(apply aJ (hd:=rfl);(first|exact zAk rfl|exact Co_bb rfl rfl rfl|exact Co_nn rfl);exact rfl;(with_reducible first|exact zAW|exact zA7);assumption;omega;exact fun _=>rfl)|apply ay (hd:=rfl)|exact zAE rfl|exact zAC rfl|(apply zAy;exact rfl;(with_reducible exact fn_1))|(apply zAg;exact rfl;(with_reducible first|exact zAs|exact zAv))|exact zAw rfl|exact zAm rfl|(apply Y_sl;(first|exact zAk rfl|exact Co_bb rfl rfl rfl|exact Co_nn rfl);(with_reducible exact zAW);exact rfl;exact rfl;exact fun _=>rfl)|(apply zUK;(first|exact zAk rfl|exact Co_bb rfl rfl rfl|exact Co_nn rfl);(with_reducible exact zAW);exact rfl;exact fun _=>rfl)|(apply zB8;(with_reducible exact zDu);(with_reducible exact zCP);(with_reducible exact zHS);exact rfl;exact rfl;(first|exact zAX rfl zAG|exact zCx rfl rfl rfl zAG|exact zDB rfl zAG);exact rfl)|exact zAK rfl|apply zAI|apply zAP|refine zA6 (by kernel_rfl) (by kernel_rfl) ?_|apply eb_n
      · omega
      · simp only [List.length_map,List.length_cons,List.length_nil];omega
      · omega
      · obtain ⟨y,hy1,hy2,rfl⟩:=hfin
        exact ⟨_,hy1,hy2,zAO (Le_d rfl (by rw [hXb];rfl) (zBq rfl (by simp) zAa)) (zAu rfl rfl (by rw [hXa,List.map_append];rfl) zAN) rfl rfl⟩
    · rw [zEV ht] at h4 h5
      rw [List.append_nil] at h4
      dsimp only at h4 h5
      have hfl : (Tr.mk x ks).fl ≠ []:=by rw [Tr.fl];simp
      have hlen : (Tr.mk x ks).fl.length ≤ 2000000:=by rw [Tr.fl_len];omega
      have hcl:=zNU _ hlen hfl
      have h0 : (0 : Int) < ((Tr.mk x ks).fl.length : Int):=by rw [Tr.fl_len];have:=zBR (Tr.mk x ks);omega
      clear h1 h2 h3 hfl
      rw [← h4,← h5]
      rw [show arrT = [45,62] from rfl] at ht
      generalize (Tr.mk x ks).fl = t at *
      skip
      repeat' first | apply en_n|apply zAH|apply zAB|apply zAF|apply w0|(apply Y_eqsF;exact rfl;exact rfl;assumption)|(refine zAV zJ0 hcl (zAX rfl zAG))|(apply aJ (hd:=rfl);(first|exact zAk rfl|exact Co_bb rfl rfl rfl|exact Co_nn rfl);exact rfl;(with_reducible exact zAW);assumption;omega;exact fun _=>rfl)|apply ay (hd:=rfl)|exact zAE rfl|exact zAC rfl|(apply zAy;exact rfl;(with_reducible exact fn_1))|(apply zAg;exact rfl;(with_reducible exact zAv))|exact zAw rfl|exact zAm rfl|exact zAQ rfl|apply zAM|apply zAt|apply en_e|apply eb_e|apply zAJ|(apply zSa;exact rfl;exact rfl;(first|exact rfl|(simp;done));exact rfl)
      all_goals rfl
theorem zFQ (t : List Nd) (hL : t.length ≤ 2000000) : zAj Tryz.prog 33 [zAc t] (.tup [zFk (zCG t).1,zAc (zCG t).2]):=by
  by_cases hc : ckT t = 0
  · obtain ⟨T,rfl,hw,hr,hs⟩:=zIU hc
    rw [zDz hw hc];exact zRm T hw hr hs
  · rw [zCG,if_neg hc];exact zRn t hL hc
end Go.Proofs.YtblomnkamngnbaaGreatDoor
namespace Go.Proofs.YtblomnkamngnbaaGreatDoor
open Go.Sx
attribute [local irreducible] zAT Program.underlying Ylds zBA alex zBc zBO awp zAj zBX RCall zA2 zBH zBQ zA8 zBT zBZ zBd zBr zBN
theorem zMd (s : List UInt8) : zAj Tryz.prog 29 [str s] (bl (zD9 s)):=by
  refine zAd Tryz.func29 rfl Tryz.ntmps29 Tryz.results29 rfl ?_
  intro wb St0
  repeat' first | apply en_n|apply zAH|apply zAB|apply zAF|apply w0|(apply zBE;exact zJg;exact zDf;exact PD_d rfl rfl (PD_d rfl rfl zBy);exact rfl)|(refine zAV zHb (zHk ⟨1,s,0,0⟩) (zAX rfl zAG))|(refine zAV zHb (zHk ⟨5,s,0,0⟩) (zAX rfl zAG))|apply ay (hd:=rfl)|exact zAE rfl|exact zAC rfl|exact zAi rfl rfl|exact zAh rfl rfl|exact w1 rfl rfl|(apply k0 (hd:=rfl);exact rfl;exact rfl)|(apply g1;exact rfl;exact rfl;(intro hb);rotate_left;(intro hb);rotate_right)|apply zAM|apply zAJ|exact res1 rfl
  · rw [zD9,hb];rfl
  · rw [zD9,hb];rfl
theorem zLp (s : List UInt8) : zAj Tryz.prog 30 [str s] (bl (conF s)):=by
  refine zAd Tryz.func30 rfl Tryz.ntmps30 Tryz.results30 rfl ?_
  intro wb St0
  repeat' first | apply en_n|apply zAH|apply zAB|apply zAF|apply w0|(apply zBE;exact zJg;exact zDf;exact PD_d rfl rfl (PD_d rfl rfl zBy);exact rfl)|(refine zAV zHb (zHk ⟨2,s,0,0⟩) (zAX rfl zAG))|apply ay (hd:=rfl)|exact zAE rfl|exact zAC rfl|apply zAM|apply zAJ|exact res1 rfl
  rfl
theorem zQ7 (n want : Int) : zAj Tryz.prog 166 [i64 n,.ref [i64 want]] (bl (decide (n = want))):=by
  refine zAd Tryz.func166 rfl Tryz.ntmps166 Tryz.results166 rfl ?_
  intro wb St0
  repeat' first | apply en_n|apply zAH|apply zAB|apply zAF|apply w0|(apply zOE;exact rfl;(with_reducible exact zAs))|apply ay (hd:=rfl)|exact zAE rfl|exact zAC rfl|exact zCz rfl rfl|apply zAM|apply zAJ|exact res1 rfl
  all_goals rfl
abbrev zNr (n : Int) : D:=.clo 166 [.ref [i64 n]]
theorem zJn (n : Int) : zAj Tryz.prog 143 [i64 n] (zNr n):=by
  refine zAd Tryz.func143 rfl Tryz.ntmps143 Tryz.results143 rfl ?_
  intro wb St0
  repeat' first | (refine zOA (ds:=[i64 n]) 0 2 rfl rfl rfl ?_)|apply en_n|apply zAH|apply zAB|apply zAF|apply w0|(apply aBox (hd:=rfl) (hro:=rfl);exact rfl;exact rfl)|apply ay (hd:=rfl)|exact zAC rfl|exact zCp rfl|exact zF3 rfl|apply zAM|apply zAJ|exact res1 rfl
  all_goals rfl
theorem zGQ (n want : Int) : VCall Tryz.prog (zNr want) [i64 n] (bl (decide (n = want))):=⟨_,_,rfl,zRI,zQ7 n want⟩
theorem zN1 (n : Int) : zAj Tryz.prog 144 [i64 n] (bl (decide (3 ≤ n ∧ n % 2 = 1))):=by
  refine zAd Tryz.func144 rfl Tryz.ntmps144 Tryz.results144 rfl ?_
  intro wb St0
  repeat' first | apply en_n|apply zAH|apply zAB|apply zAF|apply w0|(apply k1u (hd:=rfl);exact rfl;exact rfl)|(apply zMH;exact rfl;exact rfl;exact (by decide))|apply ay (hd:=rfl)|exact zAE rfl|exact zAC rfl|exact zEO rfl rfl|exact zCz rfl rfl|exact zAi rfl rfl|exact zAh rfl rfl|exact w1 rfl rfl|(apply gD;exact rfl;exact rfl;(intro hb);rotate_left;(intro hb);rotate_right)|apply zAM|apply zAJ|exact res1 rfl
  · refine zC4 ?_
    rw [Int.tmod_eq_emod_of_nonneg (by omega),decide_eq_decide];omega
  · refine zC4 ?_
    symm;rw [decide_eq_false_iff_not];omega
theorem zN0 (n : Int) : zAj Tryz.prog 145 [i64 n] (bl true):=by
  refine zAd Tryz.func145 rfl Tryz.ntmps145 Tryz.results145 rfl ?_
  intro wb St0
  repeat' first | apply en_n|apply zAH|apply zAB|apply zAF|apply w0|apply ay (hd:=rfl)|exact zAC rfl|apply zAM|apply zAJ|exact res1 rfl
  all_goals rfl
theorem zFV (k : Int) : zAj Tryz.prog 104 [i64 k] (bl (patK k)):=by
  refine zAd Tryz.func104 rfl Tryz.ntmps104 Tryz.results104 rfl ?_
  intro wb St0
  repeat' first | apply en_n|apply zAH|apply zAB|apply zAF|apply w0|(apply k1u (hd:=rfl);exact rfl;exact rfl)|apply ay (hd:=rfl)|exact zAE rfl|exact zAC rfl|exact zG9 rfl rfl|exact zEO rfl rfl|exact zAi rfl rfl|exact zAh rfl rfl|exact w1 rfl rfl|(apply gD;exact rfl;exact rfl;(intro hb);rotate_left;(intro hb);rotate_right)|apply zAM|apply zAJ|exact res1 rfl
  · refine zC4 ?_
    rw [patK,decide_eq_decide];omega
  · refine zC4 ?_
    symm;rw [patK,decide_eq_false_iff_not];omega
def zSh (k : Int) : D :=
  if k = 1 ∨ k = 23 ∨ k = 2 ∨ k = 3 ∨ k = 22 ∨ k = 4 ∨ k = 21 then zNr 0
  else if k = 5 ∨ k = 11 then zNr 1 else if k = 7 ∨ k = 8 ∨ k = 12 ∨ k = 6 then zNr 2 else if k = 9 then zNr 3
  else if k = 10 then .clo 144 [] else .clo 145 []
def zMt (k : Int) : D :=
  if namK k = true then .clo 29 [] else if k = 4 ∨ k = 24 then .clo 30 [] else .val .nilFunc
def zRO (k : Int) : D :=
  if okK k = true then .agg [bl (numK k),bl (decide (k = 2)),zMt k,zSh k,bl true] else .agg [bl false,bl false,.val .nilFunc,.val .nilFunc,bl false]
theorem zO9 (k n : Int) (h : okK k = true) : VCall Tryz.prog (zSh k) [i64 n] (bl (cntK k n)):=by
  unfold zSh
  split
  · rename_i c
    have e : cntK k n = decide (n = 0):=by
      unfold cntK
      rw [if_neg (by omega),if_neg (by omega),if_neg (by omega),if_neg (by omega),if_neg (by omega)]
    rw [e];exact zGQ n 0
  · split
    · rename_i c
      rw [cntK,if_pos c];exact zGQ n 1
    · split
      · rename_i c
        rw [cntK,if_neg (by omega),if_pos (by omega)];exact zGQ n 2
      · split
        · rename_i c
          rw [cntK,if_neg (by omega),if_neg (by omega),if_pos c];exact zGQ n 3
        · split
          · rename_i c
            rw [cntK,if_neg (by omega),if_neg (by omega),if_neg (by omega),if_pos c];exact ⟨_,_,rfl,zNx,zN1 n⟩
          · have h2:=of_decide_eq_true h
            rw [cntK,if_neg (by omega),if_neg (by omega),if_neg (by omega),if_neg (by omega),if_pos (by omega)];exact ⟨_,_,rfl,zNw,zN0 n⟩
theorem zGI {k : Int} (h : okK k = true) : k = 1 ∨ k = 2 ∨ k = 3 ∨ k = 4 ∨ k = 5 ∨ k = 6 ∨ k = 7 ∨ k = 8 ∨ k = 9 ∨ k = 10 ∨ k = 11 ∨ k = 12 ∨ k = 21 ∨ k = 22 ∨ k = 23 ∨ k = 24:=by
  have:=of_decide_eq_true h;omega
set_option maxHeartbeats 4000000 in
theorem zPW (k : Int) : zAj Tryz.prog 126 [i64 k] (zRO k):=by
  have j0:=zJn 0
  have j1:=zJn 1
  have j2:=zJn 2
  have j3:=zJn 3
  refine zH2 Tryz.func126 rfl Tryz.ntmps126 Tryz.results126 rfl ?_
  intro wb St0
  cases hok : okK k with
  | true =>
    rcases zGI hok with rfl | rfl | rfl | rfl | rfl | rfl | rfl | rfl | rfl | rfl | rfl | rfl | rfl | rfl | rfl | rfl
    all_goals
      repeat' first | apply en_n|apply zAH|apply zAB|apply zAF|apply w0|(apply zBD;exact rfl;exact rfl;first|assumption|omega)|(apply zA9;exact rfl;exact rfl;first|assumption|omega)|(refine zAV zJw j0 (zAX rfl zAG))|(refine zAV zJw j1 (zAX rfl zAG))|(refine zAV zJw j2 (zAX rfl zAG))|(refine zAV zJw j3 (zAX rfl zAG))|(apply zBE;exact zGu;exact zDN;exact PD_d rfl rfl (PD_d rfl rfl (PD_d rfl rfl zBy));exact rfl)|(apply zBE;exact zGu;exact zDN;exact PD_c rfl (PD_d rfl rfl (PD_d rfl rfl zBy));exact rfl)|(apply zBE;exact zGu;exact zDN;exact PD_c rfl (PD_c rfl (PD_d rfl rfl zBy));exact rfl)|(apply zBE;exact zGu;exact zDN;exact PD_d rfl rfl (PD_d rfl rfl zBy);exact rfl)|(apply zBE;exact zGu;exact zDN;exact PD_c rfl (PD_d rfl rfl zBy);exact rfl)|(refine zCr ?_)|(refine zJd ?_)|(refine RV_c rfl rfl zEl rfl rfl zFp ?_)|(apply zA4 (hd:=rfl) (hro:=rfl);(with_reducible exact zDN))|apply ay (hd:=rfl)|exact zAE rfl|exact zAC rfl|(refine w0' ?_)|(apply zAx;exact rfl;exact rfl;exact rfl;(with_reducible exact zEl);exact rfl;exact rfl;exact rfl;exact rfl)|exact zAK rfl|exact zAQ rfl|apply zAI|apply zAP|apply zAM|apply en_r|apply eb_r
    all_goals rfl
  | false =>
    have h1:=of_decide_eq_false hok
    have n1 : ¬ k = 1:=by omega
    rw [zRO,if_neg (by rw [hok];decide)]
    repeat' first | apply en_n|apply zAH|apply zAB|apply zAF|apply w0|(apply zA9;exact rfl;exact rfl;first|assumption|omega)|(apply zBE;exact zGu;exact zDN;exact zBy;exact rfl)|(refine zCr ?_)|(refine zJd ?_)|(refine RV_c rfl rfl zEl rfl rfl zFp ?_)|(apply zA4 (hd:=rfl) (hro:=rfl);(with_reducible exact zDN))|apply ay (hd:=rfl)|exact zAE rfl|exact zAC rfl|(refine w0' ?_)|(apply zAx;exact rfl;exact rfl;exact rfl;(with_reducible exact zEl);exact rfl;exact rfl;exact rfl;exact rfl)|exact zAQ rfl|apply zAI|apply zAP|apply zAM|apply eb_n
    all_goals rfl
end Go.Proofs.YtblomnkamngnbaaGreatDoor
namespace Go.Proofs.YtblomnkamngnbaaGreatDoor
open Go.Sx
attribute [local irreducible] zAT Program.underlying Ylds zBA alex zBc zBO awp zAj zBX RCall zA2 zBH zBQ zA8 zBT zBZ zBd zBr zBN
theorem zRy {L : List Nd} {n : Nat} {x : Nd} {ks : List Tr} (h : At L n (.mk x ks)) (h8 : x.kind = 8) (hc : cntK x.kind x.kids = true) : ∃ y,L[n + 1]? = some y ∧ y.kind = Tr.kind1 (.mk x ks):=by
  rw [cntK,if_neg (by omega),if_pos (by omega)] at hc
  have hk:=h.kidn
  have hc:=of_decide_eq_true hc
  match ks,hk with
  | [],hk=>simp at hk;omega
  | k :: r,_ =>
    have h1:=(h.kid (i:=0) (k:=k) rfl).hd
    rw [zCD] at h1
    exact ⟨k.hd,h1,rfl⟩
def genE (a b : Bool) (nm : Option Bool) (kp r pat : Bool) (x : Nd) (bad : Prop) [Decidable bad] : Int :=
  if kp ≠ pat ∨ r = false then 61
  else if (a = true ∧ W x.num ≠ x.num) ∨ (a = false ∧ x.num ≠ 0) then 61
  else if (b = true ∧ 200 < x.text.length) ∨ (b = false ∧ nm = none ∧ x.text ≠ []) then 61
  else if bad then 61
  else if nm = some false then 62 else 0
theorem zPS (x : Nd) (kx : Int) (pat : Bool) (hok : okK x.kind = true) :
    zD8 x kx pat = genE (numK x.kind) (decide (x.kind = 2)) (if namK x.kind = true then some (zD9 x.text) else if x.kind = 4 ∨ x.kind = 24 then some (conF x.text) else none) (patK x.kind) (cntK x.kind x.kids) pat x (x.kind = 8 ∧ kx ≠ 5):=by
  obtain ⟨kind,text,num,kids⟩:=x
  dsimp only at *
  generalize hc : cntK kind kids = c
  unfold zD8 genE
  dsimp only
  rw [hc,hok]
  clear hc
  generalize zD9 text = a1
  generalize conF text = a2
  rcases zGI hok with rfl | rfl | rfl | rfl | rfl | rfl | rfl | rfl | rfl | rfl | rfl | rfl | rfl | rfl | rfl | rfl <;> simp [numK,namK,patK]
set_option maxHeartbeats 8000000 in
theorem zO1 (L : List Nd) (n : Nat) (x y : Nd) (kx : Int) (r nr : Bool) (pat : Bool) (kd nm : D) (hx : L[n]? = some x) (hy : x.kind = 8 → r = true → L[n + 1]? = some y ∧ y.kind = kx) (hlen : n < 2000000)
    (hf : zAj Tryz.prog 126 [i64 x.kind] (.agg [bl false,bl false,nm,kd,bl true])) (hkd : VCall Tryz.prog kd [i64 x.kids] (bl r)) (hnm : VCall Tryz.prog nm [str x.text] (bl nr)) :
    zAj Tryz.prog 97 [zAc L,i64 (n : Int),bl pat] (i64 (genE false false (some nr) (patK x.kind) r pat x (x.kind = 8 ∧ kx ≠ 5))):=by
  have hp:=zFV x.kind
  have hdf:=hnm.fn
  by_cases hc : patK x.kind = pat ∧ r = true
  · obtain ⟨hc,hr⟩:=hc
    subst hr
    rw [hc] at hp ⊢
    have hl2 : x.kind = 8 → n + 1 < L.length:=fun h8=>(List.getElem?_eq_some_iff.1 (hy h8 rfl).1).1
    have hv2 : ∀ v,x.kind = 8 → L[((n : Int) + 1).toNat]? = some v → v.kind = kx:=fun v h8 hv=>by
      obtain ⟨h1,h2⟩:=hy h8 rfl
      rw [show ((n : Int) + 1).toNat = n + 1 by omega,h1] at hv
      injection hv with hv;rw [← hv];exact h2
    cases pat
    all_goals
      refine zAd Tryz.func97 rfl Tryz.ntmps97 Tryz.results97 rfl ?_
      intro wb St0
      repeat' first | apply en_n|apply zAH|apply zAB|apply zAF|apply w0|(apply k1u (hd:=rfl);exact rfl;exact rfl)|(refine zAV zFI hf (zAX rfl zAG))|(refine zAV zDQ hp (zAX rfl zAG))|(refine zIe hkd rfl (zAX rfl zAG))|(refine zIe hnm rfl (zAX rfl zAG))|(refine zSJ rfl hdf rfl fy_s)|(refine zQB rfl hdf rfl fy_s)|(apply zFM;exact rfl;exact rfl;with_reducible exact zF8)|(apply aJ (hd:=rfl);(first|exact zAk rfl|exact Co_bb rfl rfl rfl|exact Co_nn rfl);exact rfl;(with_reducible exact zAW);assumption;omega;exact fun _=>rfl)|(apply aI (hd:=rfl);(first|exact zAk rfl|exact Co_bb rfl rfl rfl|exact Co_nn rfl);exact rfl;(with_reducible exact zAW);exact fun _=>rfl;rotate_left;intro v hv;rotate_right)|(apply zA4 (hd:=rfl) (hro:=rfl);(with_reducible first|exact zDN|exact zAp))|apply ay (hd:=rfl)|exact zAE rfl|exact zAC rfl|(apply zAy;exact rfl;(with_reducible exact fn_0))|(apply zAg;exact rfl;(with_reducible exact zAe))|(apply zAf;exact rfl;(with_reducible exact zAY);exact rfl)|exact zCz rfl rfl|exact zD6 rfl rfl|exact zBC rfl rfl|exact zBo rfl|exact zAi rfl rfl|exact zAh rfl rfl|(apply zAR;exact rfl;(with_reducible first|exact ff_0|exact ff_1|exact ff_2|exact ff_3|exact ff_4|exact fn_0|exact fn_1|exact fn_2|exact fn_3))|(apply zAU;exact rfl;(with_reducible first|exact zRv|exact zMX|exact zAs|exact zAe|exact zBI|exact zAv|exact zF9);exact rfl;exact rfl)|exact w1 rfl rfl|(apply k1 (hd:=rfl);exact rfl;exact rfl)|(apply gD;exact rfl;exact rfl;(intro hb);rotate_left;(intro hb);rotate_right)|(refine w0' ?_)|(apply zAx;exact rfl;exact rfl;exact rfl;(with_reducible first|exact zEl|exact zAY);exact rfl;exact rfl;exact rfl;exact rfl)|(apply zAz;exact rfl;(intro hb);rotate_left;(intro hb);rotate_right)|exact zAQ rfl|(apply zCZ;exact rfl;(intro hb);rotate_left;(intro hb);rotate_right)|apply zAI|apply zAP|apply zAM|refine zA6 (by kernel_rfl) (by kernel_rfl) ?_|apply en_r|apply eb_n|apply eb_r|apply zAJ|exact res1 rfl
    all_goals try omega
    all_goals try (have:=hl2 ‹_›;omega)
    all_goals try refine zCl ?_
    all_goals first
      | (simp_all [genE];done)
      | (rename_i v hv hb'
         have:=hv2 v (by assumption) hv
         simp_all [genE];done)
      | skip
    all_goals skip
  · have hz : genE false false (some nr) (patK x.kind) r pat x (x.kind = 8 ∧ kx ≠ 5) = 61:=by
      rw [genE,if_pos]
      by_cases c : patK x.kind = pat
      · exact .inr (by cases r with
          | false=>rfl
          | true=>exact absurd ⟨c,rfl⟩ hc)
      · exact .inl c
    rw [hz]
    have hpp:=hp
    generalize patK x.kind = kp at *
    cases kp <;> cases pat <;> cases r
    all_goals first
      | exact absurd ⟨rfl,rfl⟩ hc
      | skip
    all_goals
      refine zAd Tryz.func97 rfl Tryz.ntmps97 Tryz.results97 rfl ?_
      intro wb St0
      repeat' first | apply en_n|apply zAH|apply zAB|apply zAF|apply w0|(apply k0u (hd:=rfl);exact rfl;exact rfl)|(refine zAV zFI hf (zAX rfl zAG))|(refine zAV zDQ hp (zAX rfl zAG))|(refine zIe hkd rfl (zAX rfl zAG))|(apply zFM;exact rfl;exact rfl;with_reducible exact zF8)|(apply aJ (hd:=rfl);(first|exact zAk rfl|exact Co_bb rfl rfl rfl|exact Co_nn rfl);exact rfl;(with_reducible exact zAW);assumption;omega;exact fun _=>rfl)|(apply zA4 (hd:=rfl) (hro:=rfl);(with_reducible first|exact zDN|exact zAp))|apply ay (hd:=rfl)|exact zAE rfl|exact zAC rfl|(apply zAf;exact rfl;(with_reducible exact zAY);exact rfl)|exact zBo rfl|exact zAi rfl rfl|exact zAh rfl rfl|(apply zAR;exact rfl;(with_reducible first|exact ff_3|exact ff_4|exact fn_0|exact fn_3))|(apply zAU;exact rfl;(with_reducible first|exact zMX|exact zAs|exact zAe|exact zF9);exact rfl;exact rfl)|exact w1 rfl rfl|(refine w0' ?_)|(apply zAx;exact rfl;exact rfl;exact rfl;(with_reducible first|exact zEl|exact zAY);exact rfl;exact rfl;exact rfl;exact rfl)|exact zAK rfl|apply zAI|apply zAM|apply en_r|apply eb_r|apply zAJ|exact res1 rfl
    all_goals rfl
set_option maxHeartbeats 8000000 in
theorem zQ2 (L : List Nd) (n : Nat) (x : Nd) (a b r : Bool) (pat : Bool) (kd : D) (hx : L[n]? = some x) (h8 : x.kind ≠ 8) (hab : a = false ∨ b = false)
    (hf : zAj Tryz.prog 126 [i64 x.kind] (.agg [bl a,bl b,.val .nilFunc,kd,bl true])) (hkd : VCall Tryz.prog kd [i64 x.kids] (bl r)) :
    zAj Tryz.prog 97 [zAc L,i64 (n : Int),bl pat] (i64 (genE a b none (patK x.kind) r pat x False)):=by
  have hp:=zFV x.kind
  have hW:=zMS x.num
  have hdf : dfn (.val .nilFunc) = some false:=rfl
  by_cases hc : patK x.kind = pat ∧ r = true
  · obtain ⟨hc,hr⟩:=hc
    subst hr
    rw [hc] at hp ⊢
    cases pat <;> cases a <;> cases b
    all_goals first
      | (exfalso;rcases hab with h | h <;> cases h;done)
      | skip
    all_goals
      refine zAd Tryz.func97 rfl Tryz.ntmps97 Tryz.results97 rfl ?_
      intro wb St0
      repeat' first | apply en_n|apply zAH|apply zAB|apply zAF|apply w0|(apply k1u (hd:=rfl);exact rfl;exact rfl)|(apply zBD;exact rfl;exact rfl;first|assumption|omega)|(apply zA9;exact rfl;exact rfl;first|assumption|omega)|(apply zB4;exact rfl;exact rfl;first|assumption|omega)|(apply zDU;exact rfl;with_reducible exact ustr)|exact zGg rfl rfl|(refine zAV zFI hf (zAX rfl zAG))|(refine zAV zDQ hp (zAX rfl zAG))|(refine zIe hkd rfl (zAX rfl zAG))|(refine zAV zM3 hW (zAX rfl zAG))|(refine zSJ rfl hdf rfl fy_s)|(refine zQB rfl hdf rfl fy_s)|(apply zFM;exact rfl;exact rfl;with_reducible exact zF8)|(apply aJ (hd:=rfl);(first|exact zAk rfl|exact Co_bb rfl rfl rfl|exact Co_nn rfl);exact rfl;(with_reducible exact zAW);assumption;omega;exact fun _=>rfl)|(apply aI (hd:=rfl);(first|exact zAk rfl|exact Co_bb rfl rfl rfl|exact Co_nn rfl);exact rfl;(with_reducible exact zAW);exact fun _=>rfl;rotate_left;intro v hv;rotate_right)|(apply zA4 (hd:=rfl) (hro:=rfl);(with_reducible first|exact zDN|exact zAp))|apply ay (hd:=rfl)|exact zAE rfl|exact zAC rfl|(apply zAy;exact rfl;(with_reducible exact fn_0))|(apply zAg;exact rfl;(with_reducible exact zAe))|(apply zAf;exact rfl;(with_reducible exact zAY);exact rfl)|exact zEk rfl rfl|exact zD6 rfl rfl|exact zBC rfl rfl|exact zBo rfl|exact zAi rfl rfl|exact zAh rfl rfl|(apply zAR;exact rfl;(with_reducible first|exact ff_0|exact ff_1|exact ff_2|exact ff_3|exact ff_4|exact fn_0|exact fn_1|exact fn_2|exact fn_3))|(apply zAU;exact rfl;(with_reducible first|exact zRv|exact zMX|exact zAs|exact zAe|exact zBI|exact zAv|exact zF9);exact rfl;exact rfl)|exact w1 rfl rfl|(apply k1 (hd:=rfl);exact rfl;exact rfl)|(refine w0' ?_)|(apply zAx;exact rfl;exact rfl;exact rfl;(with_reducible first|exact zEl|exact zAY);exact rfl;exact rfl;exact rfl;exact rfl)|(apply zAz;exact rfl;(intro hb);rotate_left;(intro hb);rotate_right)|exact zAK rfl|exact zAQ rfl|apply zAI|apply zAP|apply zAM|refine zA6 (by kernel_rfl) (by kernel_rfl) ?_|apply en_r|apply eb_n|apply eb_r|apply zAJ|exact res1 rfl
    all_goals try (exfalso;omega)
    all_goals refine zCl ?_
    all_goals first
      | (simp_all [genE];done)
      | (simp_all [genE];omega)
      | skip
  · have hz : genE a b none (patK x.kind) r pat x False = 61:=by
      rw [genE,if_pos]
      by_cases c : patK x.kind = pat
      · exact .inr (by cases r with
          | false=>rfl
          | true=>exact absurd ⟨c,rfl⟩ hc)
      · exact .inl c
    rw [hz]
    have hpp:=hp
    generalize patK x.kind = kp at *
    cases kp <;> cases pat <;> cases r
    all_goals first
      | exact absurd ⟨rfl,rfl⟩ hc
      | skip
    all_goals
      refine zAd Tryz.func97 rfl Tryz.ntmps97 Tryz.results97 rfl ?_
      intro wb St0
      repeat' first | apply en_n|apply zAH|apply zAB|apply zAF|apply w0|(apply k0u (hd:=rfl);exact rfl;exact rfl)|(refine zAV zFI hf (zAX rfl zAG))|(refine zAV zDQ hp (zAX rfl zAG))|(refine zIe hkd rfl (zAX rfl zAG))|(apply zFM;exact rfl;exact rfl;with_reducible exact zF8)|(apply aJ (hd:=rfl);(first|exact zAk rfl|exact Co_bb rfl rfl rfl|exact Co_nn rfl);exact rfl;(with_reducible exact zAW);assumption;omega;exact fun _=>rfl)|(apply zA4 (hd:=rfl) (hro:=rfl);(with_reducible first|exact zDN|exact zAp))|apply ay (hd:=rfl)|exact zAE rfl|exact zAC rfl|(apply zAf;exact rfl;(with_reducible exact zAY);exact rfl)|exact zBo rfl|exact zAi rfl rfl|exact zAh rfl rfl|(apply zAR;exact rfl;(with_reducible first|exact ff_3|exact ff_4|exact fn_0|exact fn_3))|(apply zAU;exact rfl;(with_reducible first|exact zMX|exact zAs|exact zAe|exact zF9);exact rfl;exact rfl)|exact w1 rfl rfl|(refine w0' ?_)|(apply zAx;exact rfl;exact rfl;exact rfl;(with_reducible first|exact zEl|exact zAY);exact rfl;exact rfl;exact rfl;exact rfl)|exact zAK rfl|apply zAI|apply zAM|apply en_r|apply eb_r|apply zAJ|exact res1 rfl
    all_goals rfl
theorem zSe (L : List Nd) (n : Nat) (x : Nd) (ks : List Tr) (h : At L n (.mk x ks)) (pat : Bool) (hL : L.length ≤ 2000000) :
    zAj Tryz.prog 97 [zAc L,i64 (n : Int),bl pat] (i64 (zD8 x (Tr.kind1 (.mk x ks)) pat)):=by
  have hx:=h.here
  have hlen:=h.len
  have hsz:=zBR (.mk x ks)
  have hf:=zPW x.kind
  cases hok : okK x.kind with
  | false =>
    have hp:=zFV x.kind
    rw [zRO,if_neg (by rw [hok];decide)] at hf
    have e : zD8 x (Tr.kind1 (.mk x ks)) pat = 61:=by rw [zD8,if_pos (.inl hok)]
    rw [e]
    refine zAd Tryz.func97 rfl Tryz.ntmps97 Tryz.results97 rfl ?_
    intro wb St0
    repeat' first | apply en_n|apply zAH|apply zAB|apply zAF|apply w0|(apply k0u (hd:=rfl);exact rfl;exact rfl)|(refine zAV zFI hf (zAX rfl zAG))|(apply aJ (hd:=rfl);(first|exact zAk rfl|exact Co_bb rfl rfl rfl|exact Co_nn rfl);exact rfl;(with_reducible exact zAW);assumption;omega;exact fun _=>rfl)|(apply zA4 (hd:=rfl) (hro:=rfl);(with_reducible first|exact zDN|exact zAp))|apply ay (hd:=rfl)|exact zAE rfl|exact zAC rfl|(apply zAf;exact rfl;(with_reducible exact zAY);exact rfl)|exact zBo rfl|exact zAi rfl rfl|(apply zAR;exact rfl;(with_reducible first|exact ff_4|exact fn_0))|(apply zAU;exact rfl;(with_reducible first|exact zAe|exact zF9);exact rfl;exact rfl)|(refine w0' ?_)|(apply zAx;exact rfl;exact rfl;exact rfl;(with_reducible first|exact zEl|exact zAY);exact rfl;exact rfl;exact rfl;exact rfl)|exact zAK rfl|apply zAI|apply zAM|apply en_r|apply eb_r|apply zAJ|exact res1 rfl
    all_goals rfl
  | true =>
    have hkd:=zO9 x.kind x.kids hok
    rw [zRO,if_pos hok] at hf
    rw [zPS x _ pat hok]
    by_cases hn : namK x.kind = true
    · have ha : numK x.kind = false:=by
        have:=of_decide_eq_true hn;rw [numK,decide_eq_false_iff_not];omega
      have hb : decide (x.kind = 2) = false:=by
        have:=of_decide_eq_true hn;rw [decide_eq_false_iff_not];omega
      rw [if_pos hn,ha,hb]
      rw [ha,hb,zMt,if_pos hn] at hf
      obtain ⟨y,hy⟩ : ∃ y : Nd,(x.kind = 8 → cntK x.kind x.kids = true → L[n + 1]? = some y ∧ y.kind = Tr.kind1 (.mk x ks)):=by
        by_cases hc : x.kind = 8 ∧ cntK x.kind x.kids = true
        · obtain ⟨y,hy⟩:=zRy h hc.1 hc.2
          exact ⟨y,fun _ _=>hy⟩
        · exact ⟨x,fun a b=>absurd ⟨a,b⟩ hc⟩
      exact zO1 L n x y _ _ _ pat _ _ hx hy (by omega) hf hkd ⟨_,_,rfl,zJt,zMd x.text⟩
    · by_cases hn2 : x.kind = 4 ∨ x.kind = 24
      · have ha : numK x.kind = false:=by rw [numK,decide_eq_false_iff_not];omega
        have hb : decide (x.kind = 2) = false:=by rw [decide_eq_false_iff_not];omega
        rw [if_neg hn,if_pos hn2,ha,hb]
        rw [ha,hb,zMt,if_neg hn,if_pos hn2] at hf
        exact zO1 L n x x _ _ _ pat _ _ hx (fun h8=>by omega) (by omega) hf hkd ⟨_,_,rfl,zJu,zLp x.text⟩
      · have h8 : x.kind ≠ 8:=fun c=>hn (by rw [namK,decide_eq_true_eq];omega)
        rw [if_neg hn,if_neg hn2]
        rw [zMt,if_neg hn,if_neg hn2] at hf
        have e : genE (numK x.kind) (decide (x.kind = 2)) none (patK x.kind) (cntK x.kind x.kids) pat x (x.kind = 8 ∧ Tr.kind1 (.mk x ks) ≠ 5) = genE (numK x.kind) (decide (x.kind = 2)) none (patK x.kind) (cntK x.kind x.kids) pat x False:=by
          simp [genE,h8]
        rw [e]
        refine zQ2 L n x _ _ _ pat _ hx h8 ?_ hf hkd
        by_cases c : x.kind = 2
        · exact .inl (by rw [numK,decide_eq_false_iff_not];omega)
        · exact .inr (decide_eq_false c)
end Go.Proofs.YtblomnkamngnbaaGreatDoor
namespace Go.Proofs
open Go.Shelf Go.RowKit Go.Lib Go.Sort
theorem Tryz.sortNone (p : Option Addr) (cap : Nat) (w : World) :
    Calls Tryz.prog 101 #[.slice p 0 cap] w fun e w'=>e = .returned (.tuple #[]) ∧ w' = w:=Any.slices_Sort_string_none Tryz.lays190 p cap w
theorem Tryz.compactNone (a : Option Addr) (cap : Nat) (w : World) : Calls Tryz.prog 102 #[.slice a 0 cap] w fun e w'=>e = .returned (.slice a 0 cap) ∧ w' = w:=Any.slices_Compact_string_empty Tryz.lays194 a cap w
end Go.Proofs
namespace Go.Proofs.YtblomnkamngnbaaGreatDoor
open Go.Sx Go.Shelf Go.RowKit Go.Lib Go.Sort
def srtT (L : List (List UInt8)) : List (List UInt8):=L.mergeSort fun x y=>decide (x ≤ y)
theorem zGA (L : List (List UInt8)) : (srtT L).Perm L:=List.mergeSort_perm _ _
theorem zLk (L : List (List UInt8)) : (srtT L).Pairwise fun x y=>x ≤ y:=by
  have:=List.pairwise_mergeSort (le:=fun x y : List UInt8=>decide (x ≤ y)) (fun a b c h1 h2=>by simp at *;exact List.le_trans h1 h2) (fun a b=>by simp;exact List.le_total a b) L
  exact this.imp fun h=>by simpa using h
theorem zIS (zs : List (List UInt8)) : (Lib.compact zs).length = ((List.range zs.length).filter (keeps zs.toArray)).length:=by
  rw [Lib.compact,compactUpTo,List.length_map]
theorem zJL (zs : List (List UInt8)) : (Lib.compact zs).length ≤ zs.length:=by
  rw [zIS]
  have:=List.length_filter_le (keeps zs.toArray) (List.range zs.length)
  rwa [List.length_range] at this
theorem zL8 {zs : List (List UInt8)} (hs : zs.Pairwise fun x y=>x ≤ y) : (Lib.compact zs).length < zs.length ↔ ¬ zs.Nodup:=by
  have hk : (Lib.compact zs).length = zs.length ↔ ∀ j,j < zs.length → keeps zs.toArray j = true:=by
    rw [zIS]
    conv=>lhs;rhs;rw [← List.length_range (n:=zs.length)]
    rw [List.length_filter_eq_length_iff]
    simp only [List.mem_range]
  have hle:=zJL zs
  have hget : ∀ j (hj : j < zs.length),zs.toArray[j]! = zs[j]:=fun j hj=>by rw [getElem!_pos _ _ (by simpa using hj)];simp
  have hn : zs.Nodup ↔ ∀ j,j < zs.length → keeps zs.toArray j = true:=by
    rw [List.Nodup,List.pairwise_iff_getElem]
    rw [List.pairwise_iff_getElem] at hs
    constructor
    · intro h j hj
      by_cases h0 : j = 0
      · subst h0;exact keeps_lt_one _ 0 (by omega)
      · refine keeps_pos ?_
        rw [hget j hj,hget (j - 1) (by omega)]
        exact fun e=>h (j - 1) j (by omega) hj (by omega) e.symm
    · intro h i j hi hj hij e
      have h1:=h j hj
      simp only [keeps,decide_eq_true_eq] at h1
      rcases h1 with h1 | h1
      · omega
      · rw [hget j hj,hget (j - 1) (by omega)] at h1
        apply h1
        rcases Nat.lt_or_ge i (j - 1) with h2 | h2
        · have a1:=hs i (j - 1) hi (by omega) h2
          have a2:=hs (j - 1) j (by omega) hj (by omega)
          rw [e] at a1
          exact List.le_antisymm a1 a2 |>.symm ▸ rfl
        · have : i = j - 1:=by omega
          subst this;exact e.symm
  rw [hn,← hk];omega
theorem putW_row {w : World} {b n : Nat} {d : Array (List UInt8)} {os : Array Obj} {us : Array Value} {e : TypeId} (hb : w.heap[b]? = some (.cells us e (0,0))) :
    (grow (putRow encStr (Sort.ahead w n) b 0 d) os).heap[b]? = some (.cells (putCells encStr 0 d us) e (0,0)):=by
  have hlt : b < w.heap.size:=(Array.getElem?_eq_some_iff.1 hb).1
  simp only [grow,putRow,mapBlock,Sort.ahead]
  rw [Array.getElem?_append_left (by simpa using hlt),Array.getElem?_modify,if_pos rfl,hb]
  rfl
theorem zNi {w : World} {b n k : Nat} {d : Array (List UInt8)} {os : Array Obj} (hk : k < w.heap.size) (hne : k ≠ b) :
    (grow (putRow encStr (Sort.ahead w n) b 0 d) os).heap[k]? = w.heap[k]?:=by
  simp only [grow,putRow,mapBlock,Sort.ahead]
  rw [Array.getElem?_append_left (by simpa using hk),Array.getElem?_modify,if_neg (fun h=>hne h.symm)]
theorem zKg {w : World} {b n : Nat} {d : Array (List UInt8)} {os : Array Obj} : w.heap.size ≤ (grow (putRow encStr (Sort.ahead w n) b 0 d) os).heap.size:=by
  simp only [grow,putRow,mapBlock,Sort.ahead,Array.size_append,Array.size_modify]
  omega
theorem zLC (L : List (List UInt8)) : zB1 (L.map str) = L.map str:=by
  induction L with
  | nil=>rfl
  | cons x L ih=>show str x :: zB1 (L.map str) = _;rw [ih];rfl
theorem putS {g : Gh} {w : World} {id b e n : Nat} {L L' : List (List UInt8)} {os : Array Obj} (hl : L'.length = L.length) (hi : ObOk g w id (.buf true e 1 (L.map str))) (hb : g.blk id = some b) (hstb : ∀ b o,g.St b o → b < w.heap.size) :
    (∀ k,k < w.heap.size → g.blk id ≠ some k → (grow (putRow encStr (Sort.ahead w n) b 0 L'.toArray) os).heap[k]? = w.heap[k]?) ∧ ObOk g (grow (putRow encStr (Sort.ahead w n) b 0 L'.toArray) os) id (.buf true e 1 (L'.map str)):=by
  obtain ⟨o1,o2,o3,o4,o5⟩:=hi
  have hoth : ∀ k,k < w.heap.size → k ≠ b → (grow (putRow encStr (Sort.ahead w n) b 0 L'.toArray) os).heap[k]? = w.heap[k]?:=fun k hk hne=>zNi hk hne
  refine ⟨fun k hk hne=>hoth k hk fun e=>hne (by rw [hb,e]),?_⟩
  rcases o5 with ⟨o5,_⟩ | ⟨b',us,hb',hw,hus,h1,h2,h3⟩
  · rw [hb] at o5;cases o5
  · rw [hb] at hb';injection hb' with hb';subst hb'
    rw [List.length_map] at o4 h1 h3
    have hin : ∀ t,t < L'.length → (putCells encStr 0 L'.toArray us)[t]? = some (encStr (L'.toArray[t]!)):=fun t ht=>by
      simp only [putCells,Array.getElem?_mapIdx,Array.getElem?_eq_getElem (show t < us.size by omega),Option.map_some]
      rw [if_pos ⟨Nat.zero_le _,by simpa using ht⟩];simp
    refine ⟨o1,fun x hx=>by obtain ⟨v,_,rfl⟩:=List.mem_map.1 hx;rfl,o3,by rw [List.length_map,hl];exact o4,.inr ⟨b,_,hb,putW_row hw,by simp [putCells,hus],fun j u hj hu=>?_,fun j u dd hu hdd=>?_,fun o=>?_⟩⟩
    · rw [List.length_map] at hj
      rw [hin j (by omega)] at hu;injection hu with hu;subst hu;rfl
    · rw [zLC,List.getElem?_map] at hdd
      cases hq : L'[j]? with
      | none=>rw [hq] at hdd;cases hdd
      | some s =>
        rw [hq] at hdd;injection hdd with hdd;subst hdd
        have hj:=(List.getElem?_eq_some_iff.1 hq).1
        rw [hin j hj] at hu;injection hu with hu;subst hu
        have : L'.toArray[j]! = s:=by rw [getElem!_pos _ _ (by simpa using hj)];simpa using (List.getElem?_eq_some_iff.1 hq).2
        rw [this];exact .val _
    · rw [List.length_map,hl];exact h3 o
theorem rowS {g : Gh} {w : World} {id b e : Nat} {L : List (List UInt8)} (hi : ObOk g w id (.buf true e 1 (L.map str))) (hb : g.blk id = some b) : Holds encStr w b 0 L.toArray ∧ b < w.heap.size ∧ L.length ≤ g.cap id:=by
  obtain ⟨o1,o2,o3,o4,o5⟩:=hi
  rcases o5 with ⟨o5,_⟩ | ⟨b',us,hb',hw,hus,h1,h2,h3⟩
  · rw [hb] at o5;cases o5
  · rw [hb] at hb';injection hb' with hb';subst hb'
    rw [List.length_map] at o4 h1
    refine ⟨fun j hj=>?_,(Array.getElem?_eq_some_iff.1 hw).1,o4⟩
    have hj' : j < L.length:=by simpa using hj
    have hu : us[j]? = some (us[j]'(by omega)):=Array.getElem?_eq_getElem _
    have hL : L[j]? = some L[j]:=List.getElem?_eq_getElem hj'
    have r:=h2 j _ (str L[j]) hu (by rw [zLC,List.getElem?_map,hL];rfl)
    have hv:=RepD.val_eq r
    constructor
    · simp only [World.cell?,hw,Option.isSome_none,Bool.false_eq_true,if_false,Nat.zero_add]
      rw [getElem!_pos _ _ (by simpa using hj')]
      rw [hu,hv];simp
    · simp [World.frozen?,hw]
theorem zLl (g : Gh) (w : World) (id e : Nat) (L : List (List UInt8)) (hbd : L.length ≤ 2000000) (hi : ObOk g w id (.buf true e 1 (L.map str))) (hstb : ∀ b o,g.St b o → b < w.heap.size) :
    Calls Tryz.prog 101 #[.slice ((g.blk id).map (⟨·,0,none⟩)) L.length (g.cap id)] w fun e' w' =>
      e' = .returned (.tuple #[]) ∧ w'.os = w.os ∧ w'.tape = w.tape ∧ w'.output = w.output ∧ w.heap.size ≤ w'.heap.size ∧ (∀ k,k < w.heap.size → g.blk id ≠ some k → w'.heap[k]? = w.heap[k]?) ∧ ObOk g w' id (.buf true e 1 ((srtT L).map str)):=by
  cases hb : g.blk id with
  | none =>
    have hL : L = []:=by
      obtain ⟨o1,o2,o3,o4,o5⟩:=hi
      rcases o5 with ⟨_,o5⟩ | ⟨b',us,hb',_⟩
      · rw [List.length_map] at o4;exact List.eq_nil_of_length_eq_zero (by omega)
      · rw [hb] at hb';cases hb'
    subst hL
    refine (Tryz.sortNone none (g.cap id) w).mono ?_
    rintro e' w' ⟨rfl,rfl⟩
    exact ⟨rfl,rfl,rfl,rfl,Nat.le_refl _,fun _ _ _=>rfl,by rw [show srtT [] = [] by simp [srtT]];exact hi⟩
  | some b =>
    obtain ⟨hH,hlt,_⟩:=rowS hi hb
    refine (Tryz.slices_Sort_string b 0 (g.cap id) L w hH hlt (by omega)).mono ?_
    rintro e' w' ⟨rfl,n,os,rfl⟩
    obtain ⟨h1,h2⟩:=putS (L':=srtT L) (n:=n) (os:=os) ((zGA L).length_eq) hi hb hstb
    rw [hb] at h1
    exact ⟨rfl,rfl,rfl,rfl,zKg,h1,h2⟩
theorem zIi (g : Gh) (w : World) (id e b : Nat) (L : List (List UInt8)) (hbd : L.length ≤ 2000000) (hi : ObOk g w id (.buf true e 1 (L.map str))) (hb : g.blk id = some b) (hstb : ∀ b o,g.St b o → b < w.heap.size) :
    Calls Tryz.prog 102 #[.slice ((g.blk id).map (⟨·,0,none⟩)) L.length (g.cap id)] w fun e' w' =>
      e' = .returned (.slice ((g.blk id).map (⟨·,0,none⟩)) (Lib.compact L).length (g.cap id)) ∧ w'.os = w.os ∧ w'.tape = w.tape ∧ w'.output = w.output ∧ w.heap.size ≤ w'.heap.size ∧ (∀ k,k < w.heap.size → g.blk id ≠ some k → w'.heap[k]? = w.heap[k]?) ∧ ObOk g w' id (.buf true e 1 ((Lib.compact L ++ List.replicate (L.length - (Lib.compact L).length) []).map str)):=by
  obtain ⟨hH,hlt,hc⟩:=rowS hi hb
  have hle:=zJL L
  rw [hb]
  refine (Tryz.slices_Compact_string b 0 (g.cap id) L w hH (by omega) hc).mono ?_
  rintro e' w' ⟨rfl,n,rfl⟩
  have hg : ∀ w : World,grow w #[] = w:=fun w=>by simp [grow]
  obtain ⟨h1,h2⟩:=putS (L':=Lib.compact L ++ List.replicate (L.length - (Lib.compact L).length) []) (n:=n) (os:=#[]) (by simp;omega) hi hb hstb
  rw [hg] at h1 h2
  rw [hb] at h1
  have hs:=zKg (w:=w) (b:=b) (n:=n) (d:=(Lib.compact L ++ List.replicate (L.length - (Lib.compact L).length) []).toArray) (os:=#[])
  rw [hg] at hs
  exact ⟨rfl,rfl,rfl,rfl,hs,h1,h2⟩
end Go.Proofs.YtblomnkamngnbaaGreatDoor
namespace Go.Proofs.YtblomnkamngnbaaGreatDoor
open Go.Sx
theorem zSm : zAT Tryz.prog 101 = true:=by kernel_rfl
theorem zNy : zAT Tryz.prog 102 = true:=by kernel_rfl
theorem zOk {C : Ctx} {σ : Sl} {η : List Ob} {g : Gh} {a : Act} {w w' : World} (h : AbsG C g σ η a w) {id e sz : Nat} {xs : List D} {o' : Ob} (hid : η[id]? = some (.buf true e sz xs)) (hro : C.ro ≤ id)
    (os : w'.os = w.os) (tape : w'.tape = w.tape) (output : w'.output = w.output) (size : w.heap.size ≤ w'.heap.size) (heap : ∀ k,k < w.heap.size → g.blk id ≠ some k → w'.heap[k]? = w.heap[k]?) (ok : ObOk g w' id o') :
    AbsG C g σ (η.set id o') a w':=by
  have hidl : id < η.length:=(List.getElem?_eq_some_iff.1 hid).1
  obtain ⟨o1,o2,o3,o4,o5⟩:=h.inv.ob id _ hid
  have hst : ∀ b o,g.St b o → g.blk id ≠ some b:=fun b o ho hb=>by
    rcases o5 with ⟨h1,_⟩ | ⟨b',us,h1,_,_,_,_,h3⟩
    · rw [h1] at hb;cases hb
    · rw [h1] at hb;injection hb with hb;subst hb
      exact absurd ((h3 o).1 ho).1 (by simp)
  have kp : Keep g.St w g.St w':=⟨fun _ _ h=>h,fun c o u hc hu=>(World.cell?_of_block (a:=⟨c,o,none⟩) (heap c (h.inv.st c o hc) (hst c o hc))).trans hu,fun c hc=>heap c (h.inv.st c 0 (hc 0)) (hst c 0 (hc 0))⟩
  have rk : ∀ {v : Value} {s : SV},RepS g w v s → RepS g w' v s:=fun r=>r.ext kp (fun _ _=>⟨rfl,rfl,rfl⟩) (Nat.le_refl _)
  refine ⟨h.defers,h.size,⟨by rw [List.length_set];exact h.inv.n,fun i c hc=>Nat.lt_of_lt_of_le (h.inv.lt i c hc) size,h.inv.dead,h.inv.inj,fun i o ho=>?_,fun c o hc=>Nat.lt_of_lt_of_le (h.inv.st c o hc) size,h.inv.gl.keep kp⟩,os.trans h.os,tape.trans h.tape,output.trans h.output,Nat.le_trans h.wsize size,fun k hk hx=>?_,h.keep.trans kp,h.new,h.own,fun t=>rk (h.rep t)⟩
  · rw [List.getElem?_set] at ho
    split at ho
    · rename_i hii;subst hii
      injection ho with ho;subst ho;exact ok
    · rename_i hii
      exact (h.inv.ob i o ho).ext kp (fun _ _=>⟨rfl,rfl,rfl⟩) (Nat.le_refl _) (by rw [h.inv.n];exact (List.getElem?_eq_some_iff.1 ho).1) (fun c hcb=>⟨heap c (h.inv.lt i c hcb) (fun e=>hii (h.inv.inj id i c e hcb)),fun _=>Iff.rfl⟩)
  · rw [heap k (Nat.lt_of_lt_of_le hk h.wsize) (fun e=>?_)]
    · exact h.heap k hk hx
    · rcases h.own id k e hro with h1 | h1
      · omega
      · exact hx h1
theorem zUE {C : Ctx} {ops : Array Oper} {rest : List Oper} {K : Sl → List Ob → Prop} {σ : Sl} {η : List Ob} {d : Nat} {ty : TypeId} {pos : String} {after : Array Edge} {gd : Option (Nat × Bool)} {ts : Array TypeId} {x : Operand} {id n e : Nat} {L : List (List UInt8)} (hP : C.P = Tryz.prog)
    (hx : oval σ x = .buf id n) (ho : η[id]? = some (.buf true e 1 (L.map str))) (hn : n = L.length) (hd : Nat.blt d C.N = true) (hro : Nat.ble C.ro id = true) (hbd : L.length ≤ 2000000)
    (h : alex C false ops rest K ((d,.top) :: σ) (η.set id (.buf true e 1 ((srtT L).map str)))) :
    zBA C false ops ⟨some d,.call ⟨.value (.func 101),#[x],ts⟩,ty,pos,after,gd⟩ rest K σ η:=by
  intro Q hQ a w ⟨g,hg⟩ K' hK'
  have e1:=hg.eval x;rw [hx] at e1
  obtain ⟨_,e1⟩:=e1
  rw [hn] at e1
  unfold Oper.wp
  have hrun : (execOp a.eval ⟨some d,.call ⟨.value (.func 101),#[x],ts⟩,ty,pos,after,gd⟩).run C.P w = .ok (.enter 101 #[a.eval x]) w:=by
    simp only [execOp,resolve,Act.eval,Deferred.ofValue,invoke,Sem.run_bind,Sem.run_pure,Result.andThen_ok,List.map_toArray,Array.empty_append,Array.append_empty]
    rw [hP]
    exact zCW zSm
  rw [hrun,Oper.upon_enter,e1,hP]
  refine (zLl g w id e L hbd (hg.inv.ob id _ ho) hg.inv.st).mono fun e' w' ⟨he,q1,q2,q3,q4,q5,q6⟩=>?_
  subst he
  have h1:=zOk hg ho (Nat.le_of_ble_eq_true hro) q1 q2 q3 q4 q5 q6
  exact hK' _ _ (h Q hQ _ w' ⟨g,h1.put (d:=some d) (s:=.top) hd trivial⟩)
def cmpT (L : List (List UInt8)) : List (List UInt8):=Go.Lib.compact L ++ List.replicate (L.length - (Go.Lib.compact L).length) []
theorem zP9 {C : Ctx} {ops : Array Oper} {rest : List Oper} {K : Sl → List Ob → Prop} {σ : Sl} {η : List Ob} {d : Nat} {ty : TypeId} {pos : String} {after : Array Edge} {gd : Option (Nat × Bool)} {ts : Array TypeId} {x : Operand} {id n e : Nat} {L : List (List UInt8)} (hP : C.P = Tryz.prog)
    (hx : oval σ x = .buf id n) (ho : η[id]? = some (.buf true e 1 (L.map str))) (hn : n = L.length) (hd : Nat.blt d C.N = true) (hro : Nat.ble C.ro id = true) (hbd : L.length ≤ 2000000)
    (h : alex C false ops rest K ((d,.buf id (Go.Lib.compact L).length) :: σ) (η.set id (.buf true e 1 ((cmpT L).map str)))) :
    zBA C false ops ⟨some d,.call ⟨.value (.func 102),#[x],ts⟩,ty,pos,after,gd⟩ rest K σ η:=by
  intro Q hQ a w ⟨g,hg⟩ K' hK'
  have e1:=hg.eval x;rw [hx] at e1
  obtain ⟨hid,e1⟩:=e1
  rw [hn] at e1
  unfold Oper.wp
  have hrun : (execOp a.eval ⟨some d,.call ⟨.value (.func 102),#[x],ts⟩,ty,pos,after,gd⟩).run C.P w = .ok (.enter 102 #[a.eval x]) w:=by
    simp only [execOp,resolve,Act.eval,Deferred.ofValue,invoke,Sem.run_bind,Sem.run_pure,Result.andThen_ok,List.map_toArray,Array.empty_append,Array.append_empty]
    rw [hP]
    exact zCW zNy
  rw [hrun,Oper.upon_enter,e1,hP]
  cases hb : g.blk id with
  | none =>
    have hL : L = []:=by
      obtain ⟨o1,o2,o3,o4,o5⟩:=hg.inv.ob id _ ho
      rcases o5 with ⟨_,o5⟩ | ⟨b',us,hb',_⟩
      · rw [List.length_map] at o4;exact List.eq_nil_of_length_eq_zero (by omega)
      · rw [hb] at hb';cases hb'
    subst hL
    refine (Tryz.compactNone none (g.cap id) w).mono ?_
    rintro e' w' ⟨rfl,rfl⟩
    have hs : η.set id (.buf true e 1 ((cmpT []).map str)) = η:=by
      refine List.ext_getElem? fun i=>?_
      rw [List.getElem?_set]
      split
      · rename_i hi;subst hi;rw [if_pos (List.getElem?_eq_some_iff.1 ho).1,ho];rfl
      · rfl
    rw [hs] at h
    exact hK' _ _ (h Q hQ _ _ ⟨g,hg.put (d:=some d) (s:=.buf id _) hd ⟨hid,by rw [hb];rfl⟩⟩)
  | some b =>
    rw [← hb]
    refine (zIi g w id e b L hbd (hg.inv.ob id _ ho) hb hg.inv.st).mono fun e' w' ⟨he,q1,q2,q3,q4,q5,q6⟩=>?_
    subst he
    have h1:=zOk hg ho (Nat.le_of_ble_eq_true hro) q1 q2 q3 q4 q5 q6
    exact hK' _ _ (h Q hQ _ w' ⟨g,h1.put (d:=some d) (s:=.buf id _) hd ⟨hid,rfl⟩⟩)
attribute [local irreducible] zAT Program.underlying Ylds zBA alex zBc zBO awp zAj zBX RCall zA2 zBH zBQ zA8 zBT zBZ zBd zBr zBN VCall
theorem zFY {L : List Nd} {i : Nat} {v : Nd} (h : L[i]? = some v) : zBJ (L.take (i + 1)) = zBJ (L.take i) ++ (if v.kind = 22 then [v.text] else []):=by
  unfold zBJ
  rw [List.take_add_one,h,List.filterMap_append]
  congr 1
  by_cases hk : v.kind = 22 <;> simp [hk]
theorem zEW (L : List Nd) : (zBJ L).length ≤ L.length:=List.length_filterMap_le _ _
theorem zMs {L : List Nd} (i : Nat) (h : L.length ≤ 2000000) : (zBJ (L.take i)).length ≤ 2000000:=by
  have:=zEW (L.take i)
  rw [List.length_take] at this;omega
theorem zKP (L : List Nd) (hL : L.length ≤ 2000000) : zAj Tryz.prog 100 [zAc L] (strs (zBJ L)):=by
  refine zAd Tryz.func100 rfl Tryz.ntmps100 Tryz.results100 rfl ?_
  intro wb St0
  repeat' first | apply en_n|apply zAH|apply zAB|apply zAF|apply w0|apply ay (hd:=rfl)|exact zAE rfl|(apply zAl;exact rfl;(with_reducible exact zA0))|exact zAb rfl|apply zAI
  refine zCE 3 false 9 1 rfl rfl ?_
  refine zAr (α:=Nat) (fun i=>i ≤ L.length) (fun i=>[(3,.buf 0 ((zBJ (L.take i)).map str).length),(6,.d (zAc L)),(7,.d (i64 (L.length : Int))),(8,.d (i64 (i : Int)))]) (fun i=>[.buf false 9 1 ((zBJ (L.take i)).map str)]) (fun i=>L.length - i) 0 (Nat.zero_le _)
    (zAO (zBq rfl rfl (zAA rfl (Le_d rfl rfl (zAA rfl zAa)))) (zAu rfl rfl rfl zAN) rfl rfl) ?_
  intro i hi
  repeat' first | apply en_n|apply zAH|apply zAB|apply zAF|apply w0|(apply aI (hd:=rfl);(first|exact zAk rfl|exact Co_bb rfl rfl rfl|exact Co_nn rfl);exact rfl;(with_reducible exact zAW);exact fun _=>rfl;rotate_left;intro v hv;rotate_right)|(apply aApp (hd:=rfl) (hro:=rfl);exact rfl;exact rfl;(first|exact zAk rfl|exact Co_bb rfl rfl rfl|exact Co_nn rfl);(first|exact rfl|(simp;done));exact rfl;(with_reducible first|exact zBz|exact zBz);(with_reducible first|exact zBU|exact zBU);(with_reducible first|exact zHm|exact zHm);(with_reducible first|exact zF1|exact zF1);(first|exact zCC (fun _=>rfl)|exact zCA rfl))|(apply zA4 (hd:=rfl) (hro:=rfl);(with_reducible exact zAp))|apply ay (hd:=rfl)|exact zAE rfl|(apply zAf;exact rfl;(with_reducible exact zAY);exact rfl)|exact zCQ rfl rfl|exact zCz rfl rfl|exact zBC rfl rfl|exact zAw rfl|exact zAm rfl|(apply zAR;exact rfl;(with_reducible first|exact fn_0|exact fn_1))|(apply zAU;exact rfl;(with_reducible first|exact zAe|exact zAv);exact rfl;exact rfl)|(apply zB8;(with_reducible first|exact zBz|exact zBz);(with_reducible first|exact zBU|exact zBU);(with_reducible first|exact zDe|exact zDe);exact rfl;exact rfl;(first|exact zAX rfl zAG|exact zCx rfl rfl rfl zAG|exact zDB rfl zAG);exact rfl)|(refine w0' ?_)|(apply zAx;exact rfl;exact rfl;exact rfl;(with_reducible exact zAY);exact rfl;exact rfl;exact rfl;exact rfl)|(apply zAz;exact rfl;(intro hb);rotate_left;(intro hb);rotate_right)|apply zAI|apply zAP|apply zAM|apply zAt|apply en_e|apply eb_n|apply eb_e|apply zAJ|(apply zGq;exact rfl;exact rfl;(first|exact rfl|(simp;done)))
  all_goals try omega
  · have:=zMs (L:=L) i hL;simp only [List.length_map,List.length_cons,List.length_nil];omega
  · have e : zBJ (L.take (i + 1)) = zBJ (L.take i) ++ [v.text]:=by rw [zFY (i:=i) hv,if_pos hb]
    exact ⟨i + 1,by omega,by omega,zAO (zBq rfl (by rw [e];simp) (zAA rfl (zAA rfl (zAA rfl zAa)))) (zAu rfl rfl (by rw [e,List.map_append];rfl) zAN) rfl rfl⟩
  · have e : zBJ (L.take (i + 1)) = zBJ (L.take i):=by rw [zFY (i:=i) hv,if_neg hb,List.append_nil]
    exact ⟨i + 1,by omega,by omega,zAO (zBq rfl (by rw [e]) (zAA rfl (zAA rfl (zAA rfl zAa)))) (zAu rfl rfl (by rw [e]) zAN) rfl rfl⟩
  · have e : L.take i = L:=List.take_of_length_le (by omega)
    rw [e];rfl
theorem zNb (L : List Nd) (hL : L.length ≤ 2000000) : zBX Tryz.prog 100 [zAc L] (zBJ L).length 9 1 ((zBJ L).map str):=by
  refine zJ4 Tryz.func100 rfl Tryz.ntmps100 Tryz.results100 rfl (zCC fun _=>rfl) ?_
  intro wb St0
  repeat' first | apply en_n|apply zAH|apply zAB|apply zAF|apply w0|apply ay (hd:=rfl)|exact zAE rfl|(apply zAl;exact rfl;(with_reducible exact zA0))|exact zAb rfl|apply zAI
  refine zCE 3 true 9 1 rfl rfl ?_
  refine zAr (α:=Nat) (fun i=>i ≤ L.length) (fun i=>[(3,.buf 0 ((zBJ (L.take i)).map str).length),(6,.d (zAc L)),(7,.d (i64 (L.length : Int))),(8,.d (i64 (i : Int)))]) (fun i=>[.buf true 9 1 ((zBJ (L.take i)).map str)]) (fun i=>L.length - i) 0 (Nat.zero_le _)
    (zAO (zBq rfl rfl (zAA rfl (Le_d rfl rfl (zAA rfl zAa)))) (zAu rfl rfl rfl zAN) rfl rfl) ?_
  intro i hi
  repeat' first | apply en_n|apply zAH|apply zAB|apply zAF|apply w0|(apply aI (hd:=rfl);(first|exact zAk rfl|exact Co_bb rfl rfl rfl|exact Co_nn rfl);exact rfl;(with_reducible exact zAW);exact fun _=>rfl;rotate_left;intro v hv;rotate_right)|(apply aApp (hd:=rfl) (hro:=rfl);exact rfl;exact rfl;(first|exact zAk rfl|exact Co_bb rfl rfl rfl|exact Co_nn rfl);(first|exact rfl|(simp;done));exact rfl;(with_reducible first|exact zBz|exact zBz);(with_reducible first|exact zBU|exact zBU);(with_reducible first|exact zHm|exact zHm);(with_reducible first|exact zF1|exact zF1);(first|exact zCC (fun _=>rfl)|exact zCA rfl))|(apply zA4 (hd:=rfl) (hro:=rfl);(with_reducible exact zAp))|apply ay (hd:=rfl)|exact zAE rfl|(apply zAf;exact rfl;(with_reducible exact zAY);exact rfl)|exact zCQ rfl rfl|exact zCz rfl rfl|exact zBC rfl rfl|exact zAw rfl|exact zAm rfl|(apply zAR;exact rfl;(with_reducible first|exact fn_0|exact fn_1))|(apply zAU;exact rfl;(with_reducible first|exact zAe|exact zAv);exact rfl;exact rfl)|(apply zB8;(with_reducible first|exact zBz|exact zBz);(with_reducible first|exact zBU|exact zBU);(with_reducible first|exact zDe|exact zDe);exact rfl;exact rfl;(first|exact zAX rfl zAG|exact zCx rfl rfl rfl zAG|exact zDB rfl zAG);exact rfl)|(refine w0' ?_)|(apply zAx;exact rfl;exact rfl;exact rfl;(with_reducible exact zAY);exact rfl;exact rfl;exact rfl;exact rfl)|(apply zAz;exact rfl;(intro hb);rotate_left;(intro hb);rotate_right)|apply zAI|apply zAP|apply zAM|apply zAt|apply en_e|apply eb_n|apply eb_e
  all_goals try omega
  · have:=zMs (L:=L) i hL;simp only [List.length_map,List.length_cons,List.length_nil];omega
  · have e : zBJ (L.take (i + 1)) = zBJ (L.take i) ++ [v.text]:=by rw [zFY (i:=i) hv,if_pos hb]
    exact ⟨i + 1,by omega,by omega,zAO (zBq rfl (by rw [e];simp) (zAA rfl (zAA rfl (zAA rfl zAa)))) (zAu rfl rfl (by rw [e,List.map_append];rfl) zAN) rfl rfl⟩
  · have e : zBJ (L.take (i + 1)) = zBJ (L.take i):=by rw [zFY (i:=i) hv,if_neg hb,List.append_nil]
    exact ⟨i + 1,by omega,by omega,zAO (zBq rfl (by rw [e]) (zAA rfl (zAA rfl (zAA rfl zAa)))) (zAu rfl rfl (by rw [e]) zAN) rfl rfl⟩
  · have e : L.take i = L:=List.take_of_length_le (by omega)
    rw [e]
    exact zGX ⟨_,rfl,.inr ⟨0,by show SV.buf 0 ((zBJ L).map str).length = _;rw [List.length_map],rfl⟩⟩
theorem zOg (L : List Nd) (hL : L.length ≤ 2000000) : zAj Tryz.prog 103 [zAc L] (i64 ((zBJ L).length : Int)):=by
  refine zAd Tryz.func103 rfl Tryz.ntmps103 Tryz.results103 rfl ?_
  intro wb St0
  repeat' first | apply en_n|apply zAH|apply zAB|apply zAF|apply w0|(refine zAV zIG (zKP L hL) (zAX rfl zAG))|apply ay (hd:=rfl)|exact zAE rfl|exact zAC rfl|(apply zAl;exact rfl;(with_reducible first|exact zCy|exact zCy))|apply zAM|apply zAJ|exact res1 rfl
  rfl
abbrev lO (L : List Nd) : List Ob:=[.box [.d (zAc L)]]
theorem zS2 (N : List (List UInt8)) : decide ((((Go.Lib.compact (srtT N)).length : Nat) : Int) < ((N.length : Nat) : Int)) = !decide N.Nodup:=by
  have h1:=zL8 (zLk N)
  rw [(zGA N).length_eq,(zGA N).nodup_iff] at h1
  by_cases h : N.Nodup
  · have h2 : ¬ (Go.Lib.compact (srtT N)).length < N.length:=fun c=>h1.1 c h
    rw [decide_eq_true h,Bool.not_true,decide_eq_false_iff_not];omega
  · have h2:=h1.2 h
    rw [decide_eq_false h,Bool.not_false,decide_eq_true_eq];omega
theorem zNc (L : List Nd) (n : Nat) (t : Tr) (h : At L n t) (hL : L.length ≤ 2000000) :
    zBH Tryz.prog 98 [.d (i64 (n : Int)),.ptr 0 0] (lO L) (bl (!decide (zBJ t.fl).Nodup)):=by
  have hS:=zUT L (n : Int) hL
  rw [h.sub,subE,if_neg (by rw [h.endF];omega)] at hS
  have hl:=h.len
  rw [← Tr.fl_len] at hl
  have hN:=zNb t.fl (by omega)
  have hC:=zOg t.fl (by omega)
  have hnl:=zEW t.fl
  rw [← zS2]
  have hsl:=(zGA (zBJ t.fl)).length_eq
  generalize zBJ t.fl = N at *
  refine zBu Tryz.func98 rfl Tryz.ntmps98 Tryz.results98 rfl ?_
  intro wb St0
  repeat' first | apply en_n|apply zAH|apply zAB|apply zAF|apply w0|(refine zAV zTq hS (zAX rfl (zAX rfl zAG)))|(refine zP8 zIG hN (zAX rfl zAG) rfl rfl ?_)|(refine zUE (L:=N) rfl rfl rfl rfl rfl rfl (by omega) ?_)|(refine zP9 (L:=srtT N) rfl rfl rfl hsl.symm rfl rfl (by omega) ?_)|(refine zAV zPI hC (zAX rfl zAG))|apply ay (hd:=rfl)|exact zAE rfl|exact zAC rfl|exact zCQ rfl rfl|exact zBP rfl rfl|exact zAw rfl|exact zAm rfl|(apply zCo;exact rfl;(with_reducible first|exact zCy|exact zCy))|(apply zAU;exact rfl;(with_reducible exact zAn);exact rfl;exact rfl)|apply zAM|apply zAJ|exact res1 rfl
  all_goals rfl
end Go.Proofs.YtblomnkamngnbaaGreatDoor
namespace Go.Proofs.YtblomnkamngnbaaGreatDoor
open Go.Sx
attribute [local irreducible] zAT Program.underlying Ylds zBA alex zBc zBO awp zAj zBX RCall zA2 zBH zBQ zA8 zBT zBZ zBd zBr zBN VCall
theorem zNd (L : List Nd) (n : Nat) (x : Nd) (ks : List Tr) (h : At L n (.mk x ks)) (pat : Bool) (hL : L.length ≤ 2000000) :
    zBH Tryz.prog 96 [.d (i64 (n : Int)),.d (bl pat),.ptr 0 0] (lO L) (i64 (zD8 x (Tr.kind1 (.mk x ks)) pat)):=by
  have hn:=zSe L n x ks h pat hL
  refine zBu Tryz.func96 rfl Tryz.ntmps96 Tryz.results96 rfl ?_
  intro wb St0
  repeat' first | apply en_n|apply zAH|apply zAB|apply zAF|apply w0|(refine zAV zRD hn (zAX rfl (zAX rfl (zAX rfl zAG))))|apply ay (hd:=rfl)|exact zAE rfl|exact zAC rfl|(apply zAU;exact rfl;(with_reducible exact zAn);exact rfl;exact rfl)|apply zAM|apply zAJ|exact res1 rfl
  rfl
def zNa (n : Nat) (t : Tr) (pat : Bool) : D:=if t.werr pat = 0 then .tup [i64 ((n + t.sz : Nat) : Int),i64 0] else .tup [i64 0,i64 (t.werr pat)]
theorem zOR (x : Nd) (ks : List Tr) (pat : Bool) : Tr.werr (.mk x ks) pat = if zD8 x (Tr.kind1 (.mk x ks)) pat ≠ 0 then zD8 x (Tr.kind1 (.mk x ks)) pat else zDX (decide (x.kind = 10)) pat ks 0:=by rw [Tr.werr]
theorem zIn {m pat : Bool} {ks : List Tr} {i : Nat} {k : Tr} (h : ks[i]? = some k) : zDX m pat (ks.drop i) i = if k.werr (pat || (m && decide (i % 2 = 1))) ≠ 0 then k.werr (pat || (m && decide (i % 2 = 1))) else zDX m pat (ks.drop (i + 1)) (i + 1):=by
  obtain ⟨hi,rfl⟩:=List.getElem?_eq_some_iff.1 h
  rw [List.drop_eq_getElem_cons hi,zDX]
theorem zDx : ∀ ks : List Tr,ks.length ≤ szL ks
  | []=>Nat.zero_le _
  | k :: r=>by
    have:=zDx r;have:=zBR k
    rw [szL,List.length_cons];omega
set_option maxHeartbeats 4000000 in
theorem zOS (L : List Nd) (hL : L.length ≤ 2000000) : ∀ (m n : Nat) (t : Tr) (pat : Bool),t.sz ≤ m → At L n t →
    zBH Tryz.prog 95 [.d (zAc L),.d (i64 (n : Int)),.d (bl pat),.clo 96 [0]] (lO L) (zNa n t pat)
  | 0,n,t,pat,hm,h=>by have:=zBR t;omega
  | m + 1,n,.mk x ks,pat,hm,h=>by
    have hc:=zNd L n x ks h pat hL
    have hx:=h.here
    have hlen:=h.len
    have hsz : Tr.sz (.mk x ks) = szL ks + 1:=by rw [Tr.sz]
    rw [zNa,zOR]
    generalize zD8 x (Tr.kind1 (.mk x ks)) pat = e0 at *
    by_cases he : e0 = 0
    · subst he
      rw [show ∀ W : Int,(if (0 : Int) ≠ 0 then (0 : Int) else W) = W from fun W=>if_neg (by decide)]
      refine zKf Tryz.func95 rfl Tryz.ntmps95 Tryz.results95 rfl ?_
      intro wb St0
      repeat' first | apply en_n|apply zAH|apply zAB|apply zAF|apply w0|(apply zBS;exact rfl;exact rfl;first|assumption|omega)|exact zBF rfl|(refine zBB [0] [0] rfl rfl zI7 (hc) rfl ?_ rfl (by decide) rfl rfl rfl rfl;(repeat (refine zAL rfl ?_));exact zAS)|(apply aJ (hd:=rfl);(first|exact zAk rfl|exact Co_bb rfl rfl rfl|exact Co_nn rfl);exact rfl;(with_reducible exact zAW);assumption;omega;exact fun _=>rfl)|apply ay (hd:=rfl)|exact zAE rfl|exact zAC rfl|(apply zAy;exact rfl;(with_reducible exact fn_3))|(apply zAg;exact rfl;(with_reducible exact zAs))|exact zBC rfl rfl|exact zAQ rfl|apply zAI|apply zAP
      all_goals try omega
      refine zAr (α:=Nat) (fun i=>i ≤ ks.length ∧ zDX (decide (x.kind = 10)) pat (ks.drop i) i = zDX (decide (x.kind = 10)) pat ks 0)
        (fun i=>[(0,.d (zAc L)),(1,.d (i64 (n : Int))),(2,.d (bl pat)),(3,.clo 96 [0]),(11,.d (i64 (kidAt n ks i : Nat))),(28,.d (i64 x.kids)),(29,.d (i64 (i : Int)))]) (fun _=>lO L) (fun i=>ks.length - i) 0 ⟨Nat.zero_le _,by rw [List.drop_zero]⟩
        (zAO (zAA rfl (zAA rfl (zAA rfl (zAA rfl (Le_d rfl (by rw [zCD];rfl) (zAA rfl (zAA rfl zAa))))))) (zAD rfl rfl zAN) rfl rfl) ?_
      rintro i ⟨hi1,hi2⟩
      have hkn:=h.kidn
      have hsl:=zDx ks
      rcases Nat.lt_or_ge i ks.length with hlt | hge
      · obtain ⟨k,hk⟩ : ∃ k,ks[i]? = some k:=⟨_,List.getElem?_eq_getElem hlt⟩
        have hli : (i : Int) < x.kids:=by omega
        have hAt:=h.kid hk
        have hks:=zCi (List.mem_of_getElem? hk)
        have ih:=zOS L hL m (kidAt n ks i) k (pat || (decide (x.kind = 10) && decide (i % 2 = 1))) (by omega) hAt
        rw [zIn hk] at hi2
        have hsucc:=zCu (n:=n) hk
        have hkl:=hAt.len
        have hodd : (i : Int).tmod 2 = ((i % 2 : Nat) : Int):=rfl
        generalize hq : (pat || (decide (x.kind = 10) && decide (i % 2 = 1))) = q at *
        have hq2 : (pat = true ∧ q = true) ∨ (pat = false ∧ x.kind = 10 ∧ (i : Int).tmod 2 = 1 ∧ q = true) ∨ (pat = false ∧ x.kind = 10 ∧ ¬ (i : Int).tmod 2 = 1 ∧ q = false) ∨ (pat = false ∧ ¬ x.kind = 10 ∧ q = false):=by
          rw [hodd]
          cases pat with
          | true=>exact .inl ⟨rfl,by rw [← hq];simp⟩
          | false =>
            by_cases c1 : x.kind = 10
            · by_cases c2 : i % 2 = 1
              · exact .inr (.inl ⟨rfl,c1,by omega,by rw [← hq];simp [c1,c2]⟩)
              · exact .inr (.inr (.inl ⟨rfl,c1,by omega,by rw [← hq];simp [c2]⟩))
            · exact .inr (.inr (.inr ⟨rfl,c1,by rw [← hq];simp [c1]⟩))
        clear hq hodd
        by_cases he2 : k.werr q = 0
        · rw [zNa,if_pos he2] at ih
          rw [if_neg (by rw [he2];decide)] at hi2
          have hnx : kidAt n ks i + k.sz = kidAt n ks (i + 1):=hsucc.symm
          rcases hq2 with ⟨rfl,rfl⟩ | ⟨rfl,c1,c2,rfl⟩ | ⟨rfl,c1,c2,rfl⟩ | ⟨rfl,c1,rfl⟩
          all_goals
            repeat' first | apply en_n|apply zAH|apply zAB|apply zAF|apply w0|(apply kU (hd:=rfl);exact rfl;exact rfl)|(apply k1u (hd:=rfl);exact rfl;exact rfl)|(apply k0u (hd:=rfl);exact rfl;exact rfl)|(apply zA5;exact rfl;exact rfl;first|assumption|omega)|(apply zBD;exact rfl;exact rfl;first|assumption|omega)|(apply zA9;exact rfl;exact rfl;first|assumption|omega)|(apply zBS;exact rfl;exact rfl;first|assumption|omega)|exact zBF rfl|(apply zMH;exact rfl;exact rfl;exact (by decide))|(refine zBB [0] [] rfl rfl zHY (ih) rfl ?_ rfl (by decide) rfl rfl rfl rfl;(repeat (refine zAL rfl ?_));exact zAS)|(apply aJ (hd:=rfl);(first|exact zAk rfl|exact Co_bb rfl rfl rfl|exact Co_nn rfl);exact rfl;(with_reducible exact zAW);assumption;omega;exact fun _=>rfl)|apply ay (hd:=rfl)|exact zAE rfl|exact zAC rfl|(apply zAy;exact rfl;(with_reducible exact fn_0))|(apply zAg;exact rfl;(with_reducible exact zAe))|exact zBC rfl rfl|exact zAi rfl rfl|exact zAh rfl rfl|exact zBP rfl rfl|exact w1 rfl rfl|exact zAK rfl|exact zAQ rfl|apply zAI|apply zAP|apply eb_n
          all_goals try omega
          all_goals exact ⟨i + 1,⟨by omega,hi2⟩,by omega,zAO (zAA rfl (zAA rfl (zAA rfl (zAA rfl (Le_d rfl (by rw [← hnx]) (zAA rfl (zAA rfl zAa))))))) (zAD rfl rfl zAN) rfl rfl⟩
        · rw [zNa,if_neg he2] at ih
          rw [if_pos he2] at hi2
          rw [← hi2,if_neg he2]
          rcases hq2 with ⟨rfl,rfl⟩ | ⟨rfl,c1,c2,rfl⟩ | ⟨rfl,c1,c2,rfl⟩ | ⟨rfl,c1,rfl⟩
          all_goals
            repeat' first | apply en_n|apply zAH|apply zAB|apply zAF|apply w0|(apply kU (hd:=rfl);exact rfl;exact rfl)|(apply k1u (hd:=rfl);exact rfl;exact rfl)|(apply k0u (hd:=rfl);exact rfl;exact rfl)|(apply zA5;exact rfl;exact rfl;first|assumption|omega)|(apply zBD;exact rfl;exact rfl;first|assumption|omega)|(apply zA9;exact rfl;exact rfl;first|assumption|omega)|(apply zB4;exact rfl;exact rfl;first|assumption|omega)|(refine zCr ?_)|(refine zEn ?_)|exact zFp|(refine RV_d rfl ?_ ?_)|(with_reducible exact rfl)|exact zBF rfl|(apply zMH;exact rfl;exact rfl;exact (by decide))|(refine zBB [0] [] rfl rfl zHY (ih) rfl ?_ rfl (by decide) rfl rfl rfl rfl;(repeat (refine zAL rfl ?_));exact zAS)|(apply aJ (hd:=rfl);(first|exact zAk rfl|exact Co_bb rfl rfl rfl|exact Co_nn rfl);exact rfl;(with_reducible exact zAW);assumption;omega;exact fun _=>rfl)|apply ay (hd:=rfl)|exact zAE rfl|exact zAC rfl|(apply zAy;exact rfl;(with_reducible exact fn_0))|(apply zAg;exact rfl;(with_reducible exact zAe))|exact zAi rfl rfl|exact zAh rfl rfl|exact zBP rfl rfl|exact w1 rfl rfl|exact zAK rfl|apply zAI|apply zAP|apply zAM|apply en_r|apply eb_r
          all_goals try omega
          all_goals rfl
      · have hli : ¬ (i : Int) < x.kids:=by omega
        have e : i = ks.length:=by omega
        subst e
        rw [List.drop_length,zDX] at hi2
        rw [← hi2,if_pos rfl]
        have hke:=zIA n ks
        repeat' first | apply en_n|apply zAH|apply zAB|apply zAF|apply w0|(apply zBn;exact rfl;exact rfl;first|assumption|omega)|(refine zCr ?_)|(refine zEn ?_)|exact zFp|(refine RV_d rfl ?_ ?_)|(with_reducible exact rfl)|apply ay (hd:=rfl)|exact zAE rfl|exact zAC rfl|exact zAQ rfl|apply zAM|apply zAt|apply en_e|apply eb_e
        all_goals first
          | rfl
          | (show i64 _ = i64 _;congr 1;rw [hke,hsz];omega)
    · rw [if_pos he,if_neg he]
      refine zKf Tryz.func95 rfl Tryz.ntmps95 Tryz.results95 rfl ?_
      intro wb St0
      repeat' first | apply en_n|apply zAH|apply zAB|apply zAF|apply w0|(apply zB4;exact rfl;exact rfl;first|assumption|omega)|(refine zCr ?_)|(refine zEn ?_)|exact zFp|(refine RV_d rfl ?_ ?_)|(with_reducible exact rfl)|exact zBF rfl|(refine zBB [0] [0] rfl rfl zI7 (hc) rfl ?_ rfl (by decide) rfl rfl rfl rfl;(repeat (refine zAL rfl ?_));exact zAS)|apply ay (hd:=rfl)|exact zAE rfl|exact zAC rfl|exact zAK rfl|apply zAM|apply en_r
      all_goals rfl
end Go.Proofs.YtblomnkamngnbaaGreatDoor
namespace Go.Proofs.YtblomnkamngnbaaGreatDoor
open Go.Sx Go.RowKit
attribute [local irreducible] Ylds zBA alex zBc zBO awp zAj zBX RCall zBQ zA8 zBT zBZ zBd
def popF : List Int → List Int
  | 0 :: y :: r=>popF ((y - 1) :: r)
  | [0]=>[]
  | s=>s
termination_by s=>s.length
def zEh : List Nd → Int → List Int → Int
  | [],m,_=>m
  | x :: r,m,s=>zEh r (max m (s.length + 1)) (popF (x.kids :: s))
def zDo (L : List Nd) : Int:=if zB7 L then zEh L 0 [] else 0
theorem zIB : (zBG Tryz.prog 52).isSome = true:=by rw [zA7];rfl
theorem zH0 (y : Int) (r : List Int) : popF (0 :: y :: r) = popF ((y - 1) :: r):=by rw [popF]
theorem zMi : popF [0] = []:=by rw [popF]
theorem zMj : popF [] = []:=by rw [popF] <;> simp
theorem zGt {y : Int} {r : List Int} (h : ¬ y = 0) : popF (y :: r) = y :: r:=by
  rw [popF]
  · rintro y' r' h1;injection h1 with h1;exact h h1
  · rintro h1;injection h1 with h1;exact h h1
def stk (s : List Int) (tl : List D) : List D:=s.reverse.map ival ++ tl
theorem zRw (y : Int) (r : List Int) (tl : List D) : (stk (y :: r) tl)[r.length]? = some (ival y):=by
  simp [stk]
theorem zSW (y z : Int) (r : List Int) (tl : List D) : (stk (y :: r) tl).set r.length (ival z) = stk (z :: r) tl:=by
  simp [stk]
theorem zLi (y : Int) (r : List Int) (tl : List D) : stk (y :: r) tl = stk r (ival y :: tl):=by
  simp [stk]
theorem zOY (y : Int) (r : List Int) (tl : List D) : (stk (y :: r) tl)[(((y :: r).length : Int) - 1).toNat]? = some (ival y):=by
  rw [show ((((y :: r).length : Nat) : Int) - 1).toNat = r.length by simp];exact zRw y r tl
theorem zSX (y z : Int) (r : List Int) (tl : List D) : (stk (y :: z :: r) tl)[((((((y :: z :: r).length : Int) - 1).toNat : Nat) : Int) - 1).toNat]? = some (ival z):=by
  rw [show ((((((y :: z :: r).length : Int) - 1).toNat : Nat) : Int) - 1).toNat = r.length by simp,zLi];exact zRw z r _
theorem zQc (y z c : Int) (r : List Int) (tl : List D) : (stk (y :: z :: r) tl).set ((((((y :: z :: r).length : Int) - 1).toNat : Nat) : Int) - 1).toNat (ival c) = stk (c :: r) (ival y :: tl):=by
  rw [show ((((((y :: z :: r).length : Int) - 1).toNat : Nat) : Int) - 1).toNat = r.length by simp,zLi,zSW]
theorem zQd (y : Int) (r : List Int) (tl : List D) : (stk r tl).take r.length ++ [ival y] = stk (y :: r) []:=by
  have : (r.reverse.map ival ++ tl).take r.length = r.reverse.map ival:=by
    rw [List.take_append_of_le_length (by simp),List.take_of_length_le (by simp)]
  rw [stk,this];simp [stk]
theorem zLj (r : List Int) (tl : List D) : r.length ≤ (stk r tl).length:=by simp [stk]
theorem zLI {n : Nat} : ∀ {l : List Nd} {o a : Int},0 ≤ a → zEA n l o a = a + l.length → l ≠ [] → ∀ x ∈ l,0 ≤ x.kids ∧ x.kids ≤ n
  | [],_,_,_,_,h=>absurd rfl h
  | y :: r,o,a,ha,h,_=>by
    unfold zEA at h
    intro x hx
    split at h
    · simp only [List.length_cons] at h;omega
    · rename_i hk
      split at h
      · rcases List.mem_cons.1 hx with rfl | hx
        · omega
        · refine zLI (o:=o + (y.kids - 1)) (a:=a + 1) (by omega) ?_ (List.ne_nil_of_mem hx) x hx
          rw [h];simp only [List.length_cons];omega
      · simp only [List.length_cons] at h
        have : r = []:=List.length_eq_zero_iff.1 (by omega)
        subst this
        rcases List.mem_cons.1 hx with rfl | hx
        · omega
        · cases hx
theorem zNY {L : List Nd} (hw : zB7 L = true) (i : Nat) (v : Nd) (hv : L[i]? = some v) : 0 ≤ v.kids ∧ v.kids ≤ (L.length : Int):=by
  simp [zB7] at hw
  have h1 : zEA L.length L 1 0 = 0 + L.length:=by
    have:=hw.2;rw [endF,if_neg (by omega)] at this;simpa using this
  exact zLI (by omega) h1 (by rintro rfl;simp at hw) v (List.mem_of_getElem? hv)
set_option maxHeartbeats 4000000 in
theorem zTN (L : List Nd) (hL : L.length ≤ 1000000) : zAj Tryz.prog 94 [zAc L] (i64 (zDo L)):=by
  refine zAd Tryz.func94 rfl Tryz.ntmps94 Tryz.results94 rfl ?_
  intro wb St0
  repeat' first | apply en_n|apply zAH|apply zAB|apply zAF|apply w0|(apply zAV (hb:=zFd) (hc:=zHj L (by omega)))|apply ay (hd:=rfl)|exact zAE rfl|exact zAC rfl|(apply zAl;exact rfl;(with_reducible exact zA0))|exact zBo rfl|exact zAb rfl|(apply zCZ;exact rfl;(intro hb);rotate_left;(intro hb);rotate_right)|apply zAI|apply zAP|apply zAM|apply en_r|apply zAJ|exact res1 rfl|exact zAG|refine zAX rfl ?_
  · rw [zDo,if_neg (by simpa using hb)]
  · have hw : zB7 L = true:=by simpa using hb
    have hkb:=zNY hw
    refine zCE 3 true 3 1 rfl rfl ?_
    refine zAr (α:=Nat × Int × List Int × List D) (fun p=>p.1 ≤ L.length ∧ zEh (L.drop p.1) p.2.1 p.2.2.1 = zDo L ∧ p.2.2.1.length ≤ p.1 ∧ (0 ≤ p.2.1 ∧ p.2.1 ≤ 1000001) ∧ ∀ e ∈ p.2.2.1,-(p.1 : Int) + p.2.2.1.length ≤ e ∧ e ≤ 1000000)
      (fun p=>[(3,.buf 0 p.2.2.1.length),(4,.d (i64 p.2.1)),(10,.d (zAc L)),(11,.d (i64 (L.length : Int))),(12,.d (i64 (p.1 : Int)))]) (fun p=>[.buf true 3 1 (stk p.2.2.1 p.2.2.2)]) (fun p=>L.length - p.1) (0,0,[],[]) ⟨Nat.zero_le _,by rw [zDo,if_pos hw];rfl,Nat.le_refl _,⟨Int.le_refl 0,by decide⟩,by simp⟩
      (zAO (zAA rfl (zAA rfl (zAA rfl (zAA rfl (zAA rfl zAa))))) (zAD rfl rfl zAN) rfl rfl) ?_
    rintro ⟨i,m,st,tl⟩ ⟨hi,hd,hs,hm,he⟩
    simp only at hi hd hs hm he ⊢
    repeat' first | apply en_n|apply zAH|apply zAB|apply zAF|apply w0|(apply zUJ (sz:=1) (mu:=true) (hd:=rfl) (hro:=rfl);exact rfl;exact rfl;rotate_left;exact (fun h=>nomatch h);exact zAk rfl;exact rfl;(with_reducible exact zCw);(with_reducible exact zA7);(with_reducible exact zIl);(with_reducible exact zG4);exact zCA rfl;rotate_right)|(apply aI (hd:=rfl);(first|exact zAk rfl|exact Co_bb rfl rfl rfl|exact Co_nn rfl);exact rfl;(with_reducible exact zAW);exact fun _=>rfl;rotate_left;intro v hv;rotate_right)|(apply zA4 (hd:=rfl) (hro:=rfl);(with_reducible exact zAp))|apply ay (hd:=rfl)|exact zAE rfl|exact zAC rfl|(apply zAf;exact rfl;(with_reducible exact zAY);exact rfl)|exact zCQ rfl rfl|exact zBC rfl rfl|exact zUM rfl rfl|exact zAw rfl|exact zAm rfl|(apply zCo;exact rfl;(with_reducible exact zBt))|(apply zAR;exact rfl;(with_reducible exact fn_3))|(apply zAU;exact rfl;(with_reducible exact zAs);exact rfl;exact rfl)|(apply zB8;(with_reducible exact zCw);(with_reducible exact zA7);(with_reducible exact zIk);exact rfl;exact rfl;(first|exact zAX rfl zAG|exact zCx rfl rfl rfl zAG|exact zDB rfl zAG);exact rfl)|(refine w0' ?_)|(apply zAx;exact rfl;exact rfl;exact rfl;(with_reducible exact zAY);exact rfl;exact rfl;exact rfl;exact rfl)|(apply zAz;exact rfl;(intro hb);rotate_left;(intro hb);rotate_right)|apply zAI|apply zAP|apply zAM|apply zAt|apply en_e|apply eb_e|apply zAJ|exact res1 rfl
    · omega
    · omega
    · exact zLj _ _
    · simp only [List.length_singleton];omega
    · simp only [List.length_singleton];omega
    · have hk:=hkb i v hv
      have hvi : L[i]? = some v:=hv
      have hout : ∀ s,popF s = popF (v.kids :: st) → popF s = s → zEh (L.drop (i + 1)) (max m ((st.length : Int) + 1)) s = zDo L:=by
        intro s h1 h2
        obtain ⟨hil,hev⟩:=List.getElem?_eq_some_iff.1 hvi
        rw [← hd,List.drop_eq_getElem_cons hil,hev,zEh,← h1,h2]
      refine zAr (α:=List Int × List D) (fun p=>popF p.1 = popF (v.kids :: st) ∧ p.1.length ≤ i + 1 ∧ ∀ e ∈ p.1,-((i : Int) + 1) + p.1.length ≤ e ∧ e ≤ 1000000)
        (fun p=>[(3,.buf 0 p.1.length),(4,.d (i64 (max m ((st.length : Int) + 1)))),(10,.d (zAc L)),(11,.d (i64 (L.length : Int))),(12,.d (i64 (i : Int)))]) (fun p=>[.buf true 3 1 (stk p.1 p.2)]) (fun p=>p.1.length) (v.kids :: st,[]) ⟨rfl,by simp only [List.length_cons];omega,?_⟩
        (zAO (zBq rfl rfl (zAA rfl (zAA rfl (zAA rfl (zAA rfl zAa))))) (zAu rfl rfl (zQd _ _ _).symm zAN) rfl rfl) ?_
      · intro e he'
        rcases List.mem_cons.1 he' with rfl | he'
        · simp only [List.length_cons];omega
        · have:=he e he';simp only [List.length_cons];omega
      rintro ⟨s,tl'⟩ ⟨hp,hl,hb'⟩
      simp only at hp hl hb' ⊢
      rcases s with _ | ⟨y,_ | ⟨z,r⟩⟩
      · skip
        repeat' first | apply en_n|apply zAH|apply zAB|apply zAF|apply w0|apply ay (hd:=rfl)|exact zAE rfl|exact zEk rfl rfl|exact zBC rfl rfl|exact zAh rfl rfl|exact zAw rfl|(apply zCo;exact rfl;(with_reducible exact zBt))|(apply k1 (hd:=rfl);exact rfl;exact rfl)|exact zAQ rfl|apply zAt|apply en_e|apply eb_n|apply eb_e
        · omega
        · refine ⟨(i + 1,max m ((st.length : Int) + 1),[],tl'),⟨by simp only;omega,hout _ hp zMj,hl,⟨by simp only;omega,by simp only;omega⟩,fun e h0=>by have:=hb' e h0;simp only;omega⟩,by simp only;omega,zAO (zAA rfl (zAA rfl (zAA rfl (zAA rfl (zAA rfl zAa))))) (zAD rfl rfl zAN) rfl rfl⟩
      · have hsl:=zLj [y] tl'
        have hy:=hb' y (by simp)
        repeat' first | apply en_n|apply zAH|apply zAB|apply zAF|apply w0|(refine zME (hro:=rfl) rfl rfl rfl (by with_reducible exact zAs) rfl rfl ?_ ?_)|(refine zDc rfl rfl rfl (by with_reducible exact zA7) ?_ ?_)|(refine zEH rfl (by with_reducible exact zAs) rfl (zOY _ _ _) rfl)|(refine zQA rfl (by with_reducible exact zIB) rfl ?_ ⟨_,_,_,_,rfl,?_⟩)|apply ay (hd:=rfl)|exact zAE rfl|exact zEk rfl rfl|exact zCz rfl rfl|exact zBC rfl rfl|exact zIj rfl rfl|exact zAi rfl rfl|exact zAw rfl|exact zAm rfl|(apply zCo;exact rfl;(with_reducible exact zBt))|exact w1 rfl rfl|(refine w0' ?_)|(apply zAz;exact rfl;(intro hb);rotate_left;(intro hb);rotate_right)|apply zAI|apply zAP|apply zAt|apply en_e|apply eb_n|apply eb_e
        all_goals try (simp only [List.length_cons,List.length_nil] at *;omega)
        · rename_i hy0
          refine ⟨([],ival y :: tl'),⟨by rw [← hp,hy0,zMi,zMj],Nat.zero_le _,by simp⟩,by simp,zAO (zBq rfl rfl (zAA rfl (zAA rfl (zAA rfl (zAA rfl zAa))))) (zAu rfl rfl (zLi y [] tl').symm zAN) rfl rfl⟩
        · refine ⟨(i + 1,max m ((st.length : Int) + 1),[y],tl'),⟨by simp only;omega,hout _ hp (zGt hb),hl,⟨by simp only;omega,by simp only;omega⟩,fun e h0=>by have:=hb' e h0;simp only;omega⟩,by simp only;omega,zAO (zAA rfl (zAA rfl (zAA rfl (zAA rfl (zAA rfl zAa))))) (zAD rfl rfl zAN) rfl rfl⟩
      · have hsl:=zLj (y :: z :: r) tl'
        have hy:=hb' y (by simp)
        have hz:=hb' z (by simp)
        repeat' first | apply en_n|apply zAH|apply zAB|apply zAF|apply w0|(refine zME (hro:=rfl) rfl rfl rfl (by with_reducible exact zAs) rfl rfl ?_ ?_)|(refine zDc rfl rfl rfl (by with_reducible exact zA7) ?_ ?_)|(refine zEH rfl (by with_reducible exact zAs) rfl (zOY _ _ _) rfl)|(refine zEH rfl (by with_reducible exact zAs) rfl (zSX _ _ _ _) rfl)|(refine zQA rfl (by with_reducible exact zIB) rfl ?_ ⟨_,_,_,_,rfl,?_⟩)|apply ay (hd:=rfl)|exact zAE rfl|exact zEk rfl rfl|exact zCz rfl rfl|exact zBC rfl rfl|exact zIj rfl rfl|exact zAi rfl rfl|exact zAh rfl rfl|exact zAw rfl|exact zAm rfl|(apply zCo;exact rfl;(with_reducible exact zBt))|exact w1 rfl rfl|(apply k1 (hd:=rfl);exact rfl;exact rfl)|(apply gD;exact rfl;exact rfl;(intro hb);rotate_left;(intro hb);rotate_right)|(refine w0' ?_)|(apply zAz;exact rfl;(intro hb);rotate_left;(intro hb);rotate_right)|exact zAQ rfl|apply zAI|apply zAP|apply zAt|apply en_e|apply eb_n|apply eb_e
        all_goals try (simp only [List.length_cons] at *;omega)
        · rename_i hy0
          refine ⟨((z - 1) :: r,ival y :: tl'),⟨?_,?_,?_⟩,by simp,zAO (zBq rfl ?_ (zAA rfl (zAA rfl (zAA rfl (zAA rfl zAa))))) (zAu rfl rfl (zQc y z (z - 1) r tl').symm zAN) rfl rfl⟩
          · rw [← hp,hy0,zH0]
          · simp only [List.length_cons] at *;omega
          · intro e h0
            rcases List.mem_cons.1 h0 with rfl | h0
            · simp only [List.length_cons] at *;omega
            · have:=hb' e (by simp [h0]);simp only [List.length_cons] at *;omega
          · simp only [List.length_cons];omega
        · refine ⟨(i + 1,max m ((st.length : Int) + 1),y :: z :: r,tl'),⟨by simp only;omega,hout _ hp (zGt hb),hl,⟨by simp only;omega,by simp only;omega⟩,fun e h0=>by have:=hb' e h0;simp only;omega⟩,by simp only;omega,zAO (zAA rfl (zAA rfl (zAA rfl (zAA rfl (zAA rfl zAa))))) (zAD rfl rfl zAN) rfl rfl⟩
    · rw [← hd,List.drop_of_length_le (by omega)];rfl
def zDC (L : List Nd) : Nat → Int → Int
  | 0,_=>1
  | n + 1,a=>(zBV L a).foldl (fun m k=>max m (zDC L n k)) 0 + 1
theorem zKZ (L : List Nd) : ∀ (n : Nat) (a : Int),1 ≤ zDC L n a ∧ zDC L n a ≤ n + 1
  | 0,a=>by simp [zDC]
  | n + 1,a=>by
    have h : ∀ (ks : List Int) (m : Int),0 ≤ m → m ≤ n + 1 → 0 ≤ ks.foldl (fun m k=>max m (zDC L n k)) m ∧ ks.foldl (fun m k=>max m (zDC L n k)) m ≤ n + 1:=by
      intro ks
      induction ks with
      | nil=>intro m h1 h2;exact ⟨h1,h2⟩
      | cons k ks ih =>
        intro m h1 h2
        have:=zKZ L n k
        have h3 : 0 ≤ max m (zDC L n k):=by omega
        have h4 : max m (zDC L n k) ≤ n + 1:=by omega
        exact ih _ h3 h4
    have:=h (zBV L a) 0 (by omega) (by omega)
    rw [zDC];push_cast;omega
theorem zTi {L : List Nd} {a k : Int} (h : k ∈ zBV L a) : a < k:=by
  unfold zBV at h
  split at h
  · cases h
  · rename_i h1
    obtain ⟨n,x,hak,hx,h0,h1',he,hn,hf⟩:=zKn h1
    rw [hn] at h
    obtain ⟨i,hi,rfl⟩:=List.mem_map.1 h
    rw [List.mem_range] at hi
    have : 0 ≤ seqE L (a + 1) i:=by
      rcases Int.lt_or_le (seqE L (a + 1) i) 0 with h4 | h4
      · have:=zGC (j:=x.kids.toNat) h4 (by omega);omega
      · exact h4
    have:=zHt this;omega
theorem zPA {L : List Nd} {a : Int} (h : (L.length : Int) ≤ a) : zBV L a = []:=by
  rw [zBV,if_pos];rw [zHf (.inr h)];omega
theorem zJE {α β : Type} (f : β → α → β) (b : β) {l : List α} {i : Nat} {v : α} (h : l[i]? = some v) : (l.take (i + 1)).foldl f b = f ((l.take i).foldl f b) v:=by
  rw [List.take_add_one,h,List.foldl_append];rfl
theorem zQp (L : List Nd) (hL : L.length ≤ 1000000) : ∀ (m : Nat) (at_ : Int),m ≤ 2000000 → (L.length : Int) - at_ ≤ m → zAj Tryz.prog 24 [zAc L,i64 at_] (i64 (zDC L (m + 1) at_)):=by
  intro m
  induction m with
  | zero =>
    intro at_ _ hm
    refine zAd Tryz.func24 rfl Tryz.ntmps24 Tryz.results24 rfl ?_
    intro wb St0
    have hk:=zPA (L:=L) (a:=at_) (by omega)
    repeat' first | apply en_n|apply zAH|apply zAB|apply zAF|apply w0|(apply zAV (hb:=zEr) (hc:=zEo L _ (by omega)))|apply ay (hd:=rfl)|exact zAE rfl|exact zAC rfl|apply zAI|exact zAG|refine zAX rfl ?_
    rw [hk]
    refine zAr (α:=Unit) (fun _=>True) (fun _=>[(0,.d (zAc L)),(1,.d (i64 at_)),(5,.d (i64 0)),(6,.d (zBj [])),(7,.d (i64 0))]) (fun _=>[]) (fun _=>0) () trivial
      (zAO (zAA rfl (zAA rfl (zAA rfl (zAA rfl (zAA rfl zAa))))) zAN rfl rfl) ?_
    intro _ _
    repeat' first | apply en_n|apply zAH|apply zAB|apply zAF|apply w0|(exfalso;simp at hv;done)|(apply aI (hd:=rfl);(first|exact zAk rfl|exact Co_bb rfl rfl rfl|exact Co_nn rfl);exact rfl;(with_reducible exact zA7);exact fun _=>rfl;rotate_left;intro v hv;rotate_right)|apply ay (hd:=rfl)|exact zAE rfl|exact zAC rfl|(apply zAl;exact rfl;(with_reducible exact zBt))|exact zCQ rfl rfl|exact zBC rfl rfl|(apply zAz;exact rfl;(intro hb);rotate_left;(intro hb);rotate_right)|apply zAI|apply zAP|apply zAM|apply zAt|apply en_e|apply eb_e|apply zAJ|exact res1 rfl
    · simp at hb
    · decide
    show _ = i64 ((zBV L at_).foldl (fun m k=>max m (zDC L 0 k)) 0 + 1)
    rw [hk];rfl
  | succ m ih =>
    intro at_ hm2 hm
    refine zAd Tryz.func24 rfl Tryz.ntmps24 Tryz.results24 rfl ?_
    intro wb St0
    repeat' first | apply en_n|apply zAH|apply zAB|apply zAF|apply w0|(apply zAV (hb:=zEr) (hc:=zEo L _ (by omega)))|apply ay (hd:=rfl)|exact zAE rfl|exact zAC rfl|apply zAI|exact zAG|refine zAX rfl ?_
    have hkl : (zBV L at_).length ≤ 1000000:=by
      rcases Int.lt_or_le (endF L at_) 0 with h | h
      · rw [zBV,if_pos h];exact Nat.zero_le _
      · obtain ⟨k,x,hak,hx,h0,h1,he,hn,hf⟩:=zKn (L:=L) (a:=at_) (by omega)
        rw [hf,List.length_map,List.length_range];omega
    refine zAr (α:=Nat) (fun j=>j ≤ (zBV L at_).length ∧ 0 ≤ ((zBV L at_).take j).foldl (fun m' k=>max m' (zDC L (m + 1) k)) 0 ∧ ((zBV L at_).take j).foldl (fun m' k=>max m' (zDC L (m + 1) k)) 0 ≤ 2000003) (fun j=>[(0,.d (zAc L)),(1,.d (i64 at_)),(5,.d (i64 (((zBV L at_).take j).foldl (fun m' k=>max m' (zDC L (m + 1) k)) 0))),(6,.d (zBj (zBV L at_))),(7,.d (i64 (j : Int)))]) (fun _=>[]) (fun j=>(zBV L at_).length - j) 0 ⟨Nat.zero_le _,Int.le_refl 0,by simp⟩
      (zAO (zAA rfl (zAA rfl (zAA rfl (zAA rfl (zAA rfl zAa))))) zAN rfl rfl) ?_
    rintro j ⟨hj,hj0,hj1⟩
    repeat' first | apply en_n|apply zAH|apply zAB|apply zAF|apply w0|(refine zAV zGT (ih _ (by omega) ?_) (zAX rfl (zAX rfl zAG)))|(apply aI (hd:=rfl);(first|exact zAk rfl|exact Co_bb rfl rfl rfl|exact Co_nn rfl);exact rfl;(with_reducible exact zA7);exact fun _=>rfl;rotate_left;intro v hv;rotate_right)|apply ay (hd:=rfl)|exact zAE rfl|exact zAC rfl|(apply zAg;exact rfl;(with_reducible exact zAs))|(apply zAl;exact rfl;(with_reducible exact zBt))|exact zCQ rfl rfl|exact zEk rfl rfl|exact zBC rfl rfl|(apply zAz;exact rfl;(intro hb);rotate_left;(intro hb);rotate_right)|apply zAI|apply zAP|apply zAM|apply zAt|apply en_e|apply eb_n|apply eb_e|apply zAJ|exact res1 rfl
    · omega
    · have:=zTi (List.mem_of_getElem? hv);omega
    · omega
    · have hf:=zJE (fun m' k=>max m' (zDC L (m + 1) k)) 0 (i:=j) hv
      have h5:=zKZ L (m + 1) v
      refine ⟨j + 1,⟨by omega,?_,?_⟩,by omega,zAO (zAA rfl (zAA rfl (Le_d rfl ?_ (zAA rfl (zAA rfl zAa))))) zAN rfl rfl⟩
      · rw [hf];show 0 ≤ max _ _;omega
      · rw [hf];show max _ _ ≤ _;omega
      · rw [hf];show D.val (.int .i64 (max _ _)) = _;rw [Int.max_eq_right (by omega)]
    · omega
    · have hf:=zJE (fun m' k=>max m' (zDC L (m + 1) k)) 0 (i:=j) hv
      refine ⟨j + 1,⟨by omega,?_,?_⟩,by omega,zAO (zAA rfl (zAA rfl (Le_d rfl ?_ (zAA rfl (zAA rfl zAa))))) zAN rfl rfl⟩
      · rw [hf];show 0 ≤ max _ _;omega
      · rw [hf];show max _ _ ≤ _;omega
      · rw [hf];show D.val (.int .i64 (max _ _)) = _;rw [Int.max_eq_left (by omega)]
    · omega
    · rw [show j = (zBV L at_).length by omega,List.take_length];rfl
end Go.Proofs.YtblomnkamngnbaaGreatDoor
namespace Go.Proofs.YtblomnkamngnbaaGreatDoor
inductive FD : List Nd → Nat → Nat → Prop
  | nil : FD [] 0 0
  | cons (x : Nd) (ks r : List Nd) (n j d e : Nat) (hx : x.kids = n) (h1 : FD ks n d) (h2 : FD r j e) : FD (x :: (ks ++ r)) (j + 1) (max (d + 1) e)
theorem FD.zero {l : List Nd} {d : Nat} (h : FD l 0 d) : l = [] ∧ d = 0:=by
  cases h;exact ⟨rfl,rfl⟩
theorem zTL : ∀ (N : Nat) {l : List Nd} {j k : Nat},l.length ≤ N → cns l j = some k → ∃ d,FD (l.take k) j d
  | N,l,0,k,_,h=>by rw [zEF] at h;injection h with h;subst h;exact ⟨0,.nil⟩
  | N,[],j + 1,k,_,h=>by cases h
  | 0,x :: r,j + 1,k,hN,h=>by simp at hN
  | N + 1,x :: r,j + 1,k,hN,h=>by
    rw [zC8] at h
    split at h
    · cases h
    · rename_i h0
      rw [Nat.add_comm j,zIT] at h
      cases h1 : cns r x.kids.toNat with
      | none=>rw [h1] at h;cases h
      | some k1 =>
        rw [h1] at h;simp only [Option.bind_some] at h
        cases h2 : cns (r.drop k1) j with
        | none=>rw [h2] at h;cases h
        | some k2 =>
          rw [h2] at h;simp only [Option.map_some,Option.some.injEq] at h;subst h
          simp only [List.length_cons] at hN
          obtain ⟨d,f1⟩:=zTL N (by omega) h1
          obtain ⟨e,f2⟩:=zTL N (by rw [List.length_drop];omega) h2
          refine ⟨max (d + 1) e,?_⟩
          rw [List.take_succ_cons,Nat.add_comm k2 k1,List.take_add]
          exact .cons x _ _ _ _ d e (by omega) f1 f2
theorem FD.append {l : List Nd} {a d : Nat} (h : FD l a d) {r : List Nd} {b e : Nat} (hr : FD r b e) : FD (l ++ r) (a + b) (max d e):=by
  induction h with
  | nil=>simpa using hr
  | cons x ks r' n j d' e' hx h1 h2 _ ih2 =>
    have:=FD.cons x ks (r' ++ r) n (j + b) d' (max e' e) hx h1 ih2
    rw [List.cons_append,List.append_assoc,show j + 1 + b = j + b + 1 by omega,show max (max (d' + 1) e') e = max (d' + 1) (max e' e) by omega]
    exact this
theorem zL7 {l : List Nd} {j d : Nat} (h : FD l j d) : ∀ (R : List Nd) (m y : Int) (s : List Int),(j : Int) ≤ y → 1 ≤ y → (s.length : Int) + 1 ≤ m → zEh (l ++ R) m (y :: s) = zEh R (max m ((s.length : Int) + 1 + d)) (popF ((y - j) :: s)):=by
  induction h with
  | nil =>
    intro R m y s _ h2 h3
    rw [List.nil_append,zGt (by omega)]
    congr 1
    · omega
    · simp
  | cons x ks r n j d e hx h1 h2 ih1 ih2 =>
    intro R m y s hj hy hm
    have htail : ∀ m',(s.length : Int) + 1 ≤ m' → zEh (r ++ R) m' (popF ((y - 1) :: s)) = zEh R (max m' ((s.length : Int) + 1 + e)) (popF ((y - 1 - j) :: s)):=by
      intro m' hm'
      by_cases hz : y - 1 = 0
      · have hj0 : j = 0:=by omega
        subst hj0
        obtain ⟨rfl,rfl⟩:=h2.zero
        rw [List.nil_append];congr 1
        · omega
        · simp
      · rw [zGt hz]
        exact ih2 R m' (y - 1) s (by omega) (by omega) hm'
    rw [List.cons_append,zEh,List.append_assoc,List.length_cons,hx]
    by_cases hn : n = 0
    · subst hn
      obtain ⟨rfl,rfl⟩:=h1.zero
      rw [List.nil_append,show ((0 : Nat) : Int) = 0 from rfl,zH0,htail _ (by omega)]
      congr 1
      · omega
      · congr 2;omega
    · rw [zGt (by omega),ih1 (r ++ R) _ n (y :: s) (by omega) (by omega) (by simp only [List.length_cons];omega),show (n : Int) - n = 0 by omega,zH0,htail _ (by omega),List.length_cons]
      congr 1
      · omega
      · congr 2;omega
theorem zJK {T : List Nd} {d : Nat} (hw : zB7 T = true) (h : FD T 1 d) : zDo T = d:=by
  rw [zDo,if_pos hw]
  cases h with
  | cons x ks r n j d e hx h1 h2 =>
    obtain ⟨rfl,rfl⟩:=h2.zero
    rw [List.append_nil,zEh,hx]
    by_cases hn : n = 0
    · subst hn
      obtain ⟨rfl,rfl⟩:=h1.zero
      rw [show ((0 : Nat) : Int) = 0 from rfl,zMi,zEh];rfl
    · have:=zL7 h1 [] (max 0 (([] : List Int).length + 1)) n [] (by omega) (by omega) (by simp only [List.length_nil];omega)
      rw [List.append_nil] at this
      rw [zGt (by omega),this,zEh];simp;omega
def mxF (KK : List (List Nd)) : Int:=KK.foldl (fun m K=>max m (zDo K)) 0
theorem zK9 : ∀ (KK : List (List Nd)),(∀ K ∈ KK,zB7 K = true) → ∃ d : Nat,FD KK.flatten KK.length d ∧ ∀ m : Int,0 ≤ m → KK.foldl (fun m K=>max m (zDo K)) m = max m d
  | [],_=>⟨0,.nil,fun m hm=>by simp;omega⟩
  | K :: KK,h=>by
    have hK:=h K (by simp)
    obtain ⟨d,hd⟩:=zTL K.length (Nat.le_refl _) ((zER K).1 hK)
    rw [List.take_length] at hd
    obtain ⟨e,he,hf⟩:=zK9 KK (fun K' hK'=>h K' (by simp [hK']))
    refine ⟨max d e,?_,fun m hm=>?_⟩
    · rw [List.flatten_cons,List.length_cons,Nat.add_comm];exact hd.append he
    · rw [List.foldl_cons,zJK hK hd,hf _ (by omega)];omega
theorem zPm {T : List Nd} {x : Nd} {KK : List (List Nd)} (hT : T = x :: KK.flatten) (hx : x.kids = KK.length) (hw : ∀ K ∈ KK,zB7 K = true) : zDo T = mxF KK + 1 ∧ zB7 T = true:=by
  obtain ⟨d,hd,hf⟩:=zK9 KK hw
  have hn : Node T 0 x KK []:=⟨by rw [List.drop_zero,hT,List.append_nil],hx,fun K hK=>(zER K).1 (hw K hK)⟩
  have hwT : zB7 T = true:=by
    have:=hn.cnsEq
    rw [List.drop_zero] at this
    rw [zER,this,hT];rfl
  have h1:=FD.cons x KK.flatten [] KK.length 0 d 0 hx hd .nil
  rw [List.append_nil,← hT] at h1
  rw [zJK hwT h1,mxF,hf 0 (Int.le_refl 0)]
  exact ⟨by omega,hwT⟩
theorem zMe {L : List Nd} : ∀ (n a k : Nat),cns (L.drop a) 1 = some k → L.length < n + a → zDC L n (a : Int) = zDo ((L.drop a).take k)
  | 0,a,k,h,hn=>by rw [List.drop_of_length_le (by omega)] at h;cases h
  | n + 1,a,k,h,hn=>by
    obtain ⟨x,KK,R,hN,rfl⟩:=zO0 h
    have hT : (L.drop a).take (KK.flatten.length + 1) = x :: KK.flatten:=by rw [hN.drop,List.take_succ_cons,List.take_left]
    rw [(zPm hT hN.kids (fun K hK=>(zER K).2 (hN.whole K hK))).1,mxF,zDC,hN.kidsEq]
    have key : ∀ (KK : List (List Nd)) (b : Nat) (R : List Nd) (m : Int),L.drop b = KK.flatten ++ R → (∀ K ∈ KK,cns K 1 = some K.length) → L.length < n + b →
        (zIs (b : Int) KK).foldl (fun m k=>max m (zDC L n k)) m = KK.foldl (fun m K=>max m (zDo K)) m:=by
      intro KK
      induction KK with
      | nil=>intros;rfl
      | cons K KK ih =>
        intro b R m hd hw hb
        have h1 : cns (L.drop b) 1 = some K.length:=by
          rw [hd,List.flatten_cons,List.append_assoc];exact zDF _ (hw K (by simp))
        have h2:=zMe n b K.length h1 hb
        rw [hd,List.flatten_cons,List.append_assoc,List.take_left] at h2
        rw [zIs,List.foldl_cons,List.foldl_cons,h2,show (b : Int) + (K.length : Nat) = ((b + K.length : Nat) : Int) by omega]
        refine ih (b + K.length) R _ ?_ (fun K' hK'=>hw K' (by simp [hK'])) (by omega)
        rw [← List.drop_drop,hd,List.flatten_cons,List.append_assoc,List.drop_left]
    have:=key KK (a + 1) R 0 hN.next hN.whole (by omega)
    rw [show ((a + 1 : Nat) : Int) = (a : Int) + 1 by omega] at this
    rw [this]
theorem zLr {L : List Nd} (hw : zB7 L = true) {n : Nat} (hn : L.length < n) : zDC L n 0 = zDo L:=by
  have:=zMe (L:=L) n 0 L.length (by rw [List.drop_zero];exact (zER L).1 hw) (by omega)
  rw [List.drop_zero,List.take_length] at this
  exact this
end Go.Proofs.YtblomnkamngnbaaGreatDoor
namespace Go.Proofs.YtblomnkamngnbaaGreatDoor
open Go.Sx
theorem zJz : zAT Tryz.prog 94 = true:=by kernel_rfl
attribute [local irreducible] zAT Program.underlying Ylds zBA alex zBc zBO awp zAj zBX RCall zA2 zBH zBQ zA8 zBT zBZ zBd zBr zBN VCall
def chkT (t : Tr) (pat : Bool) : Int :=
  if 4000 < t.sz ∨ 100 < zDo t.fl then 60 else if t.werr pat ≠ 0 then t.werr pat else if t.tw then 63 else 0
structure Ats (L : List Nd) (n : Nat) (ts : List Tr) : Prop where
  drop : L.drop n = flL ts
  wf : wfL ts
theorem Ats.head {L : List Nd} {n : Nat} {t : Tr} {r : List Tr} (h : Ats L n (t :: r)) : At L n t:=by
  have hw:=h.wf
  rw [wfL] at hw
  exact ⟨⟨flL r,by rw [h.drop,flL]⟩,hw.1⟩
theorem Ats.over {L : List Nd} {n : Nat} {t : Tr} {r : List Tr} (h : Ats L n (t :: r)) : Ats L (n + t.sz) r:=by
  have hw:=h.wf
  rw [wfL] at hw
  exact ⟨by rw [← List.drop_drop,h.drop,flL,← Tr.fl_len,List.drop_left],hw.2⟩
theorem zJI : ∀ (a b : List Tr),flL (a ++ b) = flL a ++ flL b
  | [],b=>by rw [List.nil_append,flL,List.nil_append]
  | t :: a,b=>by rw [List.cons_append,flL,flL,zJI a b,List.append_assoc]
theorem zNZ {a b : List Tr} : wfL (a ++ b) ↔ wfL a ∧ wfL b:=by
  rw [zCT,zCT,zCT];simp only [List.mem_append]
  exact ⟨fun h=>⟨fun k hk=>h k (.inl hk),fun k hk=>h k (.inr hk)⟩,fun ⟨h1,h2⟩ k hk=>hk.elim (h1 k) (h2 k)⟩
theorem Ats.into {L : List Nd} {n : Nat} {x : Nd} {ks r : List Tr} (h : Ats L n (.mk x ks :: r)) : Ats L (n + 1) (ks ++ r):=by
  have hw:=h.wf
  rw [wfL,Tr.wf] at hw
  refine ⟨?_,zNZ.2 ⟨hw.1.2,hw.2⟩⟩
  rw [← List.drop_drop,h.drop,flL,Tr.fl,zJI];rfl
theorem zIp : ∀ (a b : List Tr),twL (a ++ b) = (twL a || twL b)
  | [],b=>by rw [List.nil_append,twL,Bool.false_or]
  | t :: a,b=>by rw [List.cons_append,twL,twL,zIp a b,Bool.or_assoc]
theorem zJS {t : Tr} (h : t.wf) : zB7 t.fl = true:=zFS.2 ⟨t,rfl,h⟩
theorem Ats.none {L : List Nd} {n : Nat} (h : Ats L n []) : L.length ≤ n:=by
  have:=congrArg List.length h.drop
  rw [List.length_drop,flL,List.length_nil] at this;omega
theorem Ats.lt {L : List Nd} {n : Nat} {t : Tr} {r : List Tr} (h : Ats L n (t :: r)) : n < L.length:=by
  have:=h.head.len;have:=zBR t;omega
set_option maxHeartbeats 8000000 in
theorem zOh (t : Tr) (hw : t.wf) (pat : Bool) (hL : t.fl.length ≤ 1000000) : zAj Tryz.prog 56 [zAc t.fl,bl pat] (i64 (chkT t pat)):=by
  have hsz:=Tr.fl_len t
  have hW:=zHj t.fl (by omega)
  rw [zJS hw] at hW
  have hD:=zTN t.fl (by omega)
  have hK:=zOS t.fl (by omega) t.sz 0 t pat (Nat.le_refl _) (.top hw)
  refine zAd Tryz.func56 rfl Tryz.ntmps56 Tryz.results56 rfl ?_
  intro wb St0
  by_cases h1 : 4000 < t.sz ∨ 100 < zDo t.fl
  · rw [chkT,if_pos h1]
    by_cases h3 : 4000 < t.sz
    · skip
      repeat' first | apply en_n|apply zAH|apply zAB|apply zAF|apply w0|(apply k0u (hd:=rfl);exact rfl;exact rfl)|(apply zEj;exact rfl;exact rfl;first|assumption|omega)|(apply aBox (hd:=rfl) (hro:=rfl);exact rfl;exact rfl)|apply ay (hd:=rfl)|exact zAE rfl|exact zAC rfl|(apply zAl;exact rfl;(with_reducible exact zA0))|exact zAi rfl rfl|(apply zAU;exact rfl;(with_reducible exact zAn);exact rfl;exact rfl)|exact zAK rfl|apply zAM|apply en_r|apply zAJ|exact res1 rfl
      all_goals rfl
    · have h4 : 100 < zDo t.fl:=by omega
      skip
      repeat' first | apply en_n|apply zAH|apply zAB|apply zAF|apply w0|(apply zEj;exact rfl;exact rfl;first|assumption|omega)|(apply zDi;exact rfl;exact rfl;first|assumption|omega)|(refine zAV zFd hW (zAX rfl zAG))|(refine zAV zJz hD (zAX rfl zAG))|(apply aBox (hd:=rfl) (hro:=rfl);exact rfl;exact rfl)|apply ay (hd:=rfl)|exact zAE rfl|exact zAC rfl|(apply zAl;exact rfl;(with_reducible exact zA0))|exact zBo rfl|exact zAh rfl rfl|(apply zAU;exact rfl;(with_reducible exact zAn);exact rfl;exact rfl)|exact w1 rfl rfl|exact zAK rfl|apply zAM|apply en_r|apply zAJ|exact res1 rfl
      all_goals rfl
  · have h3 : ¬ 4000 < t.sz:=fun c=>h1 (.inl c)
    have h4 : ¬ 100 < zDo t.fl:=fun c=>h1 (.inr c)
    by_cases h2 : t.werr pat = 0
    · rw [zNa,if_pos h2] at hK
      rw [chkT,if_neg h1,if_neg (by rw [h2];decide)]
      skip
      repeat' first | apply en_n|apply zAH|apply zAB|apply zAF|apply w0|(apply zDi;exact rfl;exact rfl;first|assumption|omega)|(apply zBS;exact rfl;exact rfl;first|assumption|omega)|(refine zAV zFd hW (zAX rfl zAG))|(refine zAV zJz hD (zAX rfl zAG))|(refine zBB [0] [] rfl rfl zHY (hK) rfl ?_ rfl (by decide) rfl rfl rfl rfl;(repeat (refine zAL rfl ?_));exact zAS)|(apply aBox (hd:=rfl) (hro:=rfl);exact rfl;exact rfl)|apply ay (hd:=rfl)|exact zAE rfl|exact zAC rfl|(apply zAl;exact rfl;(with_reducible exact zA0))|exact zBo rfl|exact zAh rfl rfl|exact zBP rfl rfl|exact zCp rfl|(apply zAU;exact rfl;(with_reducible exact zAn);exact rfl;exact rfl)|exact zF3 rfl|exact w1 rfl rfl|exact zAQ rfl|apply zAI|apply zAP
      refine zAr (α:=Nat × List Tr) (fun p=>Ats t.fl p.1 p.2 ∧ twL p.2 = t.tw) (fun p=>[(2,.ptr 0 0),(7,.clo 98 [0]),(8,.d (i64 (p.1 : Int)))]) (fun _=>lO t.fl) (fun p=>t.fl.length - p.1) (0,[t])
        ⟨⟨by rw [List.drop_zero,flL,flL,List.append_nil],by rw [wfL];exact ⟨hw,trivial⟩⟩,by rw [twL,twL,Bool.or_false]⟩ (zAO (zAA rfl (zAA rfl (zAA rfl zAa))) (zAD rfl rfl zAN) rfl rfl) ?_
      rintro ⟨n,ts⟩ ⟨hA,hT⟩
      dsimp only at hA hT ⊢
      match ts,hA,hT with
      | [],hA,hT =>
        have hn:=hA.none
        have hli : ¬ (n : Int) < (t.fl.length : Int):=by omega
        rw [twL] at hT
        rw [← hT]
        skip
        repeat' first | apply en_n|apply zAH|apply zAB|apply zAF|apply w0|(apply zBn;exact rfl;exact rfl;first|assumption|omega)|apply ay (hd:=rfl)|exact zAE rfl|exact zAC rfl|(apply zAl;exact rfl;(with_reducible exact zA0))|(apply zAU;exact rfl;(with_reducible exact zAn);exact rfl;exact rfl)|exact zAQ rfl|apply zAM|apply zAt|apply en_e|apply eb_e|apply zAJ|exact res1 rfl
        all_goals rfl
      | .mk x ks :: r,hA,hT =>
        have hn:=hA.lt
        have hli : (n : Int) < (t.fl.length : Int):=by omega
        have hx:=hA.head.here
        have hp:=zFV x.kind
        have hE:=zFq t.fl (n : Int) (by omega)
        rw [hA.head.endF] at hE
        have hC:=zNc t.fl n _ hA.head (by omega)
        have hov:=hA.over
        have hin:=hA.into
        rw [twL,Tr.tw] at hT
        have hszp:=zBR (.mk x ks)
        have hle:=hA.head.len
        rw [Tr.fl] at hC
        generalize Tr.sz (.mk x ks) = s at *
        cases hk : patK x.kind with
        | false =>
          rw [hk] at hp
          rw [if_neg (by rw [hk];decide)] at hT
          skip
          repeat' first | apply en_n|apply zAH|apply zAB|apply zAF|apply w0|(apply zA5;exact rfl;exact rfl;first|assumption|omega)|(refine zAV zDQ hp (zAX rfl zAG))|(apply aJ (hd:=rfl);(first|exact zAk rfl|exact Co_bb rfl rfl rfl|exact Co_nn rfl);exact rfl;(with_reducible exact zAW);assumption;omega;exact fun _=>rfl)|apply ay (hd:=rfl)|exact zAE rfl|exact zAC rfl|(apply zAy;exact rfl;(with_reducible exact fn_0))|(apply zAg;exact rfl;(with_reducible exact zAe))|(apply zAl;exact rfl;(with_reducible exact zA0))|exact zBC rfl rfl|exact zBo rfl|(apply zAU;exact rfl;(with_reducible exact zAn);exact rfl;exact rfl)|exact zAK rfl|apply zAI|apply zAP|apply zAt|apply en_e|apply eb_e
          all_goals try omega
          exact ⟨(n + 1,ks ++ r),⟨hin,by rw [zIp];exact hT⟩,by simp only;omega,zAO (zAA rfl (zAA rfl (zAA rfl zAa))) (zAD rfl rfl zAN) rfl rfl⟩
        | true =>
          rw [hk] at hp
          rw [if_pos hk] at hT
          cases hd : !decide (zBJ (x :: flL ks)).Nodup with
          | true =>
            rw [hd] at hC hT
            rw [← hT]
            skip
            repeat' first | apply en_n|apply zAH|apply zAB|apply zAF|apply w0|(apply zA5;exact rfl;exact rfl;first|assumption|omega)|(refine zAV zDQ hp (zAX rfl zAG))|exact zBF rfl|(refine zBB [0] [0] rfl rfl zI6 (hC) rfl ?_ rfl (by decide) rfl rfl rfl rfl;(repeat (refine zAL rfl ?_));exact zAS)|(apply aJ (hd:=rfl);(first|exact zAk rfl|exact Co_bb rfl rfl rfl|exact Co_nn rfl);exact rfl;(with_reducible exact zAW);assumption;omega;exact fun _=>rfl)|apply ay (hd:=rfl)|exact zAE rfl|exact zAC rfl|(apply zAy;exact rfl;(with_reducible exact fn_0))|(apply zAg;exact rfl;(with_reducible exact zAe))|(apply zAl;exact rfl;(with_reducible exact zA0))|exact zBo rfl|(apply zAU;exact rfl;(with_reducible exact zAn);exact rfl;exact rfl)|exact zAK rfl|exact zAQ rfl|apply zAI|apply zAP|apply zAM|apply en_r|apply eb_r|apply zAJ|exact res1 rfl
            all_goals try omega
            all_goals rfl
          | false =>
            rw [hd] at hC hT
            skip
            repeat' first | apply en_n|apply zAH|apply zAB|apply zAF|apply w0|(apply zA5;exact rfl;exact rfl;first|assumption|omega)|(refine zAV zDQ hp (zAX rfl zAG))|exact zBF rfl|(refine zBB [0] [0] rfl rfl zI6 (hC) rfl ?_ rfl (by decide) rfl rfl rfl rfl;(repeat (refine zAL rfl ?_));exact zAS)|(refine zAV zFl hE (zAX rfl (zAX rfl zAG)))|(apply aJ (hd:=rfl);(first|exact zAk rfl|exact Co_bb rfl rfl rfl|exact Co_nn rfl);exact rfl;(with_reducible exact zAW);assumption;omega;exact fun _=>rfl)|apply ay (hd:=rfl)|exact zAE rfl|exact zAC rfl|(apply zAy;exact rfl;(with_reducible exact fn_0))|(apply zAg;exact rfl;(with_reducible exact zAe))|(apply zAl;exact rfl;(with_reducible exact zA0))|exact zBC rfl rfl|exact zIj rfl rfl|exact zBo rfl|(apply zAU;exact rfl;(with_reducible exact zAn);exact rfl;exact rfl)|exact zAK rfl|exact zAQ rfl|apply zAI|apply zAP|apply eb_n
            all_goals try omega
            exact ⟨(n + s,r),⟨hov,by simpa using hT⟩,by simp only;omega,zAO (zAA rfl (zAA rfl (Le_d rfl (by congr 2;omega) zAa))) (zAD rfl rfl zAN) rfl rfl⟩
    · rw [zNa,if_neg h2] at hK
      rw [chkT,if_neg h1,if_pos h2]
      skip
      repeat' first | apply en_n|apply zAH|apply zAB|apply zAF|apply w0|(apply zDi;exact rfl;exact rfl;first|assumption|omega)|(apply zB4;exact rfl;exact rfl;first|assumption|omega)|(refine zAV zFd hW (zAX rfl zAG))|(refine zAV zJz hD (zAX rfl zAG))|(refine zBB [0] [] rfl rfl zHY (hK) rfl ?_ rfl (by decide) rfl rfl rfl rfl;(repeat (refine zAL rfl ?_));exact zAS)|(apply aBox (hd:=rfl) (hro:=rfl);exact rfl;exact rfl)|apply ay (hd:=rfl)|exact zAE rfl|exact zAC rfl|(apply zAl;exact rfl;(with_reducible exact zA0))|exact zBo rfl|exact zAh rfl rfl|exact zBP rfl rfl|(apply zAU;exact rfl;(with_reducible exact zAn);exact rfl;exact rfl)|exact zF3 rfl|exact w1 rfl rfl|exact zAK rfl|exact zAQ rfl|apply zAP|apply zAM|apply en_r|apply zAJ|exact res1 rfl
      all_goals rfl
theorem zOi (L : List Nd) (pat : Bool) (hL : L.length ≤ 1000000) (hw : zB7 L = false) : zAj Tryz.prog 56 [zAc L,bl pat] (i64 60):=by
  have hW:=zHj L (by omega)
  rw [hw] at hW
  refine zAd Tryz.func56 rfl Tryz.ntmps56 Tryz.results56 rfl ?_
  intro wb St0
  repeat' first | apply en_n|apply zAH|apply zAB|apply zAF|apply w0|(apply k0u (hd:=rfl);exact rfl;exact rfl)|(refine zAV zFd hW (zAX rfl zAG))|(apply aBox (hd:=rfl) (hro:=rfl);exact rfl;exact rfl)|apply ay (hd:=rfl)|exact zAE rfl|exact zAC rfl|(apply zAl;exact rfl;(with_reducible exact zA0))|exact zEk rfl rfl|exact zBo rfl|exact zAi rfl rfl|exact zAh rfl rfl|(apply zAU;exact rfl;(with_reducible exact zAn);exact rfl;exact rfl)|exact w1 rfl rfl|(apply gD;exact rfl;exact rfl;(intro hb);rotate_left;(intro hb);rotate_right)|exact zAK rfl|apply zAM|apply en_r|apply zAJ|exact res1 rfl
  all_goals rfl
theorem zET (t : Tr) (hw : t.wf) (hL : t.fl.length ≤ 1000000) : zAj Tryz.prog 34 [zAc t.fl] (i64 (chkT t false)):=by
  have hc:=zOh t hw false hL
  refine zAd Tryz.func34 rfl Tryz.ntmps34 Tryz.results34 rfl ?_
  intro wb St0
  repeat' first | apply en_n|apply zAH|apply zAB|apply zAF|apply w0|(refine zAV zKw hc (zAX rfl (zAX rfl zAG)))|apply ay (hd:=rfl)|exact zAE rfl|exact zAC rfl|apply zAM|apply zAJ|exact res1 rfl
  rfl
theorem zKV (L : List Nd) (hL : L.length ≤ 1000000) (hw : zB7 L = false) : zAj Tryz.prog 34 [zAc L] (i64 60):=by
  have hc:=zOi L false hL hw
  refine zAd Tryz.func34 rfl Tryz.ntmps34 Tryz.results34 rfl ?_
  intro wb St0
  repeat' first | apply en_n|apply zAH|apply zAB|apply zAF|apply w0|(refine zAV zKw hc (zAX rfl (zAX rfl zAG)))|apply ay (hd:=rfl)|exact zAE rfl|exact zAC rfl|apply zAM|apply zAJ|exact res1 rfl
  rfl
end Go.Proofs.YtblomnkamngnbaaGreatDoor
namespace Go.Proofs.YtblomnkamngnbaaGreatDoor
open Go.Sx
abbrev Bag:=List (List UInt8 × Nat)
def lkB : Bag → List UInt8 → Nat
  | [],_=>0
  | (k,v) :: r,a=>if k = a then v else lkB r a
def putB : Bag → List UInt8 → Nat → Bag
  | [],a,v=>[(a,v)]
  | (k,u) :: r,a,v=>if k = a then (k,v) :: r else (k,u) :: putB r a v
def delB : Bag → List UInt8 → Bag
  | [],_=>[]
  | (k,u) :: r,a=>if k = a then r else (k,u) :: delB r a
def zC1 (S : Bag) : List (List UInt8):=S.map Prod.fst
def upB (S : Bag) (a : List UInt8) : Bag:=putB S a (lkB S a + 1)
def dnB (S : Bag) (a : List UInt8) : Bag:=if lkB S a - 1 = 0 then delB (putB S a (lkB S a - 1)) a else putB S a (lkB S a - 1)
def zDp (c : List UInt8 → Nat) (S : Bag) : Bag:=S.map fun p=>(p.1,p.2 + c p.1)
theorem zJl {a : List UInt8} : ∀ {S : Bag},a ∉ zC1 S → lkB S a = 0
  | [],_=>rfl
  | (k,v) :: r,h=>by
    have h1 : k ≠ a:=fun e=>h (by rw [e];exact List.mem_cons_self)
    rw [lkB,if_neg h1,zJl fun hm=>h (List.mem_cons_of_mem _ hm)]
theorem zKh {a : List UInt8} {v : Nat} : ∀ {S : Bag},a ∉ zC1 S → putB S a v = S ++ [(a,v)]
  | [],_=>rfl
  | (k,u) :: r,h=>by
    have h1 : k ≠ a:=fun e=>h (by rw [e];exact List.mem_cons_self)
    rw [putB,if_neg h1,zKh fun hm=>h (List.mem_cons_of_mem _ hm)];rfl
theorem zI5 (c : List UInt8 → Nat) (S : Bag) : zC1 (zDp c S) = zC1 S:=by
  simp [zC1,zDp,Function.comp_def]
theorem zIY {c d : List UInt8 → Nat} {S : Bag} (h : ∀ a ∈ zC1 S,c a = d a) : zDp c S = zDp d S :=
  List.map_congr_left fun p hp=>by rw [h p.1 (List.mem_map_of_mem hp)]
theorem zHX {c : List UInt8 → Nat} {a : List UInt8} : ∀ {S : Bag},a ∈ zC1 S → lkB (zDp c S) a = lkB S a + c a
  | (k,v) :: r,h=>by
    show lkB ((k,v + c k) :: zDp c r) a = _
    rw [lkB,lkB]
    by_cases e : k = a
    · rw [if_pos e,if_pos e,e]
    · rw [if_neg e,if_neg e,zHX]
      rcases List.mem_cons.1 h with h | h
      · exact absurd h.symm e
      · exact h
theorem zHy {c d : List UInt8 → Nat} {a : List UInt8} {v : Nat} : ∀ {S : Bag},(zC1 S).Nodup → a ∈ zC1 S → v = lkB S a + d a → (∀ b,b ≠ a → c b = d b) → putB (zDp c S) a v = zDp d S
  | (k,u) :: r,hn,h,hv,hc=>by
    have hn':=List.nodup_cons.1 hn
    show putB ((k,u + c k) :: zDp c r) a v = (k,u + d k) :: zDp d r
    rw [lkB] at hv
    rw [putB]
    by_cases e : k = a
    · rw [if_pos e] at hv ⊢
      subst e
      rw [hv,zIY (d:=d) fun b hb=>hc b fun e=>hn'.1 (by rw [← e];exact hb)]
    · rw [if_neg e] at hv ⊢
      rw [hc k e,zHy hn'.2 ?_ hv hc]
      rcases List.mem_cons.1 h with h | h
      · exact absurd h.symm e
      · exact h
theorem zLM {c : List UInt8 → Nat} {a : List UInt8} : ∀ (M : Bag) {Z : Bag},a ∉ zC1 M → delB (zDp c (M ++ Z)) a = zDp c (M ++ delB Z a)
  | [],Z,_=>by
    rw [List.nil_append,List.nil_append]
    induction Z with
    | nil=>rfl
    | cons p r ih =>
      obtain ⟨k,u⟩:=p
      show delB ((k,u + c k) :: zDp c r) a = _
      rw [delB,delB]
      by_cases e : k = a
      · rw [if_pos e,if_pos e]
      · rw [if_neg e,if_neg e,ih];rfl
  | (k,u) :: M,Z,h=>by
    have h1 : k ≠ a:=fun e=>h (by rw [e];exact List.mem_cons_self)
    show delB ((k,u + c k) :: zDp c (M ++ Z)) a = (k,u + c k) :: zDp c (M ++ delB Z a)
    rw [delB,if_neg h1,zLM M fun hm=>h (List.mem_cons_of_mem _ hm)]
theorem zNH {a : List UInt8} : ∀ {Z : Bag} {p : List UInt8 × Nat},p ∈ delB Z a → p ∈ Z
  | (k,u) :: r,p,h=>by
    rw [delB] at h
    split at h
    · exact List.mem_cons_of_mem _ h
    · rcases List.mem_cons.1 h with h | h
      · rw [h];exact List.mem_cons_self
      · exact List.mem_cons_of_mem _ (zNH h)
theorem zLK {a b : List UInt8} (hb : b ≠ a) : ∀ {Z : Bag},b ∈ zC1 Z → b ∈ zC1 (delB Z a)
  | (k,u) :: r,h=>by
    rw [delB]
    split
    · rename_i e
      rcases List.mem_cons.1 h with h | h
      · exact absurd (h.trans e) hb
      · exact h
    · rcases List.mem_cons.1 h with h | h
      · exact h ▸ List.mem_cons_self
      · exact List.mem_cons_of_mem _ (zLK hb h)
theorem zHG {a : List UInt8} : ∀ {Z : Bag},(delB Z a).Sublist Z
  | []=>List.Sublist.refl _
  | (k,u) :: r=>by
    rw [delB]
    split
    · exact List.sublist_cons_self _ _
    · exact List.Sublist.cons_cons _ zHG
theorem zLL {a : List UInt8} : ∀ {Z : Bag},(zC1 Z).Nodup → a ∉ zC1 (delB Z a)
  | [],_=>by simp [delB,zC1]
  | (k,u) :: r,hn=>by
    have hn':=List.nodup_cons.1 hn
    rw [delB]
    split
    · rename_i e;rw [← e];exact hn'.1
    · rename_i e
      intro h
      rcases List.mem_cons.1 h with h | h
      · exact e h.symm
      · exact zLL hn'.2 h
structure GoodB (M : Bag) : Prop where
  nd : (zC1 M).Nodup
  pos : ∀ p ∈ M,0 < p.2
structure Pend (M : Bag) (c : List UInt8 → Nat) (S : Bag) : Prop where
  ex : ∃ Z : Bag,S = zDp c (M ++ Z) ∧ (zC1 (M ++ Z)).Nodup ∧ (∀ p ∈ Z,p.2 = 0 ∧ 0 < c p.1) ∧ ∀ a,0 < c a → a ∈ zC1 (M ++ Z)
theorem zLw {S : Bag} {a : List UInt8} : a ∈ zC1 S → (a,lkB S a) ∈ S:=by
  induction S with
  | nil=>intro h;cases h
  | cons p r ih =>
    obtain ⟨k,v⟩:=p
    intro h
    rw [lkB]
    by_cases e : k = a
    · rw [if_pos e,e];exact List.mem_cons_self
    · rw [if_neg e]
      rcases List.mem_cons.1 h with h | h
      · exact absurd h.symm e
      · exact List.mem_cons_of_mem _ (ih h)
theorem Pend.zero {M : Bag} (h : GoodB M) : Pend M (fun _=>0) M :=
  ⟨[],by rw [List.append_nil];simp [zDp],by rw [List.append_nil];exact h.nd,fun p hp=>by (cases hp),fun a h=>by omega⟩
theorem Pend.done {M S : Bag} {c : List UInt8 → Nat} (hc : ∀ a,c a = 0) (h : Pend M c S) : S = M:=by
  obtain ⟨Z,rfl,_,h3,_⟩:=h.ex
  cases Z with
  | nil=>rw [List.append_nil];simp [zDp,hc]
  | cons p r=>have:=(h3 p List.mem_cons_self).2;rw [hc] at this;omega
theorem Pend.up {M S : Bag} {c d : List UInt8 → Nat} {a : List UInt8} (hd : d a = c a + 1) (hdb : ∀ b,b ≠ a → c b = d b) (h : Pend M c S) : Pend M d (upB S a):=by
  obtain ⟨Z,rfl,h2,h3,h4⟩:=h.ex
  by_cases hm : a ∈ zC1 (M ++ Z)
  · refine ⟨Z,?_,h2,fun p hp=>⟨(h3 p hp).1,?_⟩,fun b hb=>?_⟩
    · exact zHy h2 hm (by rw [zHX hm];omega) hdb
    · have:=(h3 p hp).2
      by_cases e : p.1 = a
      · rw [e,hd];omega
      · rw [← hdb _ e];exact this
    · by_cases e : b = a
      · rw [e];exact hm
      · exact h4 b (by rw [hdb b e];exact hb)
  · have hc0 : c a = 0:=Nat.eq_zero_of_not_pos fun hp=>hm (h4 a hp)
    refine ⟨Z ++ [(a,0)],?_,?_,fun p hp=>?_,fun b hb=>?_⟩
    · have hk : a ∉ zC1 (zDp c (M ++ Z)):=by rw [zI5];exact hm
      rw [upB,zJl hk,zKh hk,zIY (d:=d) fun b hb=>hdb b fun e=>hm (e ▸ hb),← List.append_assoc]
      simp [zDp,hd,hc0]
    · rw [← List.append_assoc]
      unfold zC1 at h2 hm ⊢
      rw [List.map_append,List.nodup_append]
      exact ⟨h2,by simp,fun x hx y hy e=>hm (by simp at hy;subst hy;exact e ▸ hx)⟩
    · rcases List.mem_append.1 hp with hp | hp
      · have:=h3 p hp
        by_cases e : p.1 = a
        · exact ⟨this.1,by rw [e,hd];omega⟩
        · exact ⟨this.1,by rw [← hdb _ e];exact this.2⟩
      · simp at hp;subst hp
        exact ⟨rfl,by show 0 < d a;omega⟩
    · unfold zC1
      rw [← List.append_assoc,List.map_append]
      by_cases e : b = a
      · exact List.mem_append_right _ (by simp [e])
      · exact List.mem_append_left _ (h4 b (by rw [hdb b e];exact hb))
theorem Pend.dn {M S : Bag} {c d : List UInt8 → Nat} {a : List UInt8} (hM : GoodB M) (hd : c a = d a + 1) (hdb : ∀ b,b ≠ a → c b = d b) (h : Pend M c S) : Pend M d (dnB S a):=by
  obtain ⟨Z,rfl,h2,h3,h4⟩:=h.ex
  have hm : a ∈ zC1 (M ++ Z):=h4 a (by omega)
  have hl:=zHX (c:=c) hm
  have hput : putB (zDp c (M ++ Z)) a (lkB (zDp c (M ++ Z)) a - 1) = zDp d (M ++ Z):=zHy h2 hm (by rw [hl];omega) hdb
  have hmem:=zLw hm
  unfold dnB
  rw [hput]
  by_cases h0 : lkB (zDp c (M ++ Z)) a - 1 = 0
  · rw [if_pos h0]
    have hz : lkB (M ++ Z) a = 0:=by omega
    have hd0 : d a = 0:=by omega
    rw [hz] at hmem
    have haM : a ∉ zC1 M:=fun hk=>by
      have h5:=zLw hk
      have h6 : lkB (M ++ Z) a = lkB M a:=by
        have : ∀ (A B : Bag),a ∈ zC1 A → lkB (A ++ B) a = lkB A a:=by
          intro A B
          induction A with
          | nil=>intro h;cases h
          | cons p r ih =>
            obtain ⟨k,v⟩:=p
            intro h
            rw [List.cons_append,lkB,lkB]
            by_cases e : k = a
            · rw [if_pos e,if_pos e]
            · rw [if_neg e,if_neg e,ih]
              rcases List.mem_cons.1 h with h | h
              · exact absurd h.symm e
              · exact h
        exact this M Z hk
      have:=hM.pos _ h5
      simp only at this;omega
    have hn2:=h2
    unfold zC1 at hn2
    rw [List.map_append,List.nodup_append] at hn2
    refine ⟨delB Z a,zLM M haM,?_,fun p hp=>?_,fun b hb=>?_⟩
    · exact h2.sublist ((List.Sublist.append (List.Sublist.refl M) zHG).map _)
    · have h5:=h3 p (zNH hp)
      have h6 : p.1 ≠ a:=fun e=>zLL (a:=a) hn2.2.1 (by have h7:=List.mem_map_of_mem (f:=Prod.fst) hp;rw [e] at h7;exact h7)
      exact ⟨h5.1,by rw [← hdb _ h6];exact h5.2⟩
    · have hba : b ≠ a:=fun e=>by rw [e,hd0] at hb;omega
      have h5:=h4 b (by rw [hdb b hba];exact hb)
      unfold zC1 at h5 ⊢
      rw [List.map_append] at h5 ⊢
      rcases List.mem_append.1 h5 with h5 | h5
      · exact List.mem_append_left _ h5
      · exact List.mem_append_right _ (zLK hba h5)
  · rw [if_neg h0]
    refine ⟨Z,rfl,h2,fun p hp=>⟨(h3 p hp).1,?_⟩,fun b hb=>?_⟩
    · by_cases e : p.1 = a
      · have h5 : lkB (M ++ Z) a = 0:=by
          have hn2:=h2
          unfold zC1 at hn2
          rw [List.map_append,List.nodup_append] at hn2
          have haM : a ∉ zC1 M:=fun hk=>hn2.2.2 a hk a (e ▸ List.mem_map_of_mem hp) rfl
          rcases List.mem_append.1 hmem with h6 | h6
          · exact absurd (List.mem_map_of_mem (f:=Prod.fst) h6) haM
          · exact (h3 _ h6).1
        rw [e];omega
      · rw [← hdb _ e];exact (h3 p hp).2
    · by_cases e : b = a
      · rw [e];exact hm
      · exact h4 b (by rw [hdb b e];exact hb)
def upsB (S : Bag) (ns : List (List UInt8)) : Bag:=ns.foldl upB S
def dnsB (S : Bag) (ns : List (List UInt8)) : Bag:=ns.foldl dnB S
theorem Pend.ups {M : Bag} : ∀ {ns : List (List UInt8)} {S : Bag} {c : List UInt8 → Nat},Pend M c S → Pend M (fun a=>c a + ns.count a) (upsB S ns)
  | [],S,c,h=>by simpa [upsB] using h
  | n :: ns,S,c,h=>by
    have h1:=(h.up (a:=n) (d:=fun b=>if b = n then c b + 1 else c b) (by simp) (fun b hb=>by simp [hb])).ups (ns:=ns)
    have e : (fun a=>(if a = n then c a + 1 else c a) + ns.count a) = fun a=>c a + (n :: ns).count a:=by
      funext a
      rw [List.count_cons]
      by_cases ha : a = n
      · subst ha;simp;omega
      · have : ¬ n = a:=fun e=>ha e.symm
        simp [ha,this]
    rw [e] at h1
    exact h1
theorem Pend.dns {M : Bag} (hM : GoodB M) : ∀ {ns : List (List UInt8)} {S : Bag},Pend M (fun a=>ns.count a) S → dnsB S ns = M
  | [],S,h=>h.done fun a=>by simp
  | n :: ns,S,h=>by
    have h1 : Pend M (fun a=>ns.count a) (dnB S n):=h.dn hM (by simp) fun b hb=>by
      have : ¬ n = b:=fun e=>hb e.symm
      simp [this]
    exact Pend.dns hM (ns:=ns) h1
theorem zUA {M : Bag} (hM : GoodB M) (ns : List (List UInt8)) : dnsB (upsB M ns) ns = M:=by
  refine Pend.dns hM ?_
  have:=(Pend.zero hM).ups (ns:=ns)
  simpa using this
theorem GoodB.up {M : Bag} (h : GoodB M) (a : List UInt8) : GoodB (upB M a):=by
  obtain ⟨Z,e,h2,h3,_⟩:=((Pend.zero h).up (a:=a) (d:=fun b=>if b = a then 1 else 0) (by simp) (fun b hb=>by simp [hb])).ex
  rw [e]
  refine ⟨by rw [zI5];exact h2,fun p hp=>?_⟩
  obtain ⟨q,hq,rfl⟩:=List.mem_map.1 hp
  rcases List.mem_append.1 hq with hq | hq
  · have:=h.pos q hq;simp only;omega
  · have:=(h3 q hq).2;simp only;omega
theorem GoodB.ups {M : Bag} (h : GoodB M) : ∀ (ns : List (List UInt8)),GoodB (upsB M ns):=fun ns=>by
  induction ns generalizing M with
  | nil=>exact h
  | cons n ns ih=>exact ih (h.up n)
theorem GoodB.nil : GoodB []:=⟨List.nodup_nil,fun p hp=>by (cases hp)⟩
theorem zOU {S : Bag} {ns : List (List UInt8)} {i : Nat} {v : List UInt8} (h : ns[i]? = some v) : upsB S (ns.take (i + 1)) = upB (upsB S (ns.take i)) v:=by
  unfold upsB
  rw [List.take_add_one,h,List.foldl_append];rfl
theorem zPk {S : Bag} {ns : List (List UInt8)} {i : Nat} {v : List UInt8} (h : ns[i]? = some v) : dnsB S (ns.take (i + 1)) = dnB (dnsB S (ns.take i)) v:=by
  unfold dnsB
  rw [List.take_add_one,h,List.foldl_append];rfl
theorem zLv {a b : List UInt8} {v : Nat} : ∀ {S : Bag},lkB (putB S a v) b = if b = a then v else lkB S b
  | []=>by
    rw [putB,lkB,lkB]
    by_cases e : b = a
    · rw [if_pos e,if_pos e.symm]
    · rw [if_neg e,if_neg fun h=>e h.symm,lkB]
  | (k,u) :: r=>by
    rw [putB]
    by_cases e : k = a
    · rw [if_pos e,lkB,lkB]
      by_cases e2 : k = b
      · rw [if_pos e2,if_pos (e2 ▸ e)]
      · rw [if_neg e2,if_neg (fun h=>e2 (e.trans h.symm)),if_neg e2]
    · rw [if_neg e,lkB,lkB]
      by_cases e2 : k = b
      · rw [if_pos e2,if_neg (fun h=>e (e2.trans h)),if_pos e2]
      · rw [if_neg e2,if_neg e2,zLv]
theorem zFu {b : List UInt8} : ∀ {ns : List (List UInt8)} {S : Bag},lkB (upsB S ns) b = lkB S b + ns.count b
  | [],S=>by simp [upsB]
  | n :: ns,S=>by
    show lkB (upsB (upB S n) ns) b = _
    rw [zFu,upB,zLv,List.count_cons]
    by_cases e : b = n
    · subst e;simp;omega
    · have : ¬ n = b:=fun h=>e h.symm
      simp [e,this]
theorem zO7 {a : List UInt8} {B : Bag} : ∀ {A : Bag},a ∈ zC1 A → lkB (A ++ B) a = lkB A a
  | (k,v) :: r,h=>by
    rw [List.cons_append,lkB,lkB]
    by_cases e : k = a
    · rw [if_pos e,if_pos e]
    · rw [if_neg e,if_neg e,zO7]
      rcases List.mem_cons.1 h with h | h
      · exact absurd h.symm e
      · exact h
theorem Pend.lk {M S : Bag} {c : List UInt8 → Nat} {a : List UInt8} (h : Pend M c S) (hc : 0 < c a) : lkB S a = lkB M a + c a:=by
  obtain ⟨Z,rfl,h2,h3,h4⟩:=h.ex
  have hm:=h4 a hc
  rw [zHX hm]
  by_cases hM : a ∈ zC1 M
  · rw [zO7 hM]
  · have h5:=zLw hm
    rcases List.mem_append.1 h5 with h6 | h6
    · exact absurd (List.mem_map_of_mem (f:=Prod.fst) h6) hM
    · have h7 : lkB (M ++ Z) a = 0:=(h3 _ h6).1
      rw [zJl hM,h7]
theorem Pend.dnsd {M : Bag} (hM : GoodB M) : ∀ {ns ms : List (List UInt8)} {S : Bag},Pend M (fun a=>(ns ++ ms).count a) S → Pend M (fun a=>ms.count a) (dnsB S ns)
  | [],ms,S,h=>h
  | n :: ns,ms,S,h=>by
    have h1 : Pend M (fun a=>(ns ++ ms).count a) (dnB S n):=h.dn hM (by simp) fun b hb=>by
      have : ¬ n = b:=fun e=>hb e.symm
      simp [this]
    exact Pend.dnsd hM (ns:=ns) h1
theorem zQ5 {M : Bag} (hM : GoodB M) {ns : List (List UInt8)} {i : Nat} {v : List UInt8} (h : ns[i]? = some v) : 1 ≤ lkB (dnsB (upsB M ns) (ns.take i)) v ∧ lkB (dnsB (upsB M ns) (ns.take i)) v ≤ lkB M v + ns.length:=by
  have h1 : Pend M (fun a=>(ns.take i ++ ns.drop i).count a) (upsB M ns):=by
    have:=(Pend.zero hM).ups (ns:=ns)
    simpa using this
  have h2:=Pend.dnsd hM h1
  have hp : 0 < (ns.drop i).count v:=by
    refine List.count_pos_iff.2 ?_
    exact List.mem_of_getElem? (i:=0) (by rw [List.getElem?_drop];exact h)
  have h3:=h2.lk hp
  have h4 : (ns.drop i).count v ≤ ns.length:=Nat.le_trans List.count_le_length (by rw [List.length_drop];omega)
  omega
def mvB (S : Bag) : List (List UInt8 × D):=S.map fun p=>(p.1,i64 (p.2 : Int))
theorem zO6 (a : List UInt8) : ∀ S : Bag,(zCK (mvB S) a).getD (.val (.int .i64 0)) = i64 (lkB S a : Int)
  | []=>rfl
  | (k,v) :: r=>by
    show (zCK ((k,i64 (v : Int)) :: mvB r) a).getD _ = _
    unfold zCK lkB
    split
    · rfl
    · exact zO6 a r
theorem zOs (a : List UInt8) (v : Nat) : ∀ S : Bag,putK (mvB S) a (i64 (v : Int)) = mvB (putB S a v)
  | []=>rfl
  | (k,u) :: r=>by
    show putK ((k,i64 (u : Int)) :: mvB r) a _ = _
    unfold putK putB
    split
    · rfl
    · show _ :: _ = _ :: _
      congr 1;exact zOs a v r
theorem zSB (a : List UInt8) : ∀ S : Bag,delK (mvB S) a = mvB (delB S a)
  | []=>rfl
  | (k,u) :: r=>by
    show delK ((k,i64 (u : Int)) :: mvB r) a = _
    unfold delK delB
    split
    · rfl
    · show _ :: _ = _ :: _
      congr 1;exact zSB a r
def bagK (k : Int) (tx : List UInt8) (pv : List (List UInt8)) (i : Nat) (S : Bag) : Bag :=
  if k = 5 ∨ k = 8 ∨ ((k = 7 ∨ k = 12) ∧ i = 1) then upsB S [tx] else if k = 10 ∧ 0 < i then upsB S pv else S
mutual
def Tr.free : Tr → Bag → List (List UInt8) → List (List UInt8)
  | .mk x ks,S,F=>if x.kind = 3 then (if lkB S x.text = 0 ∧ x.text ∉ F then F ++ [x.text] else F) else zCX x.kind x.text S [] ks 0 F
def zCX (k : Int) (tx : List UInt8) (S : Bag) : List (List UInt8) → List Tr → Nat → List (List UInt8) → List (List UInt8)
  | _,[],_,F=>F
  | pv,t :: r,i,F=>if k = 10 ∧ i % 2 = 1 then zCX k tx S (zBJ t.fl) r (i + 1) F else zCX k tx S pv r (i + 1) (t.free (bagK k tx pv i S) F)
end
end Go.Proofs.YtblomnkamngnbaaGreatDoor
namespace Go.Proofs.YtblomnkamngnbaaGreatDoor
open Go.Sx
abbrev encS : List UInt8 → Value:=fun l=>.string ⟨l.toArray⟩
abbrev bagO (k : Option Nat) (S : Bag) : Ob:=.mapq false k (kvs encS (mvB S))
abbrev fO (L : List Nd) (S : Bag) (F : List (List UInt8)) : List Ob:=[.bx none (some 120) [.d (zAc L),.mp 1,.buf 2 (F.map str).length],bagO none S,.buf false 9 1 (F.map str)]
section
variable {P : Program} {η : List Ob} {σ : Sl} {dst : Option Nat} {ty : TypeId} {pos : String} {after : Array Edge} {gd : Option (Nat × Bool)} {t : TypeId} {x y : Operand}
theorem zG8 {id k e : Nat} {kb : Option Nat} {S : Bag} {a : List UInt8} (hx : oval σ x = .mp id) (ho : η[id]? = some (bagO kb S)) (hy : oval σ y = .d (str a)) (ht : zDZ P t = some (k,e)) (hk : P.underlying k = some .string) (hz : zFr P e = some (.val (.int .i64 0))) :
    Ylds P η σ ⟨dst,.lookup t x y false,ty,pos,after,gd⟩ (.d (i64 (lkB S a : Int))):=by
  have:=zRj (dst:=dst) (ty:=ty) (pos:=pos) (after:=after) (gd:=gd) hx ho hy ht hk hz
  rw [zO6] at this;exact this
end
section
variable {C : Ctx} {ops : Array Oper} {rest : List Oper} {K : Sl → List Ob → Prop} {σ : Sl} {η : List Ob} {ty : TypeId} {pos : String} {after : Array Edge} {gd : Option (Nat × Bool)} {t : TypeId} {x y z : Operand}
theorem aUpB {id k e : Nat} {kb : Option Nat} {S : Bag} {a : List UInt8} (hx : oval σ x = .mp id) (ho : η[id]? = some (bagO kb S)) (hy : oval σ y = .d (str a)) (hz : oval σ z = .d (.val (.int .i64 ((lkB S a : Int) + 1)))) (ht : zDZ C.P t = some (k,e)) (hk : C.P.underlying k = some .string) (hro : Nat.ble C.ro id = true)
    (h : alex C false ops rest K σ (η.set id (bagO kb (upB S a)))) : zBA C false ops ⟨none,.mapUpdate t x y z,ty,pos,after,gd⟩ rest K σ η :=
  zLZ (dv:=i64 ((lkB S a + 1 : Nat) : Int)) hx ho hy (zAk (by rw [hz,Int.natCast_add];rfl)) ht hk hro (by rw [zOs];exact h)
theorem aDnB {id k e : Nat} {kb : Option Nat} {S : Bag} {a : List UInt8} (hx : oval σ x = .mp id) (ho : η[id]? = some (bagO kb S)) (hy : oval σ y = .d (str a)) (hz : oval σ z = .d (.val (.int .i64 ((lkB S a : Int) - 1)))) (h1 : 1 ≤ lkB S a) (ht : zDZ C.P t = some (k,e)) (hk : C.P.underlying k = some .string) (hro : Nat.ble C.ro id = true)
    (h : alex C false ops rest K σ (η.set id (bagO kb (putB S a (lkB S a - 1))))) : zBA C false ops ⟨none,.mapUpdate t x y z,ty,pos,after,gd⟩ rest K σ η :=
  zLZ (dv:=i64 ((lkB S a - 1 : Nat) : Int)) hx ho hy (zAk (by rw [hz,Int.natCast_sub h1];rfl)) ht hk hro (by rw [zOs];exact h)
theorem zUw {id k e : Nat} {kb : Option Nat} {S : Bag} {a : List UInt8} {ts : Array TypeId} (hx : oval σ x = .mp id) (ho : η[id]? = some (bagO kb S)) (hy : oval σ y = .d (str a)) (hts : ts[0]? = some t) (ht : zDZ C.P t = some (k,e)) (hk : C.P.underlying k = some .string) (hro : Nat.ble C.ro id = true)
    (h : alex C false ops rest K σ (η.set id (bagO kb (delB S a)))) : zBA C false ops ⟨none,.call ⟨.builtin .delete,#[x,y],ts⟩,ty,pos,after,gd⟩ rest K σ η :=
  zP6 hx ho hy hts ht hk hro (by rw [zSB];exact h)
end
attribute [local irreducible] zAT Program.underlying Ylds zBA alex zBc zBO awp zAj zBX RCall zA2 zBH zBQ zA8 zBT zBZ zBd zBr zBN VCall
set_option maxHeartbeats 4000000 in
theorem zHn (L : List Nd) (q r : Int) (S : Bag) (F F' ns : List (List UInt8)) (hS : GoodB S) (hn : ns.length ≤ 1000000) (hb : ∀ a,lkB S a ≤ 1000000)
    (hc : zA2 Tryz.prog 106 [.ptr 0 0,.d (i64 q)] (fO L (upsB S ns) F) (.d (i64 r)) (fO L (upsB S ns) F')) :
    zA2 Tryz.prog 129 [.ptr 0 0,.d (i64 q),.d (strs ns)] (fO L S F) (.d (i64 r)) (fO L S F'):=by
  refine zA1 Tryz.func129 rfl Tryz.ntmps129 Tryz.results129 rfl rfl rfl ?_
  intro wb St0 X fx
  have hback:=zUA hS ns
  repeat' first | apply en_n|apply zAH|apply zAB|apply zAF|apply w0|apply ay (hd:=rfl)|exact zAE rfl|exact zAC rfl|(apply zAl;exact rfl;(with_reducible first|exact zCy|exact zCy))|apply zAI
  refine zAr (α:=Nat) (fun i=>i ≤ ns.length) (fun i=>[(0,.ptr 0 0),(1,.d (i64 q)),(2,.d (strs ns)),(12,.d (strs ns)),(13,.d (i64 (ns.length : Int))),(14,.d (i64 (i : Int)))])
    (fun i=>[.bx (fx 0) (some 120) [.d (zAc L),.mp 1,.buf 2 (F.map str).length],bagO (fx 1) (upsB S (ns.take i)),.buf false 9 1 (F.map str)]) (fun i=>ns.length - i) 0 (Nat.zero_le _)
    (zAO (zAA rfl (zAA rfl (zAA rfl (zAA rfl (Le_d rfl rfl (zAA rfl zAa)))))) (zAD rfl rfl (zAD rfl rfl (zAu rfl rfl rfl zAN))) rfl rfl) ?_
  intro i hi
  rcases Nat.lt_or_ge i ns.length with hlt | hge
  · obtain ⟨v,hv⟩ : ∃ v,ns[i]? = some v:=⟨_,List.getElem?_eq_getElem hlt⟩
    have hli : (i : Int) < (ns.length : Int):=by omega
    have hlk : lkB (upsB S (ns.take i)) v ≤ 2000000:=by
      rw [zFu]
      have h1 : (ns.take i).count v ≤ i:=Nat.le_trans List.count_le_length (by rw [List.length_take];omega)
      have:=hb v;omega
    have hnx:=zOU (S:=S) hv
    repeat' first | apply en_n|apply zAH|apply zAB|apply zAF|apply w0|(apply zA5;exact rfl;exact rfl;first|assumption|omega)|exact zAo rfl|(apply zG8;exact rfl;exact rfl;exact rfl;(with_reducible exact zH5);(with_reducible exact ustr);(with_reducible exact zGm))|(apply aUpB;exact rfl;exact rfl;exact rfl;exact rfl;(with_reducible exact zH5);(with_reducible exact ustr);exact rfl)|(apply aJ (hd:=rfl);(first|exact zAk rfl|exact Co_bb rfl rfl rfl|exact Co_nn rfl);exact rfl;(with_reducible first|exact zBU|exact zBU);assumption;omega;exact fun _=>rfl)|apply ay (hd:=rfl)|exact zAE rfl|exact zAC rfl|(apply zAg;exact rfl;(with_reducible exact zAv))|exact zBC rfl rfl|exact zAZ rfl|(apply zAR;exact rfl;(with_reducible exact fd_1))|(apply zAU;exact rfl;(with_reducible exact zIq);exact rfl;exact rfl)|(refine w0' ?_)|exact zAK rfl|apply zAI|apply zAP|apply eb_n
    all_goals try omega
    exact ⟨i + 1,by omega,by omega,zAO (zAA rfl (zAA rfl (zAA rfl (zAA rfl (zAA rfl (zAA rfl zAa)))))) (zAD rfl rfl (zAD rfl (by rw [hnx]) (zAu rfl rfl rfl zAN))) rfl rfl⟩
  · have hli : ¬ (i : Int) < (ns.length : Int):=by omega
    have e : ns.take i = ns:=List.take_of_length_le hge
    rw [e]
    clear e
    repeat' first | apply en_n|apply zAH|apply zAB|apply zAF|apply w0|(apply zBn;exact rfl;exact rfl;first|assumption|omega)|(refine zA3 [0,1,2] zIK (hc) ?_ rfl rfl (by decide) rfl rfl rfl rfl rfl rfl ?_;(repeat (refine zAL rfl ?_));exact zAS)|apply ay (hd:=rfl)|exact zAE rfl|exact zAC rfl|(apply zAl;exact rfl;(with_reducible first|exact zCy|exact zCy))|exact zAZ rfl|exact zAQ rfl|apply zAI|apply zAt|apply en_e|apply eb_e
    refine zAr (α:=Nat) (fun i=>i ≤ ns.length) (fun i=>[(0,.ptr 0 0),(9,.d (i64 r)),(29,.d (strs ns)),(30,.d (i64 (ns.length : Int))),(31,.d (i64 (i : Int)))])
      (fun i=>[.bx (fx 0) (some 120) [.d (zAc L),.mp 1,.buf 2 (F'.map str).length],bagO (fx 1) (dnsB (upsB S ns) (ns.take i)),.buf false 9 1 (F'.map str)]) (fun i=>ns.length - i) 0 (Nat.zero_le _)
      (zAO (zAA rfl (zAA rfl (zAA rfl (zAA rfl (Le_d rfl rfl zAa))))) (zAD rfl rfl (zAD rfl rfl (zAu rfl rfl rfl zAN))) rfl rfl) ?_
    intro i hi
    rcases Nat.lt_or_ge i ns.length with hlt | hge
    · obtain ⟨v,hv⟩ : ∃ v,ns[i]? = some v:=⟨_,List.getElem?_eq_getElem hlt⟩
      have hli : (i : Int) < (ns.length : Int):=by omega
      obtain ⟨hl1,hl2⟩:=zQ5 hS hv
      have hnx:=zPk (S:=upsB S ns) hv
      have hbv:=hb v
      generalize dnsB (upsB S ns) (ns.take i) = B at *
      have hp : lkB (putB B v (lkB B v - 1)) v = lkB B v - 1:=by rw [zLv,if_pos rfl]
      have fin : ∀ σ' η',Fits [(0,.ptr 0 0),(9,.d (i64 r)),(29,.d (strs ns)),(30,.d (i64 (ns.length : Int))),(31,.d (i64 ((i + 1 : Nat) : Int)))] [.bx (fx 0) (some 120) [.d (zAc L),.mp 1,.buf 2 (F'.map str).length],bagO (fx 1) (dnsB (upsB S ns) (ns.take (i + 1))),.buf false 9 1 (F'.map str)] σ' η' →
          ∃ y,y ≤ ns.length ∧ ns.length - y < ns.length - i ∧ Fits [(0,.ptr 0 0),(9,.d (i64 r)),(29,.d (strs ns)),(30,.d (i64 (ns.length : Int))),(31,.d (i64 (y : Int)))] [.bx (fx 0) (some 120) [.d (zAc L),.mp 1,.buf 2 (F'.map str).length],bagO (fx 1) (dnsB (upsB S ns) (ns.take y)),.buf false 9 1 (F'.map str)] σ' η' :=
        fun σ' η' hf=>⟨i + 1,by omega,by omega,hf⟩
      by_cases h0 : lkB B v - 1 = 0
      · have h0' : ((lkB (putB B v (lkB B v - 1)) v : Nat) : Int) = 0:=by rw [hp,h0];rfl
        rw [dnB,if_pos h0] at hnx
        repeat' first | apply en_n|apply zAH|apply zAB|apply zAF|apply w0|(apply zA5;exact rfl;exact rfl;first|assumption|omega)|(apply zBD;exact rfl;exact rfl;first|assumption|omega)|exact zAo rfl|(apply zG8;exact rfl;exact rfl;exact rfl;(with_reducible exact zH5);(with_reducible exact ustr);(with_reducible exact zGm))|(apply aDnB;exact rfl;exact rfl;exact rfl;exact rfl;exact hl1;(with_reducible exact zH5);(with_reducible exact ustr);exact rfl)|(apply zUw;exact rfl;exact rfl;exact rfl;exact rfl;exact zH5;(with_reducible exact ustr);exact rfl)|(apply aJ (hd:=rfl);(first|exact zAk rfl|exact Co_bb rfl rfl rfl|exact Co_nn rfl);exact rfl;(with_reducible first|exact zBU|exact zBU);assumption;omega;exact fun _=>rfl)|apply ay (hd:=rfl)|exact zAE rfl|exact zAC rfl|(apply zAg;exact rfl;(with_reducible exact zAv))|exact zBC rfl rfl|exact zIj rfl rfl|exact zAZ rfl|(apply zAR;exact rfl;(with_reducible exact fd_1))|(apply zAU;exact rfl;(with_reducible exact zIq);exact rfl;exact rfl)|(refine w0' ?_)|exact zAK rfl|apply zAI|apply zAP|apply eb_n
        all_goals try omega
        refine fin _ _ ?_
        exact zAO (zAA rfl (zAA rfl (zAA rfl (zAA rfl (zAA rfl zAa))))) (zAD rfl rfl (zAD rfl (by rw [hnx]) (zAu rfl rfl rfl zAN))) rfl rfl
      · have h0' : ¬ ((lkB (putB B v (lkB B v - 1)) v : Nat) : Int) = 0:=by rw [hp];omega
        rw [dnB,if_neg h0] at hnx
        repeat' first | apply en_n|apply zAH|apply zAB|apply zAF|apply w0|(apply zA5;exact rfl;exact rfl;first|assumption|omega)|(apply zA9;exact rfl;exact rfl;first|assumption|omega)|exact zAo rfl|(apply zG8;exact rfl;exact rfl;exact rfl;(with_reducible exact zH5);(with_reducible exact ustr);(with_reducible exact zGm))|(apply aDnB;exact rfl;exact rfl;exact rfl;exact rfl;exact hl1;(with_reducible exact zH5);(with_reducible exact ustr);exact rfl)|(apply aJ (hd:=rfl);(first|exact zAk rfl|exact Co_bb rfl rfl rfl|exact Co_nn rfl);exact rfl;(with_reducible first|exact zBU|exact zBU);assumption;omega;exact fun _=>rfl)|apply ay (hd:=rfl)|exact zAE rfl|exact zAC rfl|(apply zAg;exact rfl;(with_reducible exact zAv))|exact zBC rfl rfl|exact zIj rfl rfl|exact zAZ rfl|(apply zAR;exact rfl;(with_reducible exact fd_1))|(apply zAU;exact rfl;(with_reducible exact zIq);exact rfl;exact rfl)|(refine w0' ?_)|exact zAK rfl|exact zAQ rfl|apply zAI|apply zAP|apply eb_n
        all_goals try omega
        refine fin _ _ ?_
        exact zAO (zAA rfl (zAA rfl (zAA rfl (zAA rfl (zAA rfl zAa))))) (zAD rfl rfl (zAD rfl (by rw [hnx]) (zAu rfl rfl rfl zAN))) rfl rfl
    · have hli : ¬ (i : Int) < (ns.length : Int):=by omega
      have e : ns.take i = ns:=List.take_of_length_le hge
      rw [e,hback]
      repeat' first | apply en_n|apply zAH|apply zAB|apply zAF|apply w0|(apply zBn;exact rfl;exact rfl;first|assumption|omega)|apply ay (hd:=rfl)|exact zAE rfl|exact zAC rfl|exact zAQ rfl|apply zAM|apply zAt|apply en_e|apply eb_e
      all_goals exact zAq (zAO (zAA rfl zAa) (zAD rfl rfl (zAD rfl rfl (zAu rfl rfl rfl zAN))) rfl rfl)
end Go.Proofs.YtblomnkamngnbaaGreatDoor
namespace Go.Proofs.YtblomnkamngnbaaGreatDoor
open Go.Sx
mutual
theorem zEt : ∀ (t : Tr) (S : Bag) (F : List (List UInt8)),(t.free S F).length ≤ F.length + t.sz
  | .mk x ks,S,F=>by
    rw [Tr.free,Tr.sz]
    split
    · split
      · rw [List.length_append];simp only [List.length_cons,List.length_nil];omega
      · omega
    · have:=zIN x.kind x.text S [] ks 0 F;omega
theorem zIN (k : Int) (tx : List UInt8) (S : Bag) : ∀ (pv : List (List UInt8)) (ks : List Tr) (i : Nat) (F : List (List UInt8)),(zCX k tx S pv ks i F).length ≤ F.length + szL ks
  | _,[],_,F=>by rw [zCX];omega
  | pv,t :: r,i,F=>by
    rw [zCX,szL]
    split
    · have:=zIN k tx S (zBJ t.fl) r (i + 1) F;omega
    · have h1:=zIN k tx S pv r (i + 1) (t.free (bagK k tx pv i S) F)
      have h2:=zEt t (bagK k tx pv i S) F
      omega
end
def zHJ (L : List Nd) (m : Nat) : Prop:=∀ (n : Nat) (t : Tr) (S : Bag) (F : List (List UInt8)) (b : Nat),t.sz ≤ m → At L n t → t.werr false = 0 → GoodB S → (∀ a,lkB S a ≤ b) → b + t.sz ≤ 1000000 → F.length + t.sz ≤ 1000000 →
  zA2 Tryz.prog 106 [.ptr 0 0,.d (i64 (n : Int))] (fO L S F) (.d (i64 ((n + t.sz : Nat) : Int))) (fO L S (t.free S F))
attribute [local irreducible] zAT Program.underlying Ylds zBA alex zBc zBO awp zAj zBX RCall zA2 zBH zBQ zA8 zBT zBZ zBd zBr zBN VCall
theorem zCL {x : Nd} {k1 : Int} {pat : Bool} (h : zD8 x k1 pat = 0) : okK x.kind = true ∧ patK x.kind = pat ∧ cntK x.kind x.kids = true:=by
  unfold zD8 at h
  split at h
  · cases h
  · rename_i hc
    refine ⟨?_,?_,?_⟩
    · cases hq : okK x.kind with
      | true=>rfl
      | false=>exact absurd (.inl hq) hc
    · by_cases hq : patK x.kind = pat
      · exact hq
      · exact absurd (.inr (.inl hq)) hc
    · cases hq : cntK x.kind x.kids with
      | true=>rfl
      | false=>exact absurd (.inr (.inr hq)) hc
theorem zC0 {x : Nd} {ks : List Tr} {pat : Bool} (h : Tr.werr (.mk x ks) pat = 0) : zD8 x (Tr.kind1 (.mk x ks)) pat = 0 ∧ zDX (decide (x.kind = 10)) pat ks 0 = 0:=by
  rw [zOR] at h
  by_cases he : zD8 x (Tr.kind1 (.mk x ks)) pat = 0
  · rw [if_neg (by rw [he];decide)] at h;exact ⟨he,h⟩
  · rw [if_pos he] at h;exact absurd h he
theorem zBY {m pat : Bool} : ∀ {ks : List Tr} {i j : Nat} {k : Tr},zDX m pat ks i = 0 → ks[j]? = some k → k.werr (pat || (m && decide ((i + j) % 2 = 1))) = 0
  | t :: r,i,0,k,h,hk=>by
    simp at hk;subst hk
    rw [zDX] at h
    by_cases he : t.werr (pat || (m && decide (i % 2 = 1))) = 0
    · exact he
    · rw [if_pos he] at h;exact absurd h he
  | t :: r,i,j + 1,k,h,hk=>by
    rw [zDX] at h
    by_cases he : t.werr (pat || (m && decide (i % 2 = 1))) = 0
    · rw [if_neg (by rw [he];decide)] at h
      have:=zBY (j:=j) h (by simpa using hk)
      rw [show i + (j + 1) = i + 1 + j by omega];exact this
    · rw [if_pos he] at h;exact absurd h he
theorem zSs {L : List Nd} (hL : L.length ≤ 2000000) {m : Nat} (ih : zHJ L m) (n : Nat) (x : Nd) (ks : List Tr) (S : Bag) (F : List (List UInt8)) (b : Nat) (hk : x.kind = 5) (hm : Tr.sz (.mk x ks) ≤ m + 1) (h : At L n (.mk x ks)) (hw : Tr.werr (.mk x ks) false = 0) (hS : GoodB S) (hb : ∀ a,lkB S a ≤ b) (hb2 : b + Tr.sz (.mk x ks) ≤ 1000000) (hF : F.length + Tr.sz (.mk x ks) ≤ 1000000) :
    zA2 Tryz.prog 106 [.ptr 0 0,.d (i64 (n : Int))] (fO L S F) (.d (i64 ((n + Tr.sz (.mk x ks) : Nat) : Int))) (fO L S (Tr.free (.mk x ks) S F)):=by
  obtain ⟨h1,h2⟩:=zC0 hw
  obtain ⟨h3,h4,h5⟩:=zCL h1
  have hx:=h.here
  have hkn:=h.kidn
  have hlen:=h.len
  have hsz : Tr.sz (.mk x ks) = szL ks + 1:=by rw [Tr.sz]
  rw [hk] at h5
  have hl1 : ks.length = 1:=by
    have : x.kids = 1:=by simpa [cntK] using h5
    omega
  match ks,hl1 with
  | [t],_ =>
    have hc:=ih (n + 1) t (upsB S [x.text]) F (b + 1) (by rw [hsz,szL,szL] at hm;omega) (by simpa [zCD] using h.kid (i:=0) rfl) (by simpa [hk] using zBY (j:=0) h2 rfl) (hS.ups _) (fun a=>by rw [zFu];have h6 : ([x.text] : List (List UInt8)).count a ≤ 1:=List.count_le_length;have:=hb a;omega)
      (by rw [hsz,szL,szL] at hb2;omega) (by rw [hsz,szL,szL] at hF;omega)
    have hr : n + 1 + t.sz = n + Tr.sz (.mk x [t]):=by rw [hsz,szL,szL];omega
    rw [hr] at hc
    have he : Tr.free (.mk x [t]) S F = t.free (upsB S [x.text]) F:=by rw [Tr.free,if_neg (by rw [hk];decide),zCX,zCX,bagK,hk];rfl
    rw [he]
    generalize t.free (upsB S [x.text]) F = F' at *
    generalize Tr.sz (.mk x [t]) = s at *
    have hwi:=zHn L ((n : Int) + 1) ((n + s : Nat) : Int) S F F' [x.text] hS (by simp) (fun a=>by have:=hb a;omega) hc
    refine zA1 Tryz.func106 rfl Tryz.ntmps106 Tryz.results106 rfl rfl rfl ?_
    intro wb St0 X fx
    repeat' first | apply en_n|apply zAH|apply zAB|apply zAF|apply w0|(apply zBD;exact rfl;exact rfl;first|assumption|omega)|(apply zA9;exact rfl;exact rfl;first|assumption|omega)|exact zAo rfl|(refine zA3 [0,1,2] zIE (hwi) ?_ rfl rfl (by decide) rfl rfl rfl rfl rfl rfl ?_;(repeat (refine zAL rfl ?_));exact zAS)|(apply aJ (hd:=rfl);(first|exact zAk rfl|exact Co_bb rfl rfl rfl|exact Co_nn rfl);exact rfl;(with_reducible exact zAW);assumption;omega;exact fun _=>rfl)|(apply zA4 (hd:=rfl) (hro:=rfl);(with_reducible exact zAp))|apply ay (hd:=rfl)|exact zAE rfl|exact zAC rfl|(apply zAf;exact rfl;(with_reducible exact zAY);exact rfl)|exact zBC rfl rfl|exact zAZ rfl|(apply zAR;exact rfl;(with_reducible first|exact fd_0|exact fn_0|exact fn_1))|(apply zAU;exact rfl;(with_reducible first|exact zAn|exact zAe|exact zAv);exact rfl;exact rfl)|(apply zB8;(with_reducible first|exact zBz|exact zBz);(with_reducible first|exact zBU|exact zBU);(with_reducible first|exact zDe|exact zDe);exact rfl;exact rfl;(first|exact zAX rfl zAG|exact zCx rfl rfl rfl zAG|exact zDB rfl zAG);exact rfl)|(refine w0' ?_)|(apply zAx;exact rfl;exact rfl;exact rfl;(with_reducible exact zAY);exact rfl;exact rfl;exact rfl;exact rfl)|exact zAK rfl|exact zAQ rfl|apply zAI|apply zAM|apply en_r|apply eb_r
    all_goals try omega
    exact zAq (zAO (zAA rfl zAa) (zAD rfl rfl (zAD rfl rfl (zAu rfl rfl rfl zAN))) rfl rfl)
set_option maxHeartbeats 4000000 in
theorem zRQ {L : List Nd} (hL : L.length ≤ 2000000) {m : Nat} (ih : zHJ L m) (n : Nat) (x : Nd) (ks : List Tr) (S : Bag) (F : List (List UInt8)) (b : Nat) (hk : x.kind = 7 ∨ x.kind = 12) (hm : Tr.sz (.mk x ks) ≤ m + 1) (h : At L n (.mk x ks)) (hw : Tr.werr (.mk x ks) false = 0) (hS : GoodB S) (hb : ∀ a,lkB S a ≤ b) (hb2 : b + Tr.sz (.mk x ks) ≤ 1000000) (hF : F.length + Tr.sz (.mk x ks) ≤ 1000000) :
    zA2 Tryz.prog 106 [.ptr 0 0,.d (i64 (n : Int))] (fO L S F) (.d (i64 ((n + Tr.sz (.mk x ks) : Nat) : Int))) (fO L S (Tr.free (.mk x ks) S F)):=by
  obtain ⟨h1,h2⟩:=zC0 hw
  obtain ⟨h3,h4,h5⟩:=zCL h1
  have hx:=h.here
  have hkn:=h.kidn
  have hlen:=h.len
  have hsz : Tr.sz (.mk x ks) = szL ks + 1:=by rw [Tr.sz]
  have hl2 : ks.length = 2:=by
    have : x.kids = 2:=by rcases hk with hk | hk <;> (rw [hk] at h5;simpa [cntK] using h5)
    omega
  match ks,hl2 with
  | [t,u],_ =>
    rw [hsz,szL,szL,szL] at hm hb2 hF
    have hc1:=ih (n + 1) t S F b (by omega) (by simpa [zCD] using h.kid (i:=0) rfl) (by rcases hk with hk | hk <;> simpa [hk] using zBY (j:=0) h2 rfl) hS hb (by omega) (by omega)
    have hfl:=zEt t S F
    have hat : At L (n + 1 + t.sz) u:=by
      have h6:=h.kid (i:=1) (k:=u) rfl
      rw [zCu (i:=0) (k:=t) rfl,zCD] at h6;exact h6
    have hc:=ih (n + 1 + t.sz) u (upsB S [x.text]) (t.free S F) (b + 1) (by omega) hat (by rcases hk with hk | hk <;> simpa [hk] using zBY (j:=1) h2 rfl) (hS.ups _) (fun a=>by rw [zFu];have h6 : ([x.text] : List (List UInt8)).count a ≤ 1:=List.count_le_length;have:=hb a;omega) (by omega) (by omega)
    have hr : n + 1 + t.sz + u.sz = n + Tr.sz (.mk x [t,u]):=by rw [hsz,szL,szL,szL];omega
    rw [hr] at hc
    have he : Tr.free (.mk x [t,u]) S F = u.free (upsB S [x.text]) (t.free S F):=by
      have e0 : bagK x.kind x.text [] 0 S = S:=by rw [bagK,if_neg (by omega),if_neg (by omega)]
      have e1 : bagK x.kind x.text [] (0 + 1) S = upsB S [x.text]:=by rw [bagK,if_pos (by omega)]
      rw [Tr.free,if_neg (by omega),zCX,if_neg (by omega),zCX,if_neg (by omega),zCX,e0,e1]
    rw [he]
    clear he
    generalize u.free (upsB S [x.text]) (t.free S F) = F' at *
    generalize t.free S F = F1 at *
    generalize Tr.sz (.mk x [t,u]) = s at *
    generalize n + 1 + t.sz = q at *
    have hwi:=zHn L (q : Int) ((n + s : Nat) : Int) S F1 F' [x.text] hS (by simp) (fun a=>by have:=hb a;omega) hc
    clear h1 h2 h3 h4 h5 hw h hat hfl hS ih hsz
    rcases hk with hk | hk
    all_goals
      refine zA1 Tryz.func106 rfl Tryz.ntmps106 Tryz.results106 rfl rfl rfl ?_
      intro wb St0 X fx
      repeat' first | (refine zLU (id:=11) [.ptr 0 0,.ptr 0 0,.d (i64 ((n : Int) + 1)),.top,.ptr 3 1,.d (str x.text),.d (strs [x.text])] 3 [0,1,2] (by kernel_rfl) (by kernel_rfl) rfl rfl rfl (.inr (by kernel_rfl)) ⟨.inr ⟨⟨rfl,zAZ rfl⟩,rfl,rfl,.inr ⟨rfl,rfl,zAZ rfl⟩⟩,⟨.inr ⟨⟨rfl,zAZ rfl⟩,rfl,rfl,.inl (by kernel_rfl)⟩,⟨.inr ⟨⟨rfl,zAE rfl⟩,rfl,rfl,.inl (by kernel_rfl)⟩,⟨.inl rfl,⟨.inr ⟨⟨rfl,zAR rfl fn_1⟩,rfl,rfl,.inr ⟨rfl,rfl,zAR rfl fn_1⟩⟩,⟨.inr ⟨⟨rfl,zAU rfl zAv rfl rfl⟩,rfl,rfl,.inr ⟨rfl,rfl,zAU rfl zAv rfl rfl⟩⟩,⟨.inr ⟨⟨rfl,zB8 zBz zBU zDe rfl rfl (zAX rfl zAG) rfl⟩,rfl,rfl,.inr ⟨rfl,rfl,zB8 zBz zBU zDe rfl rfl (zAX rfl zAG) rfl⟩⟩,trivial⟩⟩⟩⟩⟩⟩⟩ zIK hc1 ⟨rfl,rfl,trivial⟩ rfl rfl (by decide) rfl rfl rfl rfl rfl rfl ?_)|apply en_n|apply zAH|apply zAB|apply zAF|apply w0|(apply zBD;exact rfl;exact rfl;first|assumption|omega)|(apply zA9;exact rfl;exact rfl;first|assumption|omega)|exact zAo rfl|(refine zC5 (by kernel_rfl) ?_;refine zA3 [0,1,2] zIE (hwi) ?_ rfl rfl (by decide) rfl rfl rfl rfl rfl rfl ?_;(repeat (refine zAL rfl ?_));exact zAS)|(apply aJ (hd:=rfl);(first|exact zAk rfl|exact Co_bb rfl rfl rfl|exact Co_nn rfl);exact rfl;(with_reducible exact zAW);assumption;omega;exact fun _=>rfl)|(apply zA4 (hd:=rfl) (hro:=rfl);(with_reducible exact zAp))|apply ay (hd:=rfl)|exact zAE rfl|exact zAC rfl|(apply zAf;exact rfl;(with_reducible exact zAY);exact rfl)|exact zBC rfl rfl|exact zAZ rfl|(apply zAR;exact rfl;(with_reducible first|exact fd_0|exact fn_0))|(apply zAU;exact rfl;(with_reducible first|exact zAn|exact zAe);exact rfl;exact rfl)|(refine w0' ?_)|(apply zAx;exact rfl;exact rfl;exact rfl;(with_reducible exact zAY);exact rfl;exact rfl;exact rfl;exact rfl)|exact zAK rfl|exact zAQ rfl|apply zAI|apply zAP|apply zAM|apply en_r|apply eb_r
      all_goals try omega
      exact zAq (zAO (zAA rfl zAa) (zAD rfl rfl (zAD rfl rfl (zAu rfl rfl rfl zAN))) rfl rfl)
set_option maxHeartbeats 4000000 in
theorem zRP {L : List Nd} (hL : L.length ≤ 2000000) {m : Nat} (ih : zHJ L m) (n : Nat) (x : Nd) (ks : List Tr) (S : Bag) (F : List (List UInt8)) (b : Nat) (hk : x.kind = 8) (hm : Tr.sz (.mk x ks) ≤ m + 1) (h : At L n (.mk x ks)) (hw : Tr.werr (.mk x ks) false = 0) (hS : GoodB S) (hb : ∀ a,lkB S a ≤ b) (hb2 : b + Tr.sz (.mk x ks) ≤ 1000000) (hF : F.length + Tr.sz (.mk x ks) ≤ 1000000) :
    zA2 Tryz.prog 106 [.ptr 0 0,.d (i64 (n : Int))] (fO L S F) (.d (i64 ((n + Tr.sz (.mk x ks) : Nat) : Int))) (fO L S (Tr.free (.mk x ks) S F)):=by
  obtain ⟨h1,h2⟩:=zC0 hw
  obtain ⟨h3,h4,h5⟩:=zCL h1
  have hx:=h.here
  have hkn:=h.kidn
  have hlen:=h.len
  have hsz : Tr.sz (.mk x ks) = szL ks + 1:=by rw [Tr.sz]
  have hl2 : ks.length = 2:=by
    have : x.kids = 2:=by rw [hk] at h5;simpa [cntK] using h5
    omega
  match ks,hl2 with
  | [t,u],_ =>
    rw [hsz,szL,szL,szL] at hm hb2 hF
    have hc1:=ih (n + 1) t (upsB S [x.text]) F (b + 1) (by omega) (by simpa [zCD] using h.kid (i:=0) rfl) (by simpa [hk] using zBY (j:=0) h2 rfl) (hS.ups _) (fun a=>by rw [zFu];have h6 : ([x.text] : List (List UInt8)).count a ≤ 1:=List.count_le_length;have:=hb a;omega) (by omega) (by omega)
    have hfl:=zEt t (upsB S [x.text]) F
    have hat : At L (n + 1 + t.sz) u:=by
      have h6:=h.kid (i:=1) (k:=u) rfl
      rw [zCu (i:=0) (k:=t) rfl,zCD] at h6;exact h6
    have hc:=ih (n + 1 + t.sz) u (upsB S [x.text]) (t.free (upsB S [x.text]) F) (b + 1) (by omega) hat (by simpa [hk] using zBY (j:=1) h2 rfl) (hS.ups _) (fun a=>by rw [zFu];have h6 : ([x.text] : List (List UInt8)).count a ≤ 1:=List.count_le_length;have:=hb a;omega) (by omega) (by omega)
    have hr : n + 1 + t.sz + u.sz = n + Tr.sz (.mk x [t,u]):=by rw [hsz,szL,szL,szL];omega
    rw [hr] at hc
    have he : Tr.free (.mk x [t,u]) S F = u.free (upsB S [x.text]) (t.free (upsB S [x.text]) F):=by
      rw [Tr.free,if_neg (by omega),zCX,if_neg (by omega),zCX,if_neg (by omega),zCX,bagK,if_pos (by omega),bagK,if_pos (by omega)]
    rw [he]
    clear he
    generalize u.free (upsB S [x.text]) (t.free (upsB S [x.text]) F) = F' at *
    generalize t.free (upsB S [x.text]) F = F1 at *
    generalize Tr.sz (.mk x [t,u]) = s at *
    generalize n + 1 + t.sz = q at *
    rw [show ((n + 1 : Nat) : Int) = (n : Int) + 1 from rfl] at hc1
    have hw1:=zHn L ((n : Int) + 1) (q : Int) S F F1 [x.text] hS (by simp) (fun a=>by have:=hb a;omega) hc1
    have hwi:=zHn L (q : Int) ((n + s : Nat) : Int) S F1 F' [x.text] hS (by simp) (fun a=>by have:=hb a;omega) hc
    clear h1 h2 h3 h4 h5 hw h hat hfl hS ih hsz
    refine zA1 Tryz.func106 rfl Tryz.ntmps106 Tryz.results106 rfl rfl rfl ?_
    intro wb St0 X fx
    repeat' first | (refine zLU (id:=13) [.ptr 0 0,.ptr 0 0,.d (i64 ((n : Int) + 1)),.ptr 3 1,.d (str x.text),.d (strs [x.text]),.top,.ptr 3 1,.d (str x.text),.d (strs [x.text])] 6 [0,1,2] (by kernel_rfl) (by kernel_rfl) rfl rfl rfl (.inr (by kernel_rfl)) ⟨.inr ⟨⟨rfl,zAZ rfl⟩,rfl,rfl,.inr ⟨rfl,rfl,zAZ rfl⟩⟩,⟨.inr ⟨⟨rfl,zAZ rfl⟩,rfl,rfl,.inl (by kernel_rfl)⟩,⟨.inr ⟨⟨rfl,zAE rfl⟩,rfl,rfl,.inl (by kernel_rfl)⟩,⟨.inr ⟨⟨rfl,zAR rfl fn_1⟩,rfl,rfl,.inl (by kernel_rfl)⟩,⟨.inr ⟨⟨rfl,zAU rfl zAv rfl rfl⟩,rfl,rfl,.inl (by kernel_rfl)⟩,⟨.inr ⟨⟨rfl,zB8 zBz zBU zDe rfl rfl (zAX rfl zAG) rfl⟩,rfl,rfl,.inl (by kernel_rfl)⟩,⟨.inl rfl,⟨.inr ⟨⟨rfl,zAR rfl fn_1⟩,rfl,rfl,.inr ⟨rfl,rfl,zAR rfl fn_1⟩⟩,⟨.inr ⟨⟨rfl,zAU rfl zAv rfl rfl⟩,rfl,rfl,.inr ⟨rfl,rfl,zAU rfl zAv rfl rfl⟩⟩,⟨.inr ⟨⟨rfl,zB8 zBz zBU zDe rfl rfl (zAX rfl zAG) rfl⟩,rfl,rfl,.inr ⟨rfl,rfl,zB8 zBz zBU zDe rfl rfl (zAX rfl zAG) rfl⟩⟩,trivial⟩⟩⟩⟩⟩⟩⟩⟩⟩⟩ zIE hw1 ⟨rfl,rfl,rfl,trivial⟩ rfl rfl (by decide) rfl rfl rfl rfl rfl rfl ?_)|apply en_n|apply zAH|apply zAB|apply zAF|apply w0|(apply zBD;exact rfl;exact rfl;first|assumption|omega)|(apply zA9;exact rfl;exact rfl;first|assumption|omega)|exact zAo rfl|(refine zC5 (by kernel_rfl) ?_;refine zA3 [0,1,2] zIE (hwi) ?_ rfl rfl (by decide) rfl rfl rfl rfl rfl rfl ?_;(repeat (refine zAL rfl ?_));exact zAS)|(apply aJ (hd:=rfl);(first|exact zAk rfl|exact Co_bb rfl rfl rfl|exact Co_nn rfl);exact rfl;(with_reducible exact zAW);assumption;omega;exact fun _=>rfl)|(apply zA4 (hd:=rfl) (hro:=rfl);(with_reducible exact zAp))|apply ay (hd:=rfl)|exact zAE rfl|exact zAC rfl|(apply zAf;exact rfl;(with_reducible exact zAY);exact rfl)|exact zBC rfl rfl|exact zAZ rfl|(apply zAR;exact rfl;(with_reducible first|exact fd_0|exact fn_0))|(apply zAU;exact rfl;(with_reducible first|exact zAn|exact zAe);exact rfl;exact rfl)|(refine w0' ?_)|(apply zAx;exact rfl;exact rfl;exact rfl;(with_reducible exact zAY);exact rfl;exact rfl;exact rfl;exact rfl)|exact zAK rfl|exact zAQ rfl|apply zAI|apply zAM|apply en_r|apply eb_r
    all_goals try omega
    exact zAq (zAO (zAA rfl zAa) (zAD rfl rfl (zAD rfl rfl (zAu rfl rfl rfl zAN))) rfl rfl)
end Go.Proofs.YtblomnkamngnbaaGreatDoor
namespace Go.Proofs.YtblomnkamngnbaaGreatDoor
open Go.Sx
attribute [local irreducible] zAT Program.underlying Ylds zBA alex zBc zBO awp zAj zBX RCall zA2 zBH zBQ zA8 zBT zBZ zBd zBr zBN VCall
theorem zQQ (f : FuncId) (c : D) (p : Sg → Bool) (hbf : zAT Tryz.prog f = true) (hp : ∀ u,zBH Tryz.prog f [.d (Sg.av u),.ptr 0 0] [.box [.d c]] (bl (p u))) (E : List Sg) (hE : E.length ≤ 2000000) :
    zBH Tryz.prog 53 [.d (sigs E),.clo f [0]] [.box [.d c]] (i64 (idxP p E)):=by
  refine zBu Tryz.func53 rfl Tryz.ntmps53 Tryz.results53 rfl ?_
  intro wb St0
  repeat' first | apply en_n|apply zAH|apply zAB|apply zAF|apply w0|apply ay (hd:=rfl)|exact zAE rfl|exact zAC rfl|(apply zAl;exact rfl;(with_reducible exact zD4))|apply zAI
  refine zAr (α:=Nat) (fun i=>i ≤ E.length ∧ ∀ (j : Nat) u,j < i → E[j]? = some u → p u = false) (fun i=>[(0,.d (sigs E)),(1,.clo f [0]),(7,.d (i64 (E.length : Int))),(8,.d (i64 (i : Int)))]) (fun _=>[.box [.d c]]) (fun i=>E.length - i) 0 ⟨Nat.zero_le _,fun j u h=>by omega⟩
    (zAO (zAA rfl (zAA rfl (Le_d rfl rfl (zAA rfl zAa)))) (zAD rfl rfl zAN) rfl rfl) ?_
  rintro i ⟨hi1,hi2⟩
  repeat' first | apply en_n|apply zAH|apply zAB|apply zAF|apply w0|exact zBF rfl|(refine zBB [0] [0] rfl rfl hbf (hp v) rfl ?_ rfl (by decide) rfl rfl rfl rfl;(repeat (refine zAL rfl ?_));exact zAS)|(apply aI (hd:=rfl);(first|exact zAk rfl|exact Co_bb rfl rfl rfl|exact Co_nn rfl);exact rfl;(with_reducible exact zCI);exact fun _=>rfl;rotate_left;intro v hv;rotate_right)|apply ay (hd:=rfl)|exact zAE rfl|exact zAC rfl|(apply zAf;exact rfl;(with_reducible exact zFi);exact rfl)|exact zCQ rfl rfl|exact zBC rfl rfl|(apply zAz;exact rfl;(intro hb);rotate_left;(intro hb);rotate_right)|(apply zCZ;exact rfl;(intro hb);rotate_left;(intro hb);rotate_right)|apply zAI|apply zAP|apply zAM|apply zAt|apply en_r|apply en_e|apply eb_n|apply eb_r|apply eb_e|apply zAJ|exact res1 rfl
  · omega
  · exact zCl (zFb hi2 hv (by simpa using hb)).symm
  · omega
  · refine ⟨i + 1,⟨by omega,fun j u hj hu=>?_⟩,by omega,zAO (zAA rfl (zAA rfl (zAA rfl (zAA rfl zAa)))) (zAD rfl rfl zAN) rfl rfl⟩
    rcases Nat.lt_or_ge j i with h1 | h1
    · exact hi2 j u h1 hu
    · have hv' : E[i]? = some v:=hv
      rw [show j = i by omega,hv'] at hu;injection hu with hu;subst hu;simpa using hb
  · exact zCl (zDa fun j u hu=>hi2 j u (by have:=(List.getElem?_eq_some_iff.1 hu).1;omega) hu).symm
theorem zUX (f : FuncId) (c c2 : D) (p : Sg → Bool) (hbf : zAT Tryz.prog f = true) (hp : ∀ u,zBH Tryz.prog f [.d (Sg.av u),.ptr 0 0] [.box [.d c,.d c2]] (bl (p u))) (E : List Sg) (hE : E.length ≤ 2000000) :
    zBH Tryz.prog 53 [.d (sigs E),.clo f [0]] [.box [.d c,.d c2]] (i64 (idxP p E)):=by
  refine zBu Tryz.func53 rfl Tryz.ntmps53 Tryz.results53 rfl ?_
  intro wb St0
  repeat' first | apply en_n|apply zAH|apply zAB|apply zAF|apply w0|apply ay (hd:=rfl)|exact zAE rfl|exact zAC rfl|(apply zAl;exact rfl;(with_reducible exact zD4))|apply zAI
  refine zAr (α:=Nat) (fun i=>i ≤ E.length ∧ ∀ (j : Nat) u,j < i → E[j]? = some u → p u = false) (fun i=>[(0,.d (sigs E)),(1,.clo f [0]),(7,.d (i64 (E.length : Int))),(8,.d (i64 (i : Int)))]) (fun _=>[.box [.d c,.d c2]]) (fun i=>E.length - i) 0 ⟨Nat.zero_le _,fun j u h=>by omega⟩
    (zAO (zAA rfl (zAA rfl (Le_d rfl rfl (zAA rfl zAa)))) (zAD rfl rfl zAN) rfl rfl) ?_
  rintro i ⟨hi1,hi2⟩
  repeat' first | apply en_n|apply zAH|apply zAB|apply zAF|apply w0|exact zBF rfl|(refine zBB [0] [0] rfl rfl hbf (hp v) rfl ?_ rfl (by decide) rfl rfl rfl rfl;(repeat (refine zAL rfl ?_));exact zAS)|(apply aI (hd:=rfl);(first|exact zAk rfl|exact Co_bb rfl rfl rfl|exact Co_nn rfl);exact rfl;(with_reducible exact zCI);exact fun _=>rfl;rotate_left;intro v hv;rotate_right)|apply ay (hd:=rfl)|exact zAE rfl|exact zAC rfl|(apply zAf;exact rfl;(with_reducible exact zFi);exact rfl)|exact zCQ rfl rfl|exact zBC rfl rfl|(apply zAz;exact rfl;(intro hb);rotate_left;(intro hb);rotate_right)|(apply zCZ;exact rfl;(intro hb);rotate_left;(intro hb);rotate_right)|apply zAI|apply zAP|apply zAM|apply zAt|apply en_r|apply en_e|apply eb_n|apply eb_r|apply eb_e|apply zAJ|exact res1 rfl
  · omega
  · exact zCl (zFb hi2 hv (by simpa using hb)).symm
  · omega
  · refine ⟨i + 1,⟨by omega,fun j u hj hu=>?_⟩,by omega,zAO (zAA rfl (zAA rfl (zAA rfl (zAA rfl zAa)))) (zAD rfl rfl zAN) rfl rfl⟩
    rcases Nat.lt_or_ge j i with h1 | h1
    · exact hi2 j u h1 hu
    · have hv' : E[i]? = some v:=hv
      rw [show j = i by omega,hv'] at hu;injection hu with hu;subst hu;simpa using hb
  · exact zCl (zDa fun j u hu=>hi2 j u (by have:=(List.getElem?_eq_some_iff.1 hu).1;omega) hu).symm
theorem zNt (s u : Sg) : zBH Tryz.prog 28 [.d u.av,.ptr 0 0] [.box (s.cells.map .d)] (bl (decide (u.name = s.name))):=by
  refine zBu Tryz.func28 rfl Tryz.ntmps28 Tryz.results28 rfl ?_
  intro wb St0
  repeat' first | apply en_n|apply zAH|apply zAB|apply zAF|apply w0|exact zGi rfl rfl|(apply aBox (hd:=rfl) (hro:=rfl);exact rfl;exact rfl)|apply ay (hd:=rfl)|exact zAC rfl|(apply zAR;exact rfl;(with_reducible exact fg_0))|(apply zAU;exact rfl;(with_reducible exact zAv);exact rfl;exact rfl)|apply zAM|apply zAJ|exact res1 rfl
  rfl
theorem zHh {α : Type} {p : α → Bool} {L : List α} : (idxP p L ≥ 0) ↔ L.any p = true:=by
  constructor
  · intro h
    unfold idxP at h;split at h
    · rename_i i hi
      obtain ⟨h1,h2,_⟩:=List.findIdx?_eq_some_iff_getElem.1 hi
      exact List.any_eq_true.2 ⟨_,List.getElem_mem h1,h2⟩
    · omega
  · intro h
    obtain ⟨x,hx,hpx⟩:=List.any_eq_true.1 h
    unfold idxP;split
    · omega
    · rename_i hn;rw [List.findIdx?_eq_none_iff] at hn;rw [hn x hx] at hpx;cases hpx
theorem zUc (f : FuncId) (c c2 : D) (p : Sg → Bool) (hbf : zAT Tryz.prog f = true) (hp : ∀ u,zBH Tryz.prog f [.d (Sg.av u),.ptr 0 0] [.box [.d c,.d c2]] (bl (p u))) (E : List Sg) (hE : E.length ≤ 2000000) :
    zBH Tryz.prog 32 [.d (sigs E),.clo f [0]] [.box [.d c,.d c2]] (bl (E.any p)):=by
  refine zBu Tryz.func32 rfl Tryz.ntmps32 Tryz.results32 rfl ?_
  intro wb St0
  repeat' first | apply en_n|apply zAH|apply zAB|apply zAF|apply w0|exact zBF rfl|(refine zBB [0] [] rfl rfl zPO (zUX f c c2 p hbf hp E hE) rfl ?_ rfl (by decide) rfl rfl rfl rfl;(repeat (refine zAL rfl ?_));exact zAS)|apply ay (hd:=rfl)|exact zAE rfl|exact zAC rfl|exact zEO rfl rfl|apply zAM|apply zAJ|exact res1 rfl
  refine zC4 ?_
  by_cases h : E.any p = true
  · rw [h];simpa using zHh.2 h
  · rw [Bool.eq_false_iff.2 h];simpa using fun c=>h (zHh.1 c)
set_option maxHeartbeats 4000000 in
theorem zHU (L : List Nd) (hL : L.length ≤ 2000000) : ∀ (m n : Nat) (t : Tr),t.sz ≤ m → At L n t → t.werr false = 0 →
    zAj Tryz.prog 35 [zAc L,i64 (n : Int)] (bl t.val)
  | 0,n,t,hm,_,_=>by have:=zBR t;omega
  | m + 1,n,.mk x ks,hm,h,hw=>by
    have ih:=zHU L hL m
    have hx:=h.here
    have hlen:=h.len
    refine zAd Tryz.func35 rfl Tryz.ntmps35 Tryz.results35 rfl ?_
    intro wb St0
    have hpos : n < L.length:=(List.getElem?_eq_some_iff.1 hx).1
    by_cases hk : x.kind = 6
    · have h1:=zC0 hw
      have h5:=(zCL h1.1).2.2
      rw [hk] at h5
      have h6 : x.kids = 2:=by simpa [cntK] using h5
      have hkn:=h.kidn
      match ks,hkn,h,h1,hm with
      | [a,b],hkn,h,h1,hm =>
        have ha:=h.kid (i:=0) (k:=a) rfl
        have hb':=h.kid (i:=1) (k:=b) rfl
        rw [Tr.sz,szL,szL,szL] at hm
        have wa:=zBY (j:=0) h1.2 (k:=a) rfl
        have wb2:=zBY (j:=1) h1.2 (k:=b) rfl
        have hk0:=h.kids_get (i:=0) (by simp)
        have hk1:=h.kids_get (i:=1) (by simp)
        have hha:=ha.hd
        have va:=ih _ a (by omega) ha (by simpa [hk] using wa)
        have vb:=ih _ b (by omega) hb' (by simpa [hk] using wb2)
        have hkid:=zCa L (n : Int) hL
        have hsa : kidAt n [a,b] 0 < L.length:=(List.getElem?_eq_some_iff.1 hha).1
        clear h1 wa wb2 ih hw h5 hkn h6 ha hb' h
        generalize kidAt n [a,b] 0 = p0 at *
        generalize kidAt n [a,b] 1 = p1 at *
        generalize zBV L (n : Int) = KK at *
        have hv : Tr.val (.mk x [a,b]) = ((decide (a.hd.kind = 4) || decide (a.hd.kind = 6)) && (a.val && b.val)):=by
          rw [Tr.val.eq_1,if_neg (by omega),if_pos hk];rfl
        rw [hv]
        clear hv
        generalize a.val = av at *
        generalize b.val = bv at *
        generalize a.hd = y at *
        repeat' first | apply en_n|apply zAH|apply zAB|apply zAF|apply w0|(apply k1u (hd:=rfl);exact rfl;exact rfl)|(apply k0u (hd:=rfl);exact rfl;exact rfl)|(apply zBD;exact rfl;exact rfl;first|assumption|omega)|(apply zA9;exact rfl;exact rfl;first|assumption|omega)|(refine zAV zCV hkid (zAX rfl (zAX rfl zAG)))|(refine zAV zFH va (zAX rfl (zAX rfl zAG)))|(refine zAV zFH vb (zAX rfl (zAX rfl zAG)))|(apply aJ (hd:=rfl);(first|exact zAk rfl|exact Co_bb rfl rfl rfl|exact Co_nn rfl);exact rfl;(with_reducible first|exact zAW|exact zA7);assumption;omega;exact fun _=>rfl)|apply ay (hd:=rfl)|exact zAE rfl|exact zAC rfl|(apply zAy;exact rfl;(with_reducible exact fn_0))|(apply zAg;exact rfl;(with_reducible first|exact zAs|exact zAe))|exact zCz rfl rfl|exact zAi rfl rfl|exact zAh rfl rfl|exact w1 rfl rfl|(apply gD;exact rfl;exact rfl;(intro hb);rotate_left;(intro hb);rotate_right)|(apply g1;exact rfl;exact rfl;(intro hb);rotate_left;(intro hb);rotate_right)|exact zAK rfl|exact zAQ rfl|apply zAI|apply zAM|apply en_r|apply eb_r|apply zAJ|exact res1 rfl
        all_goals simp [*]
      | [],hkn,_,_,_=>simp at hkn;omega
      | [_],hkn,_,_,_=>simp at hkn;omega
      | _ :: _ :: _ :: _,hkn,_,_,_=>simp at hkn;omega
    · clear ih hw h
      have hv : Tr.val (.mk x ks) = decide (1 ≤ x.kind ∧ x.kind ≤ 5):=by
        cases ks <;> simp [Tr.val,hk]
      rw [hv]
      clear hv
      have hc : x.kind = 1 ∨ x.kind = 2 ∨ x.kind = 3 ∨ x.kind = 4 ∨ x.kind = 5 ∨ (x.kind ≠ 1 ∧ x.kind ≠ 2 ∧ x.kind ≠ 3 ∧ x.kind ≠ 4 ∧ x.kind ≠ 5):=by omega
      rcases hc with hc | hc | hc | hc | hc | ⟨h1,h2,h3,h4,h5⟩
      all_goals skip
      repeat' first | apply en_n|apply zAH|apply zAB|apply zAF|apply w0|(apply zBD;exact rfl;exact rfl;first|assumption|omega)|(apply zA9;exact rfl;exact rfl;first|assumption|omega)|(apply aJ (hd:=rfl);(first|exact zAk rfl|exact Co_bb rfl rfl rfl|exact Co_nn rfl);exact rfl;(with_reducible exact zAW);assumption;omega;exact fun _=>rfl)|apply ay (hd:=rfl)|exact zAE rfl|exact zAC rfl|(apply zAy;exact rfl;(with_reducible exact fn_0))|(apply zAg;exact rfl;(with_reducible exact zAe))|exact zAK rfl|exact zAQ rfl|apply zAI|apply zAP|apply zAM|apply en_r|apply eb_n|apply eb_r|apply zAJ|exact res1 rfl
      all_goals (refine zC4 ?_;simp;omega)
end Go.Proofs.YtblomnkamngnbaaGreatDoor
namespace Go.Proofs.YtblomnkamngnbaaGreatDoor
open Go.Sx
attribute [local irreducible] zAT Program.underlying Ylds zBA alex zBc zBO awp zAj zBX RCall zA2 zBH zBQ zA8 zBT zBZ zBd zBr zBN VCall
theorem zDV {ks : List Tr} {i : Nat} {k : Tr} (h : ks[i]? = some k) : szL (ks.drop i) = k.sz + szL (ks.drop (i + 1)):=by
  obtain ⟨hi,rfl⟩:=List.getElem?_eq_some_iff.1 h
  rw [List.drop_eq_getElem_cons hi,szL]
theorem zNz {k : Int} {tx : List UInt8} {S : Bag} {pv : List (List UInt8)} {ks : List Tr} {i : Nat} {t : Tr} {F : List (List UInt8)} (h : ks[i]? = some t) (hk : k = 6 ∨ k = 9 ∨ k = 11) : zCX k tx S pv (ks.drop i) i F = zCX k tx S pv (ks.drop (i + 1)) (i + 1) (t.free S F):=by
  obtain ⟨hi,rfl⟩:=List.getElem?_eq_some_iff.1 h
  rw [List.drop_eq_getElem_cons hi,zCX,if_neg (by omega),bagK,if_neg (by omega),if_neg (by omega)]
set_option maxHeartbeats 4000000 in
theorem zPd {L : List Nd} (hL : L.length ≤ 2000000) {m : Nat} (ih : zHJ L m) (n : Nat) (x : Nd) (ks : List Tr) (S : Bag) (F : List (List UInt8)) (b : Nat) (hk : x.kind = 6 ∨ x.kind = 9 ∨ x.kind = 11) (hm : Tr.sz (.mk x ks) ≤ m + 1) (h : At L n (.mk x ks)) (hw : Tr.werr (.mk x ks) false = 0) (hS : GoodB S) (hb : ∀ a,lkB S a ≤ b) (hb2 : b + Tr.sz (.mk x ks) ≤ 1000000) (hF : F.length + Tr.sz (.mk x ks) ≤ 1000000) :
    zA2 Tryz.prog 106 [.ptr 0 0,.d (i64 (n : Int))] (fO L S F) (.d (i64 ((n + Tr.sz (.mk x ks) : Nat) : Int))) (fO L S (Tr.free (.mk x ks) S F)):=by
  obtain ⟨h1,h2⟩:=zC0 hw
  obtain ⟨h3,h4,h5⟩:=zCL h1
  have hx:=h.here
  have hkn:=h.kidn
  have hlen:=h.len
  have hsz : Tr.sz (.mk x ks) = szL ks + 1:=by rw [Tr.sz]
  have hsl:=zDx ks
  have hke:=zIA n ks
  have he : Tr.free (.mk x ks) S F = zCX x.kind x.text S [] ks 0 F:=by rw [Tr.free,if_neg (by omega)]
  rw [he]
  have hkid : ∀ (i : Nat) (t : Tr) (F1 : List (List UInt8)),ks[i]? = some t → F1.length + szL (ks.drop i) ≤ 999999 → zA2 Tryz.prog 106 [.ptr 0 0,.d (i64 ((kidAt n ks i : Nat) : Int))] (fO L S F1) (.d (i64 ((kidAt n ks (i + 1) : Nat) : Int))) (fO L S (t.free S F1)):=fun i t F1 hi hf=>by
    rw [zCu hi]
    have h6:=zCi (List.mem_of_getElem? hi)
    rw [zDV hi] at hf
    refine ih _ t S F1 b (by omega) (h.kid hi) ?_ hS hb (by omega) (by omega)
    have h7:=zBY (j:=i) h2 hi
    rcases hk with hk | hk | hk <;> simpa [hk] using h7
  have hF0 : F.length + szL ks ≤ 999999:=by omega
  have hN : n + 1 + szL ks = n + Tr.sz (.mk x ks):=by omega
  rw [← hN,← hke]
  clear h1 h2 h3 h4 h5 hw h hS ih hsz hm hb2 hF he hN hke
  rcases hk with hk | hk | hk
  all_goals
    have hk' : x.kind = 6 ∨ x.kind = 9 ∨ x.kind = 11:=by omega
    refine zA1 Tryz.func106 rfl Tryz.ntmps106 Tryz.results106 rfl rfl rfl ?_
    intro wb St0 X fx
    repeat' first | apply en_n|apply zAH|apply zAB|apply zAF|apply w0|(apply zBD;exact rfl;exact rfl;first|assumption|omega)|(apply zA9;exact rfl;exact rfl;first|assumption|omega)|(apply k0u (hd:=rfl);exact rfl;exact rfl)|exact zAo rfl|(apply aJ (hd:=rfl);(first|exact zAk rfl|exact Co_bb rfl rfl rfl|exact Co_nn rfl);exact rfl;(with_reducible exact zAW);assumption;omega;exact fun _=>rfl)|(apply zA4 (hd:=rfl) (hro:=rfl);(with_reducible exact zAp))|apply ay (hd:=rfl)|exact zAE rfl|exact zAC rfl|(apply zAf;exact rfl;(with_reducible exact zAY);exact rfl)|exact zBC rfl rfl|exact zAi rfl rfl|exact zAh rfl rfl|exact zAZ rfl|(apply zAR;exact rfl;(with_reducible first|exact fd_0|exact fn_0|exact fn_3))|(apply zAU;exact rfl;(with_reducible first|exact zAs|exact zAn|exact zAe);exact rfl;exact rfl)|exact w1 rfl rfl|(refine w0' ?_)|(apply zAx;exact rfl;exact rfl;exact rfl;(with_reducible exact zAY);exact rfl;exact rfl;exact rfl;exact rfl)|exact zAK rfl|exact zAQ rfl|apply zAI|apply zAP|apply eb_n
    all_goals try omega
    refine zAr (α:=Nat × List (List UInt8)) (fun p=>p.1 ≤ ks.length ∧ p.2.length + szL (ks.drop p.1) ≤ 999999 ∧ zCX x.kind x.text S [] (ks.drop p.1) p.1 p.2 = zCX x.kind x.text S [] ks 0 F) (fun p=>[(0,.ptr 0 0),(1,.d (i64 ((kidAt n ks p.1 : Nat) : Int))),(124,.d (i64 x.kids)),(125,.d (i64 (p.1 : Int)))])
      (fun p=>[.bx (fx 0) (some 120) [.d (zAc L),.mp 1,.buf 2 (p.2.map str).length],bagO (fx 1) S,.buf false 9 1 (p.2.map str)]) (fun p=>ks.length - p.1) (0,F) ⟨Nat.zero_le _,by rw [List.drop_zero];exact hF0,by rw [List.drop_zero]⟩
      (zAO (zAA rfl (Le_d rfl (by rw [zCD];rfl) (zAA rfl (zAA rfl zAa)))) (zAD rfl rfl (zAD rfl rfl (zAu rfl rfl rfl zAN))) rfl rfl) ?_
    rintro ⟨i,F1⟩ ⟨q1,q2,q3⟩
    dsimp only at q1 q2 q3 ⊢
    rcases Nat.lt_or_ge i ks.length with hlt | hge
    · obtain ⟨t,ht⟩ : ∃ t,ks[i]? = some t:=⟨_,List.getElem?_eq_getElem hlt⟩
      have hc:=hkid i t F1 ht q2
      rw [zNz ht hk'] at q3
      have hfl:=zEt t S F1
      rw [zDV ht] at q2
      have hli : (i : Int) < x.kids:=by omega
      generalize t.free S F1 = F2 at *
      repeat' first | apply en_n|apply zAH|apply zAB|apply zAF|apply w0|(apply zA5;exact rfl;exact rfl;first|assumption|omega)|(refine zA3 [0,1,2] zIK (hc) ?_ rfl rfl (by decide) rfl rfl rfl rfl rfl rfl ?_;(repeat (refine zAL rfl ?_));exact zAS)|apply ay (hd:=rfl)|exact zAE rfl|exact zAC rfl|exact zBC rfl rfl|exact zAZ rfl|exact zAK rfl|apply zAI|apply zAP|apply eb_n
      all_goals try omega
      exact ⟨(i + 1,F2),⟨by simp only;omega,by simp only;omega,q3⟩,by simp only;omega,zAO (zAA rfl (zAA rfl (zAA rfl (zAA rfl zAa)))) (zAD rfl rfl (zAD rfl rfl (zAu rfl rfl rfl zAN))) rfl rfl⟩
    · have hli : ¬ (i : Int) < x.kids:=by omega
      have e : i = ks.length:=by omega
      subst e
      rw [List.drop_length,zCX] at q3
      rw [← q3]
      repeat' first | apply en_n|apply zAH|apply zAB|apply zAF|apply w0|(apply zBn;exact rfl;exact rfl;first|assumption|omega)|apply ay (hd:=rfl)|exact zAE rfl|exact zAC rfl|exact zAQ rfl|apply zAM|apply zAt|apply en_e|apply eb_e
      all_goals exact zAq (zAO (zAA rfl zAa) (zAD rfl rfl (zAD rfl rfl (zAu rfl rfl rfl zAN))) rfl rfl)
end Go.Proofs.YtblomnkamngnbaaGreatDoor
namespace Go.Proofs.YtblomnkamngnbaaGreatDoor
open Go.Sx
attribute [local irreducible] zAT Program.underlying Ylds zBA alex zBc zBO awp zAj zBX RCall zA2 zBH zBQ zA8 zBT zBZ zBd zBr zBN VCall
theorem zUP {P : Program} {η : List Ob} {σ : Sl} {dst : Option Nat} {ty : TypeId} {pos : String} {after : Array Edge} {gd : Option (Nat × Bool)} {t yt : TypeId} {p q : Operand} {k : Int} {c : Nat} (hk : k = 2 * (c : Int) + 1) (hc : c ≤ 1000000) (hp : oval σ p = .d (i64 k)) (hq : oval σ q = .d (i64 2)) :
    Ylds P η σ ⟨dst,.binOp .quo t p q yt,ty,pos,after,gd⟩ (.d (i64 (c : Int))):=by
  have h:=zU1 (P:=P) (η:=η) (dst:=dst) (ty:=ty) (pos:=pos) (after:=after) (gd:=gd) (t:=t) (yt:=yt) hp hq (by decide)
  have e : IntKind.i64.wrap (k.tdiv 2) = (c : Int):=by
    rw [zF5,Int.tdiv_eq_ediv_of_nonneg (by omega)];omega
  rw [e] at h;exact h
theorem zPV {k : Int} {tx : List UInt8} {S : Bag} (pv pv' : List (List UInt8)) {i : Nat} (hk : k = 10) (hi : i % 2 = 1) (F : List (List UInt8)) : ∀ ks : List Tr,zCX k tx S pv ks i F = zCX k tx S pv' ks i F
  | []=>by rw [zCX,zCX]
  | t :: r=>by rw [zCX,zCX,if_pos ⟨hk,hi⟩,if_pos ⟨hk,hi⟩]
theorem zPU {k : Int} {tx : List UInt8} {S : Bag} {ks : List Tr} {i : Nat} {p u : Tr} {F : List (List UInt8)} (hk : k = 10) (hi : i % 2 = 1) (hp : ks[i]? = some p) (hu : ks[i + 1]? = some u) :
    zCX k tx S [] (ks.drop i) i F = zCX k tx S [] (ks.drop (i + 2)) (i + 2) (u.free (upsB S (zBJ p.fl)) F):=by
  obtain ⟨h1,rfl⟩:=List.getElem?_eq_some_iff.1 hp
  obtain ⟨h2,rfl⟩:=List.getElem?_eq_some_iff.1 hu
  rw [List.drop_eq_getElem_cons h1,List.drop_eq_getElem_cons h2,zCX,if_pos ⟨hk,hi⟩,zCX,if_neg (by omega),bagK,if_neg (by omega),if_pos ⟨hk,by omega⟩]
  exact zPV _ _ hk (by omega) _ _
theorem At.cut {L : List Nd} {n : Nat} {t : Tr} (h : At L n t) : cutO L (n : Int) ((n + t.sz : Nat) : Int) = some t.fl:=by
  obtain ⟨R,hd⟩:=h.pre
  have hl:=h.len
  rw [cutO,if_pos (by omega),Int.toNat_natCast,Int.toNat_natCast,List.drop_take,hd,Nat.add_sub_cancel_left,← Tr.fl_len,List.take_left]
set_option maxHeartbeats 4000000 in
theorem zN3 {L : List Nd} (hL : L.length ≤ 2000000) {m : Nat} (ih : zHJ L m) (n : Nat) (x : Nd) (ks : List Tr) (S : Bag) (F : List (List UInt8)) (b : Nat) (hk : x.kind = 10) (hm : Tr.sz (.mk x ks) ≤ m + 1) (h : At L n (.mk x ks)) (hw : Tr.werr (.mk x ks) false = 0) (hS : GoodB S) (hb : ∀ a,lkB S a ≤ b) (hb2 : b + Tr.sz (.mk x ks) ≤ 1000000) (hF : F.length + Tr.sz (.mk x ks) ≤ 1000000) :
    zA2 Tryz.prog 106 [.ptr 0 0,.d (i64 (n : Int))] (fO L S F) (.d (i64 ((n + Tr.sz (.mk x ks) : Nat) : Int))) (fO L S (Tr.free (.mk x ks) S F)):=by
  obtain ⟨h1,h2⟩:=zC0 hw
  obtain ⟨h3,h4,h5⟩:=zCL h1
  have hx:=h.here
  have hkn:=h.kidn
  have hlen:=h.len
  have hsz : Tr.sz (.mk x ks) = szL ks + 1:=by rw [Tr.sz]
  have hsl:=zDx ks
  have hke:=zIA n ks
  have hcnt : ∃ c : Nat,ks.length = 2 * c + 1 ∧ 1 ≤ c:=by
    rw [hk] at h5
    have : 3 ≤ x.kids ∧ x.kids % 2 = 1:=by simpa [cntK] using h5
    exact ⟨ks.length / 2,by omega,by omega⟩
  obtain ⟨c,hcl,hc1⟩:=hcnt
  obtain ⟨t0,ht0⟩ : ∃ t,ks[0]? = some t:=⟨_,List.getElem?_eq_getElem (by omega)⟩
  have he : Tr.free (.mk x ks) S F = zCX x.kind x.text S [] (ks.drop 1) 1 (t0.free S F):=by
    obtain ⟨hi,rfl⟩:=List.getElem?_eq_some_iff.1 ht0
    rw [Tr.free,if_neg (by omega)]
    conv=>lhs;rw [show ks = ks.drop 0 by rw [List.drop_zero],List.drop_eq_getElem_cons hi]
    rw [zCX,if_neg (by omega),bagK,if_neg (by omega),if_neg (by omega)]
  rw [he]
  have hs0:=zCi (List.mem_of_getElem? ht0)
  have hd0:=zDV ht0
  rw [List.drop_zero,Nat.zero_add] at hd0
  have hfl0:=zEt t0 S F
  have hf:=ih (n + 1) t0 S F b (by omega) (by simpa [zCD] using h.kid ht0) (by simpa [hk] using zBY (j:=0) h2 ht0) hS hb (by omega) (by omega)
  have hk1 : n + 1 + t0.sz = kidAt n ks 1:=by rw [zCu ht0,zCD]
  rw [hk1] at hf
  have hpair : ∀ (i : Nat) (p u : Tr) (F1 : List (List UInt8)),i % 2 = 1 → ks[i]? = some p → ks[i + 1]? = some u → F1.length + szL (ks.drop i) ≤ 999999 →
      zA2 Tryz.prog 129 [.ptr 0 0,.d (i64 ((kidAt n ks (i + 1) : Nat) : Int)),.d (strs (zBJ p.fl))] (fO L S F1) (.d (i64 ((kidAt n ks (i + 2) : Nat) : Int))) (fO L S (u.free (upsB S (zBJ p.fl)) F1)):=fun i p u F1 ho hp hu hf=>by
    have e2 : kidAt n ks (i + 2) = kidAt n ks (i + 1) + u.sz:=zCu hu
    rw [e2]
    have h6:=zCi (List.mem_of_getElem? hu)
    have h8:=zEW p.fl
    rw [Tr.fl_len] at h8
    have h9:=zDV hp
    have h10:=zDV hu
    have h11 : szL (ks.drop i) ≤ szL ks:=by
      have:=zGn (ks.take i) (ks.drop i)
      rw [List.take_append_drop] at this;omega
    refine zHn L _ _ S F1 _ (zBJ p.fl) hS (by omega) (fun a=>by have:=hb a;omega) ?_
    refine ih _ u (upsB S (zBJ p.fl)) F1 (b + (zBJ p.fl).length) (by omega) (h.kid hu) ?_ (hS.ups _) (fun a=>by rw [zFu];have h6 : (zBJ p.fl).count a ≤ (zBJ p.fl).length:=List.count_le_length;have:=hb a;omega) (by omega) (by omega)
    have h7:=zBY (j:=i + 1) h2 hu
    simpa [hk,show ¬ (i + 1) % 2 = 1 by omega] using h7
  have hcut : ∀ (i : Nat) (p : Tr),ks[i]? = some p → cutO L (kidAt n ks i : Int) (kidAt n ks (i + 1) : Int) = some p.fl ∧ endF L (kidAt n ks i : Int) = (kidAt n ks (i + 1) : Int):=fun i p hp=>by
    rw [zCu hp]
    exact ⟨(h.kid hp).cut,(h.kid hp).endF⟩
  have hF0 : (t0.free S F).length + szL (ks.drop 1) ≤ 999999:=by omega
  have hN : n + 1 + szL ks = n + Tr.sz (.mk x ks):=by omega
  rw [← hN,← hke]
  generalize t0.free S F = F0 at *
  have hkids : x.kids = 2 * (c : Int) + 1:=by omega
  have hcb : c ≤ 1000000:=by omega
  have hend : ∀ q : Int,zAj Tryz.prog 92 [zAc L,i64 q] (i64 (endF L q)):=fun q=>zFq L q hL
  have hnm : ∀ p : Tr,p ∈ ks → zAj Tryz.prog 100 [zAc p.fl] (strs (zBJ p.fl)):=fun p hp=>zKP p.fl (by have:=zCi hp;rw [Tr.fl_len];omega)
  have hfall : ∀ i,i ≤ 2 * c + 1 → zCX x.kind x.text S [] (ks.drop i) i F0 = zCX x.kind x.text S [] (ks.drop i) i F0:=fun _ _=>rfl
  rw [show ((n + 1 : Nat) : Int) = (n : Int) + 1 from rfl] at hf
  clear h1 h2 h3 h4 h5 hw h hS ih hsz hm hb2 hF he hN hke hd0 hfl0 hs0 hk1 hfall hkn hsl
  refine zA1 Tryz.func106 rfl Tryz.ntmps106 Tryz.results106 rfl rfl rfl ?_
  intro wb St0 X fx
  repeat' first | apply en_n|apply zAH|apply zAB|apply zAF|apply w0|(apply zBD;exact rfl;exact rfl;first|assumption|omega)|(apply zA9;exact rfl;exact rfl;first|assumption|omega)|exact zAo rfl|(refine zA3 [0,1,2] zIK (hf) ?_ rfl rfl (by decide) rfl rfl rfl rfl rfl rfl ?_;(repeat (refine zAL rfl ?_));exact zAS)|(apply zUP;exact hkids;exact hcb;exact rfl;exact rfl)|(apply aJ (hd:=rfl);(first|exact zAk rfl|exact Co_bb rfl rfl rfl|exact Co_nn rfl);exact rfl;(with_reducible exact zAW);assumption;omega;exact fun _=>rfl)|(apply zA4 (hd:=rfl) (hro:=rfl);(with_reducible exact zAp))|apply ay (hd:=rfl)|exact zAE rfl|exact zAC rfl|(apply zAf;exact rfl;(with_reducible exact zAY);exact rfl)|exact zBC rfl rfl|exact zAZ rfl|(apply zAR;exact rfl;(with_reducible first|exact fd_0|exact fn_0|exact fn_3))|(apply zAU;exact rfl;(with_reducible first|exact zAs|exact zAn|exact zAe);exact rfl;exact rfl)|(refine w0' ?_)|(apply zAx;exact rfl;exact rfl;exact rfl;(with_reducible exact zAY);exact rfl;exact rfl;exact rfl;exact rfl)|exact zAK rfl|exact zAQ rfl|apply zAI
  all_goals try omega
  refine zAr (α:=Nat × List (List UInt8)) (fun p=>p.1 ≤ c ∧ p.2.length + szL (ks.drop (2 * p.1 + 1)) ≤ 999999 ∧ zCX x.kind x.text S [] (ks.drop (2 * p.1 + 1)) (2 * p.1 + 1) p.2 = zCX x.kind x.text S [] (ks.drop 1) 1 F0) (fun p=>[(0,.ptr 0 0),(1,.d (i64 ((kidAt n ks (2 * p.1 + 1) : Nat) : Int))),(88,.d (i64 (c : Int))),(89,.d (i64 (p.1 : Int)))])
    (fun p=>[.bx (fx 0) (some 120) [.d (zAc L),.mp 1,.buf 2 (p.2.map str).length],bagO (fx 1) S,.buf false 9 1 (p.2.map str)]) (fun p=>c - p.1) (0,F0) ⟨Nat.zero_le _,hF0,rfl⟩
    (zAO (zAA rfl (zAA rfl (zAA rfl (zAA rfl zAa)))) (zAD rfl rfl (zAD rfl rfl (zAu rfl rfl rfl zAN))) rfl rfl) ?_
  rintro ⟨i,F1⟩ ⟨q1,q2,q3⟩
  dsimp only at q1 q2 q3 ⊢
  rcases Nat.lt_or_ge i c with hlt | hge
  · obtain ⟨p,hp⟩ : ∃ t,ks[2 * i + 1]? = some t:=⟨_,List.getElem?_eq_getElem (by omega)⟩
    obtain ⟨u,hu⟩ : ∃ t,ks[2 * i + 1 + 1]? = some t:=⟨_,List.getElem?_eq_getElem (by omega)⟩
    have hwi:=hpair (2 * i + 1) p u F1 (by omega) hp hu q2
    obtain ⟨hcu,hen⟩:=hcut _ p hp
    have hE:=hend (kidAt n ks (2 * i + 1) : Int)
    rw [hen] at hE
    have hn:=hnm p (List.mem_of_getElem? hp)
    rw [zPU hk (by omega) hp hu] at q3
    have hfl:=zEt u (upsB S (zBJ p.fl)) F1
    rw [zDV hp,zDV hu,show 2 * i + 1 + 1 + 1 = 2 * i + 1 + 2 from rfl] at q2
    have hli : (i : Int) < (c : Int):=by omega
    generalize u.free (upsB S (zBJ p.fl)) F1 = F2 at *
    generalize zBJ p.fl = N at *
    generalize p.fl = pf at *
    clear hpair hcut hend hnm
    repeat' first | (apply zQI;exact hcu;exact rfl;exact rfl;exact rfl;exact zAW)|apply en_n|apply zAH|apply zAB|apply zAF|apply w0|(apply zA5;exact rfl;exact rfl;first|assumption|omega)|exact zAo rfl|(refine zAV zFl hE (zAX rfl (zAX rfl zAG)))|(refine zAV zIG hn (zAX rfl zAG))|(refine zA3 [0,1,2] zIE (hwi) ?_ rfl rfl (by decide) rfl rfl rfl rfl rfl rfl ?_;(repeat (refine zAL rfl ?_));exact zAS)|apply ay (hd:=rfl)|exact zAE rfl|exact zAC rfl|exact zBC rfl rfl|exact zAZ rfl|(apply zAR;exact rfl;(with_reducible exact fd_0))|(apply zAU;exact rfl;(with_reducible exact zAn);exact rfl;exact rfl)|exact zAK rfl|apply zAI|apply zAP|apply eb_n
    all_goals try omega
    exact ⟨(i + 1,F2),⟨by simp only;omega,by simp only;rw [show 2 * (i + 1) + 1 = 2 * i + 1 + 2 by omega];omega,q3⟩,by simp only;omega,zAO (zAA rfl (zAA rfl (zAA rfl (zAA rfl zAa)))) (zAD rfl rfl (zAD rfl rfl (zAu rfl rfl rfl zAN))) rfl rfl⟩
  · have hli : ¬ (i : Int) < (c : Int):=by omega
    have e : 2 * i + 1 = ks.length:=by omega
    rw [e,List.drop_length,zCX] at q3
    rw [← q3,e]
    repeat' first | apply en_n|apply zAH|apply zAB|apply zAF|apply w0|(apply zBn;exact rfl;exact rfl;first|assumption|omega)|apply ay (hd:=rfl)|exact zAE rfl|exact zAC rfl|exact zAQ rfl|apply zAM|apply zAt|apply en_r|apply en_e|apply eb_r|apply eb_e
    all_goals exact zAq (zAO (zAA rfl zAa) (zAD rfl rfl (zAD rfl rfl (zAu rfl rfl rfl zAN))) rfl rfl)
end Go.Proofs.YtblomnkamngnbaaGreatDoor
namespace Go.Proofs.YtblomnkamngnbaaGreatDoor
open Go.Sx
attribute [local irreducible] zAT Program.underlying Ylds zBA alex zBc zBO awp zAj zBX RCall zA2 zBH zBQ zA8 zBT zBZ zBd zBr zBN VCall
set_option maxHeartbeats 4000000 in
theorem zPb {L : List Nd} (hL : L.length ≤ 2000000) {m : Nat} (ih : zHJ L m) (n : Nat) (x : Nd) (ks : List Tr) (S : Bag) (F : List (List UInt8)) (b : Nat) (hk : x.kind = 3) (hm : Tr.sz (.mk x ks) ≤ m + 1) (h : At L n (.mk x ks)) (hw : Tr.werr (.mk x ks) false = 0) (hS : GoodB S) (hb : ∀ a,lkB S a ≤ b) (hb2 : b + Tr.sz (.mk x ks) ≤ 1000000) (hF : F.length + Tr.sz (.mk x ks) ≤ 1000000) :
    zA2 Tryz.prog 106 [.ptr 0 0,.d (i64 (n : Int))] (fO L S F) (.d (i64 ((n + Tr.sz (.mk x ks) : Nat) : Int))) (fO L S (Tr.free (.mk x ks) S F)):=by
  obtain ⟨h1,h2⟩:=zC0 hw
  obtain ⟨h3,h4,h5⟩:=zCL h1
  have hx:=h.here
  have hkn:=h.kidn
  have hlen:=h.len
  have hsz : Tr.sz (.mk x ks) = szL ks + 1:=by rw [Tr.sz]
  have hl0 : ks.length = 0:=by
    have : x.kids = 0:=by rw [hk] at h5;simpa [cntK] using h5
    omega
  match ks,hl0 with
  | [],_ =>
    rw [hsz,szL] at hF
    rw [hsz,szL]
    have hct:=zHK F x.text (by omega)
    have hcap : ((F.map str).length + [str x.text].length) * 16 ≤ 140737488355328 ∧ (F.map str).length + [str x.text].length ≤ 140737488355328:=by
      simp only [List.length_map,List.length_cons,List.length_nil];omega
    have he : Tr.free (.mk x []) S F = if lkB S x.text = 0 ∧ x.text ∉ F then F ++ [x.text] else F:=by rw [Tr.free,if_pos hk]
    rw [he]
    clear h1 h2 h3 h4 h5 hw h hS ih hsz hm hb2 hF he
    by_cases c1 : lkB S x.text = 0
    · have c1' : ((lkB S x.text : Nat) : Int) = 0:=by rw [c1];rfl
      by_cases c2 : x.text ∈ F
      · rw [if_neg (fun c=>c.2 c2)]
        rw [show F.contains x.text = true by simpa using c2] at hct
        refine zA1 Tryz.func106 rfl Tryz.ntmps106 Tryz.results106 rfl rfl rfl ?_
        intro wb St0 X fx
        repeat' first | apply en_n|apply zAH|apply zAB|apply zAF|apply w0|(apply zBD;exact rfl;exact rfl;first|assumption|omega)|(apply zA9;exact rfl;exact rfl;first|assumption|omega)|exact zAo rfl|(apply zG8;exact rfl;exact rfl;exact rfl;(with_reducible exact zH5);(with_reducible exact ustr);(with_reducible exact zGm))|(refine zAV zFy hct (zCx rfl rfl rfl (zAX rfl zAG)))|(apply aJ (hd:=rfl);(first|exact zAk rfl|exact Co_bb rfl rfl rfl|exact Co_nn rfl);exact rfl;(with_reducible exact zAW);assumption;omega;exact fun _=>rfl)|(apply zA4 (hd:=rfl) (hro:=rfl);(with_reducible exact zAp))|apply ay (hd:=rfl)|exact zAE rfl|exact zAC rfl|(apply zAf;exact rfl;(with_reducible exact zAY);exact rfl)|exact zBC rfl rfl|exact zBo rfl|exact zAi rfl rfl|exact zAh rfl rfl|exact zAZ rfl|(apply zAR;exact rfl;(with_reducible first|exact fd_0|exact fd_1|exact fd_2|exact fn_0|exact fn_1))|(apply zAU;exact rfl;(with_reducible first|exact zE6|exact zIq|exact zAn|exact zAe|exact zAv|exact zE6);exact rfl;exact rfl)|exact w1 rfl rfl|(refine w0' ?_)|(apply zAx;exact rfl;exact rfl;exact rfl;(with_reducible exact zAY);exact rfl;exact rfl;exact rfl;exact rfl)|exact zAK rfl|exact zAQ rfl|apply zAI|apply zAP|apply zAM|refine zA6 (by kernel_rfl) (by kernel_rfl) ?_|apply eb_n
        all_goals try omega
        exact zAq (zAO (Le_d rfl (by congr 2) zAa) (zAD rfl rfl (zAD rfl rfl (zAu rfl rfl rfl zAN))) rfl rfl)
      · rw [if_pos ⟨c1,c2⟩]
        rw [show F.contains x.text = false by simpa using c2] at hct
        refine zA1 Tryz.func106 rfl Tryz.ntmps106 Tryz.results106 rfl rfl rfl ?_
        intro wb St0 X fx
        repeat' first | (refine zPz (rid:=6) [.ptr 0 0,.ptr 0 0,.ptr 0 0,.ptr 0 2,.buf 2 (F.map str).length,.ptr 3 1,.d (str x.text),.d (strs [x.text]),.top] 8 2 (by kernel_rfl) (by kernel_rfl) rfl rfl rfl (.inr (by kernel_rfl)) ⟨.inr ⟨⟨rfl,zAZ rfl⟩,rfl,rfl,.inr ⟨rfl,rfl,zAZ rfl⟩⟩,⟨.inr ⟨⟨rfl,zAZ rfl⟩,rfl,rfl,.inl (by kernel_rfl)⟩,⟨.inr ⟨⟨rfl,zAo rfl⟩,rfl,rfl,.inl (by kernel_rfl)⟩,⟨.inr ⟨⟨rfl,zAR rfl fd_2⟩,rfl,rfl,.inl (by kernel_rfl)⟩,⟨.inr ⟨⟨rfl,zAU rfl zE6 rfl rfl⟩,rfl,rfl,.inl (by kernel_rfl)⟩,⟨.inr ⟨⟨rfl,zAR rfl fn_1⟩,rfl,rfl,.inl (by kernel_rfl)⟩,⟨.inr ⟨⟨rfl,zAU rfl zAv rfl rfl⟩,rfl,rfl,.inl (by kernel_rfl)⟩,⟨.inr ⟨⟨rfl,zB8 zBz zBU zDe rfl rfl (zAX rfl zAG) rfl⟩,rfl,rfl,.inl (by kernel_rfl)⟩,⟨.inl rfl,trivial⟩⟩⟩⟩⟩⟩⟩⟩⟩ rfl rfl rfl rfl rfl zBz zBU zHm zF1 rfl rfl (zCC fun _=>rfl) hcap ?_)|apply en_n|apply zAH|apply zAB|apply zAF|apply w0|(refine zC5 (by kernel_rfl) ?_;apply zAx;exact rfl;exact rfl;exact rfl;(with_reducible exact zE6);exact rfl;exact rfl;exact rfl;exact rfl)|(apply zBD;exact rfl;exact rfl;first|assumption|omega)|(apply zA9;exact rfl;exact rfl;first|assumption|omega)|exact zAo rfl|(apply zG8;exact rfl;exact rfl;exact rfl;(with_reducible exact zH5);(with_reducible exact ustr);(with_reducible exact zGm))|(refine zAV zFy hct (zCx rfl rfl rfl (zAX rfl zAG)))|(apply aJ (hd:=rfl);(first|exact zAk rfl|exact Co_bb rfl rfl rfl|exact Co_nn rfl);exact rfl;(with_reducible exact zAW);assumption;omega;exact fun _=>rfl)|(apply zA4 (hd:=rfl) (hro:=rfl);(with_reducible exact zAp))|apply ay (hd:=rfl)|exact zAE rfl|exact zAC rfl|(apply zAf;exact rfl;(with_reducible exact zAY);exact rfl)|exact zBC rfl rfl|exact zBo rfl|exact zAi rfl rfl|exact zAh rfl rfl|exact zAZ rfl|(apply zAR;exact rfl;(with_reducible first|exact fd_0|exact fd_1|exact fd_2|exact fn_0|exact fn_1))|(apply zAU;exact rfl;(with_reducible first|exact zE6|exact zIq|exact zAn|exact zAe|exact zAv|exact zE6);exact rfl;exact rfl)|exact w1 rfl rfl|(refine w0' ?_)|(apply zAx;exact rfl;exact rfl;exact rfl;(with_reducible exact zAY);exact rfl;exact rfl;exact rfl;exact rfl)|exact zAK rfl|exact zAQ rfl|apply zAI|apply zAP|apply zAM|refine zA6 (by kernel_rfl) (by kernel_rfl) ?_|apply eb_n
        all_goals try omega
        exact zAq (zAO (Le_d rfl (by congr 2) zAa) (zAD rfl (by rw [show ((F ++ [x.text]).map str).length = (F.map str).length + [str x.text].length by simp];rfl) (zAD rfl rfl (zAu rfl rfl (by rw [List.map_append]) zAN))) rfl rfl)
    · have c1' : ¬ ((lkB S x.text : Nat) : Int) = 0:=by omega
      rw [if_neg (fun c=>c1 c.1)]
      refine zA1 Tryz.func106 rfl Tryz.ntmps106 Tryz.results106 rfl rfl rfl ?_
      intro wb St0 X fx
      repeat' first | apply en_n|apply zAH|apply zAB|apply zAF|apply w0|(apply zBD;exact rfl;exact rfl;first|assumption|omega)|(apply zA9;exact rfl;exact rfl;first|assumption|omega)|exact zAo rfl|(apply zG8;exact rfl;exact rfl;exact rfl;(with_reducible exact zH5);(with_reducible exact ustr);(with_reducible exact zGm))|(apply aJ (hd:=rfl);(first|exact zAk rfl|exact Co_bb rfl rfl rfl|exact Co_nn rfl);exact rfl;(with_reducible exact zAW);assumption;omega;exact fun _=>rfl)|(apply zA4 (hd:=rfl) (hro:=rfl);(with_reducible exact zAp))|apply ay (hd:=rfl)|exact zAE rfl|exact zAC rfl|(apply zAf;exact rfl;(with_reducible exact zAY);exact rfl)|exact zBC rfl rfl|exact zAh rfl rfl|exact zAZ rfl|(apply zAR;exact rfl;(with_reducible first|exact fd_0|exact fd_1|exact fn_0|exact fn_1))|(apply zAU;exact rfl;(with_reducible first|exact zIq|exact zAn|exact zAe|exact zAv);exact rfl;exact rfl)|exact w1 rfl rfl|(apply k1 (hd:=rfl);exact rfl;exact rfl)|(refine w0' ?_)|(apply zAx;exact rfl;exact rfl;exact rfl;(with_reducible exact zAY);exact rfl;exact rfl;exact rfl;exact rfl)|exact zAK rfl|exact zAQ rfl|apply zAI|apply zAP|apply zAM|refine zA6 (by kernel_rfl) (by kernel_rfl) ?_|apply eb_n
      all_goals try omega
      exact zAq (zAO (Le_d rfl (by congr 2) zAa) (zAD rfl rfl (zAD rfl rfl (zAu rfl rfl rfl zAN))) rfl rfl)
end Go.Proofs.YtblomnkamngnbaaGreatDoor
namespace Go.Proofs.YtblomnkamngnbaaGreatDoor
open Go.Sx
attribute [local irreducible] zAT Program.underlying Ylds zBA alex zBc zBO awp zAj zBX RCall zA2 zBH zBQ zA8 zBT zBZ zBd zBr zBN VCall
set_option maxHeartbeats 4000000 in
theorem zPc {L : List Nd} (hL : L.length ≤ 2000000) {m : Nat} (ih : zHJ L m) (n : Nat) (x : Nd) (ks : List Tr) (S : Bag) (F : List (List UInt8)) (b : Nat) (hk : x.kind = 1 ∨ x.kind = 2 ∨ x.kind = 4) (hm : Tr.sz (.mk x ks) ≤ m + 1) (h : At L n (.mk x ks)) (hw : Tr.werr (.mk x ks) false = 0) (hS : GoodB S) (hb : ∀ a,lkB S a ≤ b) (hb2 : b + Tr.sz (.mk x ks) ≤ 1000000) (hF : F.length + Tr.sz (.mk x ks) ≤ 1000000) :
    zA2 Tryz.prog 106 [.ptr 0 0,.d (i64 (n : Int))] (fO L S F) (.d (i64 ((n + Tr.sz (.mk x ks) : Nat) : Int))) (fO L S (Tr.free (.mk x ks) S F)):=by
  obtain ⟨h1,h2⟩:=zC0 hw
  obtain ⟨h3,h4,h5⟩:=zCL h1
  have hx:=h.here
  have hkn:=h.kidn
  have hlen:=h.len
  have hsz : Tr.sz (.mk x ks) = szL ks + 1:=by rw [Tr.sz]
  have hl0 : ks.length = 0:=by
    have : x.kids = 0:=by rcases hk with hk | hk | hk <;> (rw [hk] at h5;simpa [cntK] using h5)
    omega
  match ks,hl0 with
  | [],_ =>
    rw [hsz,szL]
    have he : Tr.free (.mk x []) S F = F:=by rw [Tr.free,if_neg (by omega),zCX]
    rw [he]
    clear h1 h2 h3 h4 h5 hw h hS ih hsz hm hb2 hF he
    rcases hk with hk | hk | hk
    all_goals
      refine zA1 Tryz.func106 rfl Tryz.ntmps106 Tryz.results106 rfl rfl rfl ?_
      intro wb St0 X fx
      repeat' first | apply en_n|apply zAH|apply zAB|apply zAF|apply w0|(apply zA9;exact rfl;exact rfl;first|assumption|omega)|exact zAo rfl|(apply aJ (hd:=rfl);(first|exact zAk rfl|exact Co_bb rfl rfl rfl|exact Co_nn rfl);exact rfl;(with_reducible exact zAW);assumption;omega;exact fun _=>rfl)|(apply zA4 (hd:=rfl) (hro:=rfl);(with_reducible exact zAp))|apply ay (hd:=rfl)|exact zAE rfl|exact zAC rfl|(apply zAf;exact rfl;(with_reducible exact zAY);exact rfl)|exact zBC rfl rfl|exact zAh rfl rfl|exact zAZ rfl|(apply zAR;exact rfl;(with_reducible first|exact fd_0|exact fn_0))|(apply zAU;exact rfl;(with_reducible first|exact zAn|exact zAe);exact rfl;exact rfl)|exact w1 rfl rfl|(refine w0' ?_)|(apply zAx;exact rfl;exact rfl;exact rfl;(with_reducible exact zAY);exact rfl;exact rfl;exact rfl;exact rfl)|exact zAQ rfl|apply zAI|apply zAP|apply zAM|apply eb_n
      all_goals try omega
      exact zAq (zAO (Le_d rfl (by congr 2) zAa) (zAD rfl rfl (zAD rfl rfl (zAu rfl rfl rfl zAN))) rfl rfl)
end Go.Proofs.YtblomnkamngnbaaGreatDoor
namespace Go.Proofs.YtblomnkamngnbaaGreatDoor
open Go.Sx
attribute [local irreducible] zAT Program.underlying Ylds zBA alex zBc zBO awp zAj zBX RCall zA2 zBH zBQ zA8 zBT zBZ zBd zBr zBN VCall
theorem zPa (L : List Nd) (hL : L.length ≤ 2000000) : ∀ m,zHJ L m
  | 0=>fun n t S F b hm=>by have:=zBR t;omega
  | m + 1=>fun n t S F b hm h hw hS hb hb2 hF=>by
    have ih:=zPa L hL m
    match t,hm,h,hw,hb2,hF with
    | .mk x ks,hm,h,hw,hb2,hF =>
      have h3:=(zCL (zC0 hw).1).1
      have h4:=(zCL (zC0 hw).1).2.1
      have hk : (1 ≤ x.kind ∧ x.kind ≤ 12):=by
        have h5 : (1 ≤ x.kind ∧ x.kind ≤ 12) ∨ (21 ≤ x.kind ∧ x.kind ≤ 24):=by simpa [okK] using h3
        have h6 : ¬ (21 ≤ x.kind ∧ x.kind ≤ 24):=by simpa [patK] using h4
        omega
      have hc : (x.kind = 1 ∨ x.kind = 2 ∨ x.kind = 4) ∨ x.kind = 3 ∨ x.kind = 5 ∨ (x.kind = 6 ∨ x.kind = 9 ∨ x.kind = 11) ∨ (x.kind = 7 ∨ x.kind = 12) ∨ x.kind = 8 ∨ x.kind = 10:=by omega
      rcases hc with hc | hc | hc | hc | hc | hc | hc
      · exact zPc hL ih n x ks S F b hc hm h hw hS hb hb2 hF
      · exact zPb hL ih n x ks S F b hc hm h hw hS hb hb2 hF
      · exact zSs hL ih n x ks S F b hc hm h hw hS hb hb2 hF
      · exact zPd hL ih n x ks S F b hc hm h hw hS hb hb2 hF
      · exact zRQ hL ih n x ks S F b hc hm h hw hS hb hb2 hF
      · exact zRP hL ih n x ks S F b hc hm h hw hS hb hb2 hF
      · exact zN3 hL ih n x ks S F b hc hm h hw hS hb hb2 hF
def zFz (t : Tr) : List (List UInt8):=if chkT t false = 0 then t.free [] [] else []
theorem zQR (t : Tr) (hw : t.wf) (hL : t.fl.length ≤ 1000000) : zAj Tryz.prog 60 [zAc t.fl] (strs (zFz t)):=by
  have hc:=zET t hw hL
  refine zAd Tryz.func60 rfl Tryz.ntmps60 Tryz.results60 rfl ?_
  intro wb St0
  by_cases h0 : chkT t false = 0
  · have hch:=h0
    rw [zFz,if_pos h0]
    rw [h0] at hc
    have h1 : ¬ (4000 < t.sz ∨ 100 < zDo t.fl):=fun c=>by rw [chkT,if_pos c] at h0;omega
    have h2 : t.werr false = 0:=by
      rw [chkT,if_neg h1] at h0
      by_cases hq : t.werr false = 0
      · exact hq
      · rw [if_pos hq] at h0;exact absurd h0 hq
    have hf:=zPa t.fl (by omega) t.sz 0 t [] [] 0 (Nat.le_refl _) (.top hw) h2 .nil (fun a=>Nat.le_refl _) (by omega) (by simp;omega)
    rw [Nat.zero_add] at hf
    generalize t.free [] [] = F at *
    clear h1 h2 hch
    skip
    repeat' first | (refine zHH 1 2 false 9 1 rfl rfl rfl ?_)|(apply zGf;(with_reducible exact zOt);(with_reducible exact zOK);exact zEP rfl (zEP rfl zNQ);exact rfl;exact rfl;exact rfl;exact rfl)|apply en_n|apply zAH|apply zAB|apply zAF|apply w0|(apply zBS;exact rfl;exact rfl;first|assumption|omega)|(refine zAV zCm hc (zAX rfl zAG))|(apply zOD (hd:=rfl) (hro:=rfl);(with_reducible exact zH5);(with_reducible exact ustr))|exact zAo rfl|(refine zA3 [1,0,2] zIK (hf) ?_ rfl rfl (by decide) rfl rfl rfl rfl rfl rfl ?_;(repeat (refine zAL rfl ?_));exact zAS)|apply ay (hd:=rfl)|exact zAE rfl|exact zAb rfl|exact zAm rfl|exact zAZ rfl|exact zEJ rfl|(apply zAR;exact rfl;(with_reducible exact fd_2))|(apply zAU;exact rfl;(with_reducible first|exact zE6|exact zE6);exact rfl;exact rfl)|exact zAQ rfl|apply zAP|apply zAM|apply zAJ|(apply zGq;exact rfl;exact rfl;(first|exact rfl|(simp;done)))
    all_goals rfl
  · rw [zFz,if_neg h0]
    repeat' first | apply en_n|apply zAH|apply zAB|apply zAF|apply w0|(apply zB4;exact rfl;exact rfl;first|assumption|omega)|(refine zAV zCm hc (zAX rfl zAG))|apply ay (hd:=rfl)|exact zAE rfl|exact zAb rfl|exact zAK rfl|apply zAM|apply en_r|apply zAJ|exact zQn rfl
    all_goals rfl
end Go.Proofs.YtblomnkamngnbaaGreatDoor
namespace Go.Proofs.YtblomnkamngnbaaGreatDoor
open Go.Sx
theorem zJJ {E : List Sg} {i : Nat} {s : Sg} (h : E[i]? = some s) : zL6 E i (E.drop i) = (!envB E i s && zL6 E (i + 1) (E.drop (i + 1))):=by
  obtain ⟨hi,rfl⟩:=List.getElem?_eq_some_iff.1 h
  rw [List.drop_eq_getElem_cons hi,zL6]
theorem zMl {t : List Nd} (h : ckT t = 0) : ∃ x r,(zCG t).2 = x :: r:=by
  obtain ⟨T,rfl,hw,hr,hs⟩:=zIU h
  rw [zDz hw h]
  have key : ∀ (m : Nat) (T : Tr),T.sz ≤ m → ∃ x r,(zBi T).2 = x :: r:=by
    intro m
    induction m with
    | zero=>intro T h;have:=zBR T;omega
    | succ m ih =>
      intro T h
      match T,h with
      | .mk x [a,b],h =>
        by_cases hx : x.text = arrT
        · rw [zDr hx];exact ih b (by rw [Tr.sz,szL,szL,szL] at h;omega)
        · rw [zEV hx];exact ⟨x,_,by rw [Tr.fl]⟩
      | .mk x [],h=>exact ⟨x,_,by rw [zBi,Tr.fl];rintro _ _ _ h;cases h⟩
      | .mk x [_],h=>exact ⟨x,_,by rw [zBi,Tr.fl];rintro _ _ _ h;cases h⟩
      | .mk x (_ :: _ :: _ :: _),h=>exact ⟨x,_,by rw [zBi,Tr.fl];rintro _ _ _ h;cases h⟩
  exact key _ T (Nat.le_refl _)
attribute [local irreducible] zAT Program.underlying Ylds zBA alex zBc zBO awp zAj zBX RCall zA2 zBH zBQ zA8 zBT zBZ zBd zBr zBN VCall
set_option maxHeartbeats 4000000 in
theorem zFE (E : List Sg) (hE : E.length ≤ 1000000) (hT : ∀ s ∈ E,s.ty.length ≤ 1000000) : zAj Tryz.prog 10 [sigs E] (i64 (if envF E then 0 else 110)):=by
  refine zAd Tryz.func10 rfl Tryz.ntmps10 Tryz.results10 rfl ?_
  intro wb St0
  repeat' first | apply en_n|apply zAH|apply zAB|apply zAF|apply w0|apply ay (hd:=rfl)|exact zAE rfl|exact zAC rfl|(apply zAl;exact rfl;(with_reducible exact zD4))|apply zAI
  refine zAr (α:=Nat) (fun i=>i ≤ E.length ∧ envF E = zL6 E i (E.drop i)) (fun i=>[(0,.d (sigs E)),(8,.d (sigs E)),(9,.d (i64 (E.length : Int))),(10,.d (i64 (i : Int)))]) (fun _=>[]) (fun i=>E.length - i) 0 ⟨Nat.zero_le _,rfl⟩
    (zAO (zAA rfl (zAA rfl (Le_d rfl rfl (zAA rfl zAa)))) zAN rfl rfl) ?_
  rintro i ⟨hi,he⟩
  rcases Nat.lt_or_ge i E.length with hlt | hge
  · have hs : E[i]? = some E[i]:=List.getElem?_eq_getElem hlt
    have hm:=hT _ (List.getElem_mem hlt)
    generalize E[i] = s at *
    have hli : (i : Int) < (E.length : Int):=by omega
    rw [zJJ hs] at he
    have hck:=zCO s.ty (by omega)
    have hcf:=zUc 28 (str s.name) (zAc s.ty) (fun u=>decide (u.name = s.name)) zNv (zNt s) ((E.take ((i : Nat) : Int).toNat)) (by rw [List.length_take];omega)
    have hpf:=zFQ s.ty (by omega)
    have hnm:=zMd s.name
    have hcn:=zLp s.name
    have hbB : envB E i s = ((!nameF s.name && !conF s.name) || decide (ckT s.ty ≠ 0) || (E.take ((i : Nat) : Int).toNat).any (fun x=>decide (x.name = s.name)) || (conF s.name && !conF (((zCG s.ty).2.map Nd.text).headD []))):=rfl
    by_cases hc : ckT s.ty = 0
    · obtain ⟨y,r,hy⟩:=zMl hc
      rw [hy] at hbB hpf
      simp only [List.map_cons,List.headD_cons] at hbB
      have hcn2:=zLp y.text
      rw [hc] at hbB hck
      generalize hna : zD9 s.name = na at *
      generalize hco : conF s.name = co at *
      generalize hcy : conF y.text = cy at *
      generalize hcA : ((E.take ((i : Nat) : Int).toNat).any fun x=>decide (x.name = s.name)) = cA at *
      have hy0 : (y :: r)[0]? = some y:=rfl
      clear hy hna hco hcy hcA
      cases na <;> cases co <;> cases cy <;> cases cA
      all_goals
        rw [hbB] at he
        simp only [Bool.not_false,Bool.not_true,Bool.and_true,Bool.true_and,Bool.and_false,Bool.false_and,Bool.or_true,Bool.or_false,ne_eq,not_true,decide_false] at he
      repeat' first | apply en_n|apply zAH|apply zAB|apply zAF|apply w0|(apply k1u (hd:=rfl);exact rfl;exact rfl)|(apply k0u (hd:=rfl);exact rfl;exact rfl)|(apply zA5;exact rfl;exact rfl;first|assumption|omega)|(apply zBS;exact rfl;exact rfl;first|assumption|omega)|(refine zAV zJt hnm (zAX rfl zAG))|(refine zAV zJu hcn (zAX rfl zAG))|(refine zAV zJu hcn2 (zAX rfl zAG))|(refine zAV zCH hck (zAX rfl zAG))|(refine zAV zEs hpf (zAX rfl zAG))|(refine zBB [0] [] rfl rfl zTw (hcf) rfl ?_ rfl (by decide) rfl rfl rfl rfl;(repeat (refine zAL rfl ?_));exact zAS)|(apply aJ (hd:=rfl);(first|exact zAk rfl|exact Co_bb rfl rfl rfl|exact Co_nn rfl);exact rfl;(with_reducible first|exact zCI|exact zAW);assumption;omega;exact fun _=>rfl)|(apply zA4 (hd:=rfl) (hro:=rfl);(with_reducible exact zMM))|apply ay (hd:=rfl)|exact zAE rfl|exact zAC rfl|(apply zAy;exact rfl;(with_reducible exact fn_1))|(apply zAg;exact rfl;(with_reducible exact zAv))|(apply zAf;exact rfl;(with_reducible exact zFi);exact rfl)|exact zBC rfl rfl|exact zBo rfl|exact zAi rfl rfl|exact zAh rfl rfl|exact zBP rfl rfl|exact zBF rfl|exact zCp rfl|(apply zAR;exact rfl;(with_reducible first|exact fg_0|exact fg_1))|(apply zAU;exact rfl;(with_reducible first|exact zAn|exact zAv);exact rfl;exact rfl)|(apply zUL;(first|exact zAk rfl|exact Co_bb rfl rfl rfl|exact Co_nn rfl);(with_reducible exact zCI);exact rfl;exact fun _=>rfl)|exact zF3 rfl|exact w1 rfl rfl|(refine w0' ?_)|(apply zAx;exact rfl;exact rfl;exact rfl;(with_reducible exact zFi);exact rfl;exact rfl;exact rfl;exact rfl)|exact zAK rfl|exact zAQ rfl|apply zAI|apply zAP|apply zAM|apply en_r|apply eb_n|apply eb_r|apply zAJ|exact res1 rfl
      all_goals first
        | (rw [he];rfl)
        | exact ⟨i + 1,⟨by omega,he⟩,by omega,zAO (zAA rfl (zAA rfl (zAA rfl (zAA rfl zAa)))) zAN rfl rfl⟩
        | omega
    · have hbt : envB E i s = true:=by rw [hbB];simp [hc]
      rw [hbt] at he
      simp only [Bool.not_true,Bool.false_and] at he
      rw [he]
      generalize zD9 s.name = na at *
      generalize conF s.name = co at *
      clear hbB
      cases na <;> cases co
      all_goals skip
      repeat' first | apply en_n|apply zAH|apply zAB|apply zAF|apply w0|(apply k1u (hd:=rfl);exact rfl;exact rfl)|(apply k0u (hd:=rfl);exact rfl;exact rfl)|(apply zA5;exact rfl;exact rfl;first|assumption|omega)|(apply zB4;exact rfl;exact rfl;first|assumption|omega)|(refine zAV zJt hnm (zAX rfl zAG))|(refine zAV zJu hcn (zAX rfl zAG))|(refine zAV zCH hck (zAX rfl zAG))|(apply aJ (hd:=rfl);(first|exact zAk rfl|exact Co_bb rfl rfl rfl|exact Co_nn rfl);exact rfl;(with_reducible exact zCI);assumption;omega;exact fun _=>rfl)|(apply zA4 (hd:=rfl) (hro:=rfl);(with_reducible exact zMM))|apply ay (hd:=rfl)|exact zAE rfl|exact zAC rfl|(apply zAf;exact rfl;(with_reducible exact zFi);exact rfl)|exact zBo rfl|exact zAi rfl rfl|exact zAh rfl rfl|exact zCp rfl|(apply zAR;exact rfl;(with_reducible first|exact fg_0|exact fg_1))|(apply zAU;exact rfl;(with_reducible first|exact zAn|exact zAv);exact rfl;exact rfl)|exact zF3 rfl|exact w1 rfl rfl|(refine w0' ?_)|(apply zAx;exact rfl;exact rfl;exact rfl;(with_reducible exact zFi);exact rfl;exact rfl;exact rfl;exact rfl)|exact zAK rfl|apply zAI|apply zAP|apply zAM|apply en_r|apply eb_r|apply zAJ|exact res1 rfl
      all_goals rfl
  · have hli : ¬ (i : Int) < (E.length : Int):=by omega
    have : envF E = true:=by rw [he,List.drop_of_length_le hge];rfl
    rw [this]
    repeat' first | apply en_n|apply zAH|apply zAB|apply zAF|apply w0|(apply zBn;exact rfl;exact rfl;first|assumption|omega)|apply ay (hd:=rfl)|exact zAC rfl|exact zAQ rfl|apply zAM|apply zAt|apply en_e|apply eb_e|apply zAJ|exact res1 rfl
    all_goals rfl
end Go.Proofs.YtblomnkamngnbaaGreatDoor
namespace Go.Proofs.YtblomnkamngnbaaGreatDoor
open Go.Sx
abbrev zHL (E : List Sg) (z : List UInt8) : Int:=idxP (fun u : Sg=>decide (u.name = z)) E
abbrev tOb (E : List Sg) : List Ob:=[.bx none none [.d (sigs E)],.bx none none [.clo 57 [0]]]
def conB (E : List Sg) (x : Nd) : Bool:=if x.kind = 4 ∨ x.kind = 24 then (match E.find? (fun s=>decide (s.name = x.text)) with
    | none=>false
    | some s=>if x.kind = 24 then decide (((zCG s.ty).1.length : Int) = x.kids) else true) else true
def nmdF (E : List Sg) (L : List Nd) (F : List (List UInt8)) : Bool:=L.all (conB E) && !(F.any fun z=>decide (zHL E z < 0))
attribute [local irreducible] zAT Program.underlying Ylds zBA alex zBc zBO awp zAj zBX RCall zA2 zBH zBQ zA8 zBT zBZ zBd zBr zBN VCall
theorem zNm (x : List UInt8) (u : Sg) : zBH Tryz.prog 58 [.d u.av,.ptr 0 0] [.box [.d (str x)]] (bl (decide (u.name = x))):=by
  refine zBu Tryz.func58 rfl Tryz.ntmps58 Tryz.results58 rfl ?_
  intro wb St0
  repeat' first | apply en_n|apply zAH|apply zAB|apply zAF|apply w0|exact zGi rfl rfl|(apply aBox (hd:=rfl) (hro:=rfl);exact rfl;exact rfl)|apply ay (hd:=rfl)|exact zAC rfl|(apply zAR;exact rfl;(with_reducible exact fg_0))|(apply zAU;exact rfl;(with_reducible exact zAv);exact rfl;exact rfl)|apply zAM|apply zAJ|exact res1 rfl
  rfl
theorem zKk (E : List Sg) (hE : E.length ≤ 1000000) (x : List UInt8) : zBH Tryz.prog 57 [.d (str x),.ptr 0 0] [.bx none none [.d (sigs E)]] (i64 (zHL E x)):=by
  refine zBu Tryz.func57 rfl Tryz.ntmps57 Tryz.results57 rfl ?_
  intro wb St0
  have hif:=zQQ 58 (str x) (fun u=>decide (u.name = x)) zNu (zNm x) E (by omega)
  repeat' first | apply en_n|apply zAH|apply zAB|apply zAF|apply w0|(refine zBB [1] [] rfl rfl zPO (hif) rfl ?_ rfl (by decide) rfl rfl rfl rfl;(repeat (refine zAL rfl ?_));exact zAS)|(apply aBox (hd:=rfl) (hro:=rfl);exact rfl;exact rfl)|apply ay (hd:=rfl)|exact zAC rfl|(apply zAU;exact rfl;(with_reducible exact zHr);exact rfl;exact rfl)|exact zF3 rfl|apply zAM|apply zAJ|exact res1 rfl
  rfl
theorem zO2 (E : List Sg) (hE : E.length ≤ 1000000) (x : List UInt8) : zBH Tryz.prog 61 [.d (str x),.ptr 1 0] (tOb E) (bl (decide (zHL E x < 0))):=by
  refine zBu Tryz.func61 rfl Tryz.ntmps61 Tryz.results61 rfl ?_
  intro wb St0
  have h1:=zKk E hE x
  repeat' first | apply en_n|apply zAH|apply zAB|apply zAF|apply w0|(refine zBB [0] [0] rfl rfl zFG (h1) rfl ?_ rfl (by decide) rfl rfl rfl rfl;(repeat (refine zAL rfl ?_));exact zAS)|apply ay (hd:=rfl)|exact zAE rfl|exact zAC rfl|exact zCQ rfl rfl|(apply zAU;exact rfl;(with_reducible exact zIr);exact rfl;exact rfl)|apply zAM|apply zAJ|exact res1 rfl
  rfl
theorem zUU (E : List Sg) (hE : E.length ≤ 1000000) (l : List (List UInt8)) (hl : l.length ≤ 2000000) :
    zBH Tryz.prog 105 [.d (strs l),.clo 61 [1]] (tOb E) (i64 (idxP (fun z=>decide (zHL E z < 0)) l)):=by
  refine zBu Tryz.func105 rfl Tryz.ntmps105 Tryz.results105 rfl ?_
  intro wb St0
  repeat' first | apply en_n|apply zAH|apply zAB|apply zAF|apply w0|apply ay (hd:=rfl)|exact zAE rfl|exact zAC rfl|(apply zAl;exact rfl;(with_reducible first|exact zCy|exact zCy))|apply zAI
  refine zAr (α:=Nat) (fun i=>i ≤ l.length ∧ ∀ (j : Nat) u,j < i → l[j]? = some u → decide (zHL E u < 0) = false) (fun i=>[(0,.d (strs l)),(1,.clo 61 [1]),(7,.d (i64 (l.length : Int))),(8,.d (i64 (i : Int)))]) (fun _=>tOb E) (fun i=>l.length - i) 0 ⟨Nat.zero_le _,fun j u h=>by omega⟩
    (zAO (zAA rfl (zAA rfl (Le_d rfl (by simp [strs]) (zAA rfl zAa)))) (zAD rfl rfl (zAD rfl rfl zAN)) rfl rfl) ?_
  rintro i ⟨hi1,hi2⟩
  rcases Nat.lt_or_ge i l.length with hlt | hge
  · have hv : l[i]? = some l[i]:=List.getElem?_eq_getElem hlt
    generalize l[i] = v at hv
    have hv0 : l[((i : Nat) : Int).toNat]? = some v:=by rw [Int.toNat_natCast];exact hv
    have h2:=zO2 E hE v
    have hli : (i : Int) < (l.length : Int):=by omega
    by_cases hb9 : zHL E v < 0
    · rw [decide_eq_true hb9] at h2
      skip
      repeat' first | apply en_n|apply zAH|apply zAB|apply zAF|apply w0|(apply zA5;exact rfl;exact rfl;first|assumption|omega)|exact zBF rfl|(refine zBB [0,1] [1] rfl rfl zK0 (h2) rfl ?_ rfl (by decide) rfl rfl rfl rfl;(repeat (refine zAL rfl ?_));exact zAS)|(apply aJ (hd:=rfl);(first|exact zAk rfl|exact Co_bb rfl rfl rfl|exact Co_nn rfl);exact rfl;(with_reducible first|exact zBU|exact zBU);assumption;omega;exact fun _=>rfl)|apply ay (hd:=rfl)|exact zAE rfl|exact zAC rfl|(apply zAg;exact rfl;(with_reducible exact zAv))|exact zAK rfl|apply zAI|apply zAP|apply zAM|apply en_r|apply eb_r|apply zAJ|exact res1 rfl
      all_goals first | omega | skip
      all_goals exact zCl (zFb hi2 hv (decide_eq_true hb9)).symm
    · rw [decide_eq_false hb9] at h2
      skip
      repeat' first | apply en_n|apply zAH|apply zAB|apply zAF|apply w0|(apply zA5;exact rfl;exact rfl;first|assumption|omega)|exact zBF rfl|(refine zBB [0,1] [1] rfl rfl zK0 (h2) rfl ?_ rfl (by decide) rfl rfl rfl rfl;(repeat (refine zAL rfl ?_));exact zAS)|(apply aJ (hd:=rfl);(first|exact zAk rfl|exact Co_bb rfl rfl rfl|exact Co_nn rfl);exact rfl;(with_reducible first|exact zBU|exact zBU);assumption;omega;exact fun _=>rfl)|apply ay (hd:=rfl)|exact zAE rfl|exact zAC rfl|(apply zAg;exact rfl;(with_reducible exact zAv))|exact zBC rfl rfl|exact zAK rfl|exact zAQ rfl|apply zAI|apply zAP|apply eb_n
      all_goals first | omega | skip
      all_goals
        refine ⟨i + 1,⟨by omega,fun j u hj hu=>?_⟩,by omega,zAO (zAA rfl (zAA rfl (zAA rfl (zAA rfl zAa)))) (zAD rfl rfl (zAD rfl rfl zAN)) rfl rfl⟩
        rcases Nat.lt_or_ge j i with h1 | h1
        · exact hi2 j u h1 hu
        · rw [show j = i by omega,hv] at hu;injection hu with hu;subst hu;exact decide_eq_false hb9
  · have hli : ¬ (i : Int) < (l.length : Int):=by omega
    skip
    repeat' first | apply en_n|apply zAH|apply zAB|apply zAF|apply w0|(apply zBn;exact rfl;exact rfl;first|assumption|omega)|apply ay (hd:=rfl)|exact zAC rfl|exact zAQ rfl|apply zAM|apply zAt|apply en_e|apply eb_e|apply zAJ|exact res1 rfl
    exact zCl (zDa fun j u hu=>hi2 j u (by have:=(List.getElem?_eq_some_iff.1 hu).1;omega) hu).symm
theorem zUa (E : List Sg) (hE : E.length ≤ 1000000) (l : List (List UInt8)) (hl : l.length ≤ 2000000) :
    zBH Tryz.prog 59 [.d (strs l),.clo 61 [1]] (tOb E) (bl (l.any fun z=>decide (zHL E z < 0))):=by
  refine zBu Tryz.func59 rfl Tryz.ntmps59 Tryz.results59 rfl ?_
  intro wb St0
  have hif:=zUU E hE l hl
  repeat' first | apply en_n|apply zAH|apply zAB|apply zAF|apply w0|exact zBF rfl|(refine zBB [0,1] [] rfl rfl zTr (hif) rfl ?_ rfl (by decide) rfl rfl rfl rfl;(repeat (refine zAL rfl ?_));exact zAS)|apply ay (hd:=rfl)|exact zAE rfl|exact zAC rfl|exact zEO rfl rfl|apply zAM|apply zAJ|exact res1 rfl
  refine zC4 ?_
  by_cases h : (l.any fun z=>decide (zHL E z < 0)) = true
  · rw [h];exact decide_eq_true (zHh.2 h)
  · rw [Bool.eq_false_iff.2 h];exact decide_eq_false fun c=>h (zHh.1 c)
set_option maxHeartbeats 4000000 in
theorem zKq (E : List Sg) (L : List Nd) (F : List (List UInt8)) (hE : E.length ≤ 1000000) (hT : ∀ s ∈ E,s.ty.length ≤ 1000000) (hL : L.length ≤ 1000000) (hF : F.length ≤ 1000000) (hfr : zAj Tryz.prog 60 [zAc L] (strs F)) :
    zAj Tryz.prog 36 [sigs E,zAc L] (bl (nmdF E L F)):=by
  refine zAd Tryz.func36 rfl Tryz.ntmps36 Tryz.results36 rfl ?_
  intro wb St0
  have hcf:=zUa E hE F (by omega)
  repeat' first | apply en_n|apply zAH|apply zAB|apply zAF|apply w0|(apply aBox (hd:=rfl) (hro:=rfl);exact rfl;exact rfl)|(apply zA4 (hd:=rfl) (hro:=rfl);(with_reducible exact zTR))|apply ay (hd:=rfl)|exact zAE rfl|exact zAC rfl|(apply zAl;exact rfl;(with_reducible exact zA0))|exact zF3 rfl|(refine w0' ?_)|(apply zAx;exact rfl;exact rfl;exact rfl;(with_reducible exact zIr);exact rfl;exact rfl;exact rfl;exact rfl)|apply zAI
  refine zAr (α:=Nat) (fun i=>i ≤ L.length ∧ L.all (conB E) = (L.drop i).all (conB E)) (fun i=>[(1,.d (zAc L)),(2,.ptr 0 0),(5,.ptr 1 0),(12,.d (zAc L)),(13,.d (i64 (L.length : Int))),(14,.d (i64 (i : Int)))]) (fun _=>tOb E) (fun i=>L.length - i) 0 ⟨Nat.zero_le _,rfl⟩
    (zAO (zAA rfl (zAA rfl (zAA rfl (zAA rfl (Le_d rfl rfl (zAA rfl zAa)))))) (zAD rfl rfl (zGk rfl zEK zAN)) rfl rfl) ?_
  rintro i ⟨hi1,hi2⟩
  rcases Nat.lt_or_ge i L.length with hlt | hge
  · have hx : L[i]? = some L[i]:=List.getElem?_eq_getElem hlt
    have hdr : (L.drop i).all (conB E) = (conB E L[i] && (L.drop (i + 1)).all (conB E)):=by rw [List.drop_eq_getElem_cons hlt,List.all_cons]
    generalize L[i] = x at hx hdr
    have hli : (i : Int) < (L.length : Int):=by omega
    have go : conB E x = true → ∃ y,(y ≤ L.length ∧ L.all (conB E) = (L.drop y).all (conB E)) ∧ L.length - y < L.length - i ∧ y = i + 1:=fun h=>⟨i + 1,⟨by omega,by rw [hi2,hdr,h,Bool.true_and]⟩,by omega,rfl⟩
    have no : conB E x = false → nmdF E L F = false:=fun h=>by rw [nmdF,hi2,hdr,h];rfl
    have hn1:=zKk E hE x.text
    by_cases hk : x.kind = 4 ∨ x.kind = 24
    · rcases zFJ (p:=fun s : Sg=>decide (s.name = x.text)) (l:=E) with ⟨h1,h2⟩ | ⟨j,s,h1,h2,h3⟩
      · have hcb : conB E x = false:=by rw [conB,if_pos hk,h1]
        have hno:=no hcb
        rw [hno]
        have hn2 : zHL E x.text < 0:=by show idxP _ E < 0;omega
        clear go no hi2 hdr hcf hfr
        rcases hk with hk | hk
        all_goals skip
        repeat' first | apply en_n|apply zAH|apply zAB|apply zAF|apply w0|(apply k1u (hd:=rfl);exact rfl;exact rfl)|(apply zA5;exact rfl;exact rfl;first|assumption|omega)|(apply zB4;exact rfl;exact rfl;first|assumption|omega)|(apply zBS;exact rfl;exact rfl;first|assumption|omega)|(refine zBB [0] [0] rfl rfl zFG (hn1) rfl ?_ rfl (by decide) rfl rfl rfl rfl;(repeat (refine zAL rfl ?_));exact zAS)|(apply aJ (hd:=rfl);(first|exact zAk rfl|exact Co_bb rfl rfl rfl|exact Co_nn rfl);exact rfl;(with_reducible exact zAW);assumption;omega;exact fun _=>rfl)|(apply zA4 (hd:=rfl) (hro:=rfl);(with_reducible exact zAp))|apply ay (hd:=rfl)|exact zAE rfl|exact zAC rfl|(apply zAf;exact rfl;(with_reducible exact zAY);exact rfl)|exact zAi rfl rfl|exact zAh rfl rfl|(apply zAR;exact rfl;(with_reducible first|exact fn_0|exact fn_1))|(apply zAU;exact rfl;(with_reducible first|exact zIr|exact zAe|exact zAv);exact rfl;exact rfl)|exact w1 rfl rfl|(refine w0' ?_)|(apply zAx;exact rfl;exact rfl;exact rfl;(with_reducible exact zAY);exact rfl;exact rfl;exact rfl;exact rfl)|exact zAK rfl|exact zAQ rfl|apply zAI|apply zAP|apply zAM|apply en_r|apply eb_r|apply zAJ|exact res1 rfl
        all_goals rfl
      · have hs:=hT s (List.mem_of_getElem? h1)
        have hpf:=zFQ s.ty (by omega)
        have hn2 : zHL E x.text = (j : Int):=h2
        rw [hn2] at hn1
        have hj : (j : Int) < (E.length : Int):=by have:=(List.getElem?_eq_some_iff.1 h1).1;omega
        rcases hk with hk | hk
        · have hcb : conB E x = true:=by rw [conB,if_pos (.inl hk),h3];simp only;rw [if_neg (by omega)]
          obtain ⟨y,hy1,hy2,rfl⟩:=go hcb
          clear go no hi2 hdr hcf hfr
          skip
          repeat' first | apply en_n|apply zAH|apply zAB|apply zAF|apply w0|(apply k1u (hd:=rfl);exact rfl;exact rfl)|(apply zA5;exact rfl;exact rfl;first|assumption|omega)|(apply zBn;exact rfl;exact rfl;first|assumption|omega)|(apply zA9;exact rfl;exact rfl;first|assumption|omega)|(apply zBS;exact rfl;exact rfl;first|assumption|omega)|(refine zAV zEs hpf (zAX rfl zAG))|(refine zBB [0] [0] rfl rfl zFG (hn1) rfl ?_ rfl (by decide) rfl rfl rfl rfl;(repeat (refine zAL rfl ?_));exact zAS)|(apply aJ (hd:=rfl);(first|exact zAk rfl|exact Co_bb rfl rfl rfl|exact Co_nn rfl);exact rfl;(with_reducible first|exact zCI|exact zAW);assumption;omega;exact fun _=>rfl)|(apply zA4 (hd:=rfl) (hro:=rfl);(with_reducible exact zAp))|apply ay (hd:=rfl)|exact zAE rfl|exact zAC rfl|(apply zAy;exact rfl;(with_reducible exact fg_1))|(apply zAg;exact rfl;(with_reducible exact zAn))|(apply zAf;exact rfl;(with_reducible exact zAY);exact rfl)|exact zBC rfl rfl|exact zAh rfl rfl|exact zBP rfl rfl|(apply zAR;exact rfl;(with_reducible first|exact fn_0|exact fn_1))|(apply zAU;exact rfl;(with_reducible first|exact zHr|exact zIr|exact zAe|exact zAv);exact rfl;exact rfl)|(refine w0' ?_)|(apply zAx;exact rfl;exact rfl;exact rfl;(with_reducible exact zAY);exact rfl;exact rfl;exact rfl;exact rfl)|exact zAK rfl|exact zAQ rfl|apply zAI|apply zAP|apply eb_n
          all_goals first | omega | skip
          all_goals exact ⟨_,hy1,hy2,zAO (zAA rfl (zAA rfl (zAA rfl (zAA rfl (zAA rfl (zAA rfl zAa)))))) (zAD rfl rfl (zAD rfl rfl zAN)) rfl rfl⟩
        · by_cases hp : ((zCG s.ty).1.length : Int) = x.kids
          · have hcb : conB E x = true:=by rw [conB,if_pos (.inr hk),h3];simp only;rw [if_pos hk];exact decide_eq_true hp
            obtain ⟨y,hy1,hy2,rfl⟩:=go hcb
            clear go no hi2 hdr hcf hfr
            skip
            repeat' first | apply en_n|apply zAH|apply zAB|apply zAF|apply w0|(apply zA5;exact rfl;exact rfl;first|assumption|omega)|(apply zBn;exact rfl;exact rfl;first|assumption|omega)|(apply zBD;exact rfl;exact rfl;first|assumption|omega)|(apply zB4;exact rfl;exact rfl;first|assumption|omega)|(apply zBS;exact rfl;exact rfl;first|assumption|omega)|(refine zAV zEs hpf (zAX rfl zAG))|(refine zBB [0] [0] rfl rfl zFG (hn1) rfl ?_ rfl (by decide) rfl rfl rfl rfl;(repeat (refine zAL rfl ?_));exact zAS)|(apply aJ (hd:=rfl);(first|exact zAk rfl|exact Co_bb rfl rfl rfl|exact Co_nn rfl);exact rfl;(with_reducible first|exact zCI|exact zAW);assumption;omega;exact fun _=>rfl)|(apply zA4 (hd:=rfl) (hro:=rfl);(with_reducible exact zAp))|apply ay (hd:=rfl)|exact zAE rfl|exact zAC rfl|(apply zAy;exact rfl;(with_reducible exact fg_1))|(apply zAg;exact rfl;(with_reducible exact zAn))|(apply zAf;exact rfl;(with_reducible exact zAY);exact rfl)|(apply zAl;exact rfl;(with_reducible exact zGZ))|exact zBC rfl rfl|exact zAi rfl rfl|exact zBP rfl rfl|(apply zAR;exact rfl;(with_reducible first|exact fn_0|exact fn_1|exact fn_3))|(apply zAU;exact rfl;(with_reducible first|exact zHr|exact zIr|exact zAs|exact zAe|exact zAv);exact rfl;exact rfl)|exact w1 rfl rfl|(refine w0' ?_)|(apply zAx;exact rfl;exact rfl;exact rfl;(with_reducible exact zAY);exact rfl;exact rfl;exact rfl;exact rfl)|exact zAK rfl|exact zAQ rfl|apply zAI|apply zAP|apply eb_n
            all_goals first | omega | skip
            all_goals exact ⟨_,hy1,hy2,zAO (zAA rfl (zAA rfl (zAA rfl (zAA rfl (zAA rfl (zAA rfl zAa)))))) (zAD rfl rfl (zAD rfl rfl zAN)) rfl rfl⟩
          · have hcb : conB E x = false:=by rw [conB,if_pos (.inr hk),h3];simp only;rw [if_pos hk];exact decide_eq_false hp
            rw [no hcb]
            clear go no hi2 hdr hcf hfr
            skip
            repeat' first | apply en_n|apply zAH|apply zAB|apply zAF|apply w0|(apply zA5;exact rfl;exact rfl;first|assumption|omega)|(apply zBn;exact rfl;exact rfl;first|assumption|omega)|(apply zBD;exact rfl;exact rfl;first|assumption|omega)|(apply zB4;exact rfl;exact rfl;first|assumption|omega)|(apply zBS;exact rfl;exact rfl;first|assumption|omega)|(refine zAV zEs hpf (zAX rfl zAG))|(refine zBB [0] [0] rfl rfl zFG (hn1) rfl ?_ rfl (by decide) rfl rfl rfl rfl;(repeat (refine zAL rfl ?_));exact zAS)|(apply aJ (hd:=rfl);(first|exact zAk rfl|exact Co_bb rfl rfl rfl|exact Co_nn rfl);exact rfl;(with_reducible first|exact zCI|exact zAW);assumption;omega;exact fun _=>rfl)|(apply zA4 (hd:=rfl) (hro:=rfl);(with_reducible exact zAp))|apply ay (hd:=rfl)|exact zAE rfl|exact zAC rfl|(apply zAy;exact rfl;(with_reducible exact fg_1))|(apply zAg;exact rfl;(with_reducible exact zAn))|(apply zAf;exact rfl;(with_reducible exact zAY);exact rfl)|(apply zAl;exact rfl;(with_reducible exact zGZ))|exact zAi rfl rfl|exact zBP rfl rfl|(apply zAR;exact rfl;(with_reducible first|exact fn_0|exact fn_1|exact fn_3))|(apply zAU;exact rfl;(with_reducible first|exact zHr|exact zIr|exact zAs|exact zAe|exact zAv);exact rfl;exact rfl)|exact w1 rfl rfl|(refine w0' ?_)|(apply zAx;exact rfl;exact rfl;exact rfl;(with_reducible exact zAY);exact rfl;exact rfl;exact rfl;exact rfl)|exact zAK rfl|exact zAQ rfl|apply zAI|apply zAP|apply zAM|apply en_r|apply eb_r|apply zAJ|exact res1 rfl
            all_goals first | omega | rfl
    · have hcb : conB E x = true:=by rw [conB,if_neg hk]
      obtain ⟨y,hy1,hy2,rfl⟩:=go hcb
      have hk4 : x.kind ≠ 4:=fun c=>hk (.inl c)
      have hk24 : x.kind ≠ 24:=fun c=>hk (.inr c)
      clear go no hi2 hdr hcf hfr hn1
      skip
      repeat' first | apply en_n|apply zAH|apply zAB|apply zAF|apply w0|(apply zA5;exact rfl;exact rfl;first|assumption|omega)|(apply zB4;exact rfl;exact rfl;first|assumption|omega)|(apply aJ (hd:=rfl);(first|exact zAk rfl|exact Co_bb rfl rfl rfl|exact Co_nn rfl);exact rfl;(with_reducible exact zAW);assumption;omega;exact fun _=>rfl)|(apply zA4 (hd:=rfl) (hro:=rfl);(with_reducible exact zAp))|apply ay (hd:=rfl)|exact zAE rfl|(apply zAf;exact rfl;(with_reducible exact zAY);exact rfl)|exact zBC rfl rfl|exact zAi rfl rfl|(apply zAR;exact rfl;(with_reducible exact fn_0))|(apply zAU;exact rfl;(with_reducible exact zAe);exact rfl;exact rfl)|exact w1 rfl rfl|(refine w0' ?_)|(apply zAx;exact rfl;exact rfl;exact rfl;(with_reducible exact zAY);exact rfl;exact rfl;exact rfl;exact rfl)|exact zAK rfl|apply zAI|apply zAP|apply zAt|apply en_e|apply eb_e
      all_goals first | omega | skip
      all_goals exact ⟨_,hy1,hy2,zAO (zAA rfl (zAA rfl (zAA rfl (zAA rfl (zAA rfl (zAA rfl zAa)))))) (zAD rfl rfl (zAD rfl rfl zAN)) rfl rfl⟩
  · have hli : ¬ (i : Int) < (L.length : Int):=by omega
    have hall : L.all (conB E) = true:=by rw [hi2,List.drop_of_length_le hge];rfl
    have hr : nmdF E L F = !(F.any fun z=>decide (zHL E z < 0)):=by rw [nmdF,hall,Bool.true_and]
    rw [hr]
    generalize (F.any fun z=>decide (zHL E z < 0)) = bb at *
    clear hr hall hi2
    skip
    repeat' first | apply en_n|apply zAH|apply zAB|apply zAF|apply w0|(apply zBn;exact rfl;exact rfl;first|assumption|omega)|(refine zAV zSp hfr (zAX rfl zAG))|(refine zBB [0,1] [] rfl rfl zTu (hcf) rfl ?_ rfl (by decide) rfl rfl rfl rfl;(repeat (refine zAL rfl ?_));exact zAS)|apply ay (hd:=rfl)|exact zAE rfl|exact zAC rfl|exact zBo rfl|exact zF3 rfl|exact zAQ rfl|apply zAM|apply zAt|apply en_e|apply eb_e|apply zAJ|exact res1 rfl
    all_goals rfl
end Go.Proofs.YtblomnkamngnbaaGreatDoor
namespace Go.Proofs.YtblomnkamngnbaaGreatDoor
open Go.Sx
theorem zJj (S : TS) : (zCk S).nx = S.nx + 1:=by unfold zCk zHQ;split <;> (try split) <;> rfl
theorem zMr (S : TS) : (zCk S).st = S.st:=by unfold zCk zHQ;split <;> (try split) <;> rfl
def nxI : Nat → TS → TS
  | 0,S=>S
  | k + 1,S=>nxI k (zCk S)
theorem zMo : ∀ (k : Nat) (S : TS),nxI (k + 1) S = zCk (nxI k S)
  | 0,S=>rfl
  | k + 1,S=>by rw [nxI,zMo k,← nxI]
theorem zMp : ∀ (k : Nat) (S : TS),(nxI k S).nx = S.nx + k
  | 0,S=>by simp [nxI]
  | k + 1,S=>by rw [nxI,zMp k,zJj];omega
theorem zR0 : ∀ (k : Nat) (S : TS),(nxI k S).st = S.st
  | 0,S=>rfl
  | k + 1,S=>by rw [nxI,zR0 k,zMr]
theorem zHc : ∀ (l : List Int) (S : TS),(zCg l S).2 = nxI l.length S
  | [],S=>rfl
  | v :: r,S=>by rw [zCg,zHc r];rfl
theorem zG2 : ∀ (l : List Int) (S : TS),(zCg l S).1.length = l.length
  | [],S=>rfl
  | v :: r,S=>by rw [zCg];simp [zG2 r]
theorem zJC : ∀ (l m : List Int) (S : TS),zCg (l ++ m) S = ((zCg l S).1 ++ (zCg m (zCg l S).2).1,(zCg m (zCg l S).2).2)
  | [],m,S=>rfl
  | v :: r,m,S=>by rw [List.cons_append,zCg,zJC r m];rfl
theorem zL2 {l : List Int} {i : Nat} {v : Int} (h : l[i]? = some v) (S : TS) : (zCg (l.take (i + 1)) S).1 = (zCg (l.take i) S).1 ++ [⟨v,varN (nxI i S).nx⟩]:=by
  have hi:=(List.getElem?_eq_some_iff.1 h).1
  rw [List.take_add_one,h,Option.toList_some,zJC,zHc,List.length_take,Nat.min_eq_left (by omega)];rfl
theorem zK7 {l : List Int} {S : TS} {b : Bd} (h : b ∈ (zCg l S).1) : b.ty.length = 1:=by
  induction l generalizing S with
  | nil=>cases h
  | cons v r ih =>
    rw [zCg] at h
    rcases List.mem_cons.1 h with e | e
    · subst e;rfl
    · exact ih e
attribute [local irreducible] zAT Program.underlying Ylds zBA alex zBc zBO awp zAj zBX RCall zA2 zBH zBQ zA8 zBT zBZ zBd zBr zBN VCall
set_option maxHeartbeats 2000000 in
theorem zKH (L : List Nd) (E : List Sg) (S : TS) (t : List Nd) (vs : List Int) (ht : t.length ≤ 10000) (hv : vs.length ≤ 1000000) (h0 : 0 ≤ S.nx ∧ S.nx ≤ 3000000000000) :
    zA2 Tryz.prog 111 [.ptr 0 0,.d (zAc t),.d (zBj vs)] (tyO L E S) (.d (zAc (zGW S t vs).1)) (tyO L E (zGW S t vs).2):=by
  have hap:=zNV (zCg vs S).1 t (by rw [zG2];omega) ht (fun b hb=>by rw [zK7 hb];omega)
  refine zA1 Tryz.func111 rfl Tryz.ntmps111 Tryz.results111 rfl rfl rfl ?_
  intro wb St0 X fx
  repeat' first | apply en_n|apply zAH|apply zAB|apply zAF|apply w0|apply ay (hd:=rfl)|exact zAE rfl|(apply zAl;exact rfl;(with_reducible exact zBt))|exact zAb rfl|apply zAI
  refine zCE 7 false 147 2 rfl rfl ?_
  refine zAr (α:=Nat) (fun i=>i ≤ vs.length) (fun i=>[(0,.ptr 0 0),(1,.d (zAc t)),(7,.buf 3 ((zCg (vs.take i) S).1.map Bd.av).length),(10,.d (zBj vs)),(11,.d (i64 (vs.length : Int))),(12,.d (i64 (i : Int)))]) (fun i=>anch fx 0 (tyO L E S) (tyO L E (nxI i S)) ++ [.buf false 147 2 ((zCg (vs.take i) S).1.map Bd.av)]) (fun i=>vs.length - i) 0 (Nat.zero_le _)
    (zAO (zAA rfl (zAA rfl (zBq rfl rfl (zAA rfl (Le_d rfl rfl (zAA rfl zAa)))))) (zAD rfl rfl (zAD rfl rfl (zAD rfl rfl (zAu rfl rfl rfl zAN)))) rfl rfl) ?_
  intro i hi
  rcases Nat.lt_or_ge i vs.length with hlt | hge
  · have hn:=zFA L E (nxI i S) (by rw [zMp];omega)
    rw [← zMo] at hn
    have hv' : vs[i]? = some vs[i]:=List.getElem?_eq_getElem hlt
    generalize vs[i] = v at hv'
    have e:=zL2 hv' S
    have hfl:=zG2 (vs.take i) S
    have htl : (vs.take i).length ≤ 1000000:=by rw [List.length_take];omega
    clear hap
    skip
    repeat' first | apply en_n|apply zAH|apply zAB|apply zAF|apply w0|(apply zA5;exact rfl;exact rfl;first|assumption|omega)|(apply aApp (id:=3) (hd:=rfl) (hro:=rfl);exact rfl;exact rfl;(first|exact zAk rfl|exact Co_bb rfl rfl rfl|exact Co_nn rfl);(first|exact rfl|exact (by simp));exact rfl;(with_reducible exact zGY);(with_reducible exact zFh);(with_reducible exact zOM);(with_reducible exact zNL);(first|exact zCC (fun _=>rfl)|exact zCA rfl))|(refine zA3 [0,1,2] zD2 (hn) ?_ rfl rfl (by decide) rfl rfl rfl rfl rfl rfl ?_;(repeat (refine zAL rfl ?_));exact zAS)|(apply zBE (cs:=[ival v,zAc (varN (nxI i S).nx)]);exact zOu;exact zOL;exact PD_d rfl rfl (PD_d rfl rfl zBy);exact rfl)|(apply aJ (hd:=rfl);(first|exact zAk rfl|exact Co_bb rfl rfl rfl|exact Co_nn rfl);exact rfl;(with_reducible exact zA7);assumption;omega;exact fun _=>rfl)|apply ay (hd:=rfl)|exact zAE rfl|exact zAC rfl|(apply zAg;exact rfl;(with_reducible exact zAs))|exact zBC rfl rfl|exact zAw rfl|exact zAm rfl|exact zAZ rfl|(apply zB8;(with_reducible exact zGY);(with_reducible exact zFh);(with_reducible exact zOJ);exact rfl;exact rfl;(first|exact zAX rfl zAG|exact zCx rfl rfl rfl zAG|exact zDB rfl zAG);exact rfl)|exact zAK rfl|apply zAI|apply zAP|apply eb_n
    all_goals first | omega | skip
    · simp only [List.length_map,List.length_cons,List.length_nil];omega
    · exact ⟨i + 1,by omega,by omega,zAO (zAA rfl (zAA rfl (zBq rfl (by rw [e];simp) (zAA rfl (zAA rfl (zAA rfl zAa)))))) (zAD rfl rfl (zAD rfl rfl (zAD rfl rfl (zAu rfl rfl (by rw [e,List.map_append];rfl) zAN)))) rfl rfl⟩
  · have hap2 : zAj Tryz.prog 114 [binds (zCg (vs.take i) S).1,zAc t] (zAc (zGW S t vs).1):=by
      rw [List.take_of_length_le hge];exact hap
    have he : (zGW S t vs).2 = nxI i S:=by rw [zGW,zHc,show vs.length = i by omega]
    rw [he]
    clear hap
    skip
    repeat' first | apply en_n|apply zAH|apply zAB|apply zAF|apply w0|(apply zBn;exact rfl;exact rfl;first|assumption|omega)|(refine zAV zNB hap2 (zCx rfl rfl rfl (zAX rfl zAG)))|apply ay (hd:=rfl)|exact zAE rfl|exact zAC rfl|exact zAw rfl|exact zAQ rfl|apply zAM|apply zAt|apply en_e|apply eb_e
    all_goals first | omega | skip
    exact zAq (zAO (zAA rfl zAa) (zAD rfl rfl (zAD rfl rfl (zAD rfl rfl zAN))) rfl rfl)
theorem zQb (x : List UInt8) (u : Sg) : zBH Tryz.prog 132 [.d u.av,.ptr 0 0] [.box [.d (str x)]] (bl (decide (u.name = x))):=by
  refine zBu Tryz.func132 rfl Tryz.ntmps132 Tryz.results132 rfl ?_
  intro wb St0
  repeat' first | apply en_n|apply zAH|apply zAB|apply zAF|apply w0|exact zGi rfl rfl|(apply aBox (hd:=rfl) (hro:=rfl);exact rfl;exact rfl)|apply ay (hd:=rfl)|exact zAC rfl|(apply zAR;exact rfl;(with_reducible exact fg_0))|(apply zAU;exact rfl;(with_reducible exact zAv);exact rfl;exact rfl)|apply zAM|apply zAJ|exact res1 rfl
  rfl
theorem zPe {E : List Sg} {p : Sg → Bool} {s : Sg} (h : E.find? p = some s) : ∃ k : Nat,E[k]? = some s ∧ idxP p E = k:=by
  rcases zFJ (p:=p) (l:=E) with ⟨h1,_⟩ | ⟨k,x,h1,h2,h3⟩
  · rw [h1] at h;cases h
  · rw [h3] at h;injection h with h;subst h;exact ⟨k,h1,h2⟩
set_option maxHeartbeats 2000000 in
theorem zJT (L : List Nd) (E : List Sg) (S S' : TS) (x : List UInt8) (r : List Nd) (hE : E.length ≤ 1000000) (hT : ∀ s ∈ E,s.ty.length ≤ 10000) (h0 : 0 ≤ S.nx ∧ S.nx ≤ 3000000000000) (h : zKL E S x = some (r,S')) :
    zA2 Tryz.prog 112 [.ptr 0 0,.d (str x)] (tyO L E S) (.d (zAc r)) (tyO L E S'):=by
  unfold zKL at h
  cases hf : E.find? (fun s=>decide (s.name = x)) with
  | none=>rw [hf] at h;cases h
  | some s =>
    rw [hf] at h
    dsimp only at h
    obtain ⟨k,hk,hi⟩:=zPe hf
    have hm:=hT s (List.mem_of_getElem? hk)
    have hif:=zQQ 132 (str x) (fun u=>decide (u.name = x)) zRC (zQb x) E (by omega)
    rw [hi] at hif
    have hvs:=zKF s.ty (by omega)
    have hvl : (zC9 s.ty).length ≤ 1000000:=by
      unfold zC9;split
      · have:=zF6 s.ty []
        unfold zCU;simp only [List.length_nil] at this;omega
      · simp
    have hfr:=zKH L E S s.ty (zC9 s.ty) hm hvl h0
    injection h with h
    rw [h] at hfr
    dsimp only at hfr
    generalize zC9 s.ty = vs at *
    clear hf hT hE hi
    refine zA1 Tryz.func112 rfl Tryz.ntmps112 Tryz.results112 rfl rfl rfl ?_
    intro wb St0 X fx
    repeat' first | apply en_n|apply zAH|apply zAB|apply zAF|apply w0|exact zAo rfl|(refine zBB [3] [] rfl rfl zPO (hif) rfl ?_ rfl (by decide) rfl rfl rfl rfl;(repeat (refine zAL rfl ?_));exact zAS)|(refine zAV zIL hvs (zAX rfl zAG))|(refine zC5 (by kernel_rfl) ?_;refine zA3 [0,1,2] zKv (hfr) ?_ rfl rfl (by decide) rfl rfl rfl rfl rfl rfl ?_;(repeat (refine zAL rfl ?_));exact zAS)|(apply aJ (hd:=rfl);(first|exact zAk rfl|exact Co_bb rfl rfl rfl|exact Co_nn rfl);exact rfl;(with_reducible exact zCI);assumption;omega;exact fun _=>rfl)|(apply aBox (hd:=rfl) (hro:=rfl);exact rfl;exact rfl)|apply ay (hd:=rfl)|exact zAE rfl|exact zAC rfl|(apply zAy;exact rfl;(with_reducible exact fg_1))|(apply zAg;exact rfl;(with_reducible exact zAn))|exact zAb rfl|exact zAZ rfl|(apply zAR;exact rfl;(with_reducible exact fy_2))|(apply zAU;exact rfl;(with_reducible exact zHr);exact rfl;exact rfl)|exact zF3 rfl|apply zAM|refine zA6 (by kernel_rfl) (by kernel_rfl) ?_
    exact zAq (zAO (zAA rfl zAa) (zAD rfl rfl (zAD rfl rfl (zAD rfl rfl zAN))) rfl rfl)
theorem zPf {N : List Lc} {p : Lc → Bool} : ∀ (j : Nat) {l : Lc},N[j]? = some l → p l = true → (∀ (k : Nat) u,j < k → N[k]? = some u → p u = false) → N.reverse.find? p = some l:=by
  induction N with
  | nil=>intro j l h;simp at h
  | cons a N ih =>
    intro j l hl hp hn
    rw [List.reverse_cons,List.find?_append]
    cases j with
    | zero =>
      simp at hl;subst hl
      have : N.reverse.find? p = none:=List.find?_eq_none.2 fun u hu=>by
        obtain ⟨k,hk⟩:=List.mem_iff_getElem?.1 (List.mem_reverse.1 hu)
        rw [hn (k + 1) u (by omega) (by simpa using hk)];simp
      rw [this];simp [hp]
    | succ j =>
      rw [ih j (by simpa using hl) hp fun k u hk hu=>hn (k + 1) u (by omega) (by simpa using hu)];rfl
theorem zN4 {N : List Lc} {p : Lc → Bool} (h : ∀ (k : Nat) u,N[k]? = some u → p u = false) : N.reverse.find? p = none:=List.find?_eq_none.2 fun u hu=>by
  obtain ⟨k,hk⟩:=List.mem_iff_getElem?.1 (List.mem_reverse.1 hu)
  rw [h k u hk];simp
set_option maxHeartbeats 2000000 in
theorem zQ3 (L : List Nd) (E : List Sg) (S S' : TS) (N : List Lc) (x : List UInt8) (r : List Nd) (hE : E.length ≤ 1000000) (hT : ∀ s ∈ E,s.ty.length ≤ 10000) (hN : N.length ≤ 1000000) (hNt : ∀ l ∈ N,l.t.length ≤ 10000 ∧ l.any.length ≤ 1000000) (h0 : 0 ≤ S.nx ∧ S.nx ≤ 3000000000000) (h : zI4 E N S x = some (r,S')) :
    zA2 Tryz.prog 67 [.ptr 0 0,.d (str x),.d (locs N)] (tyO L E S) (.d (zAc r)) (tyO L E S'):=by
  refine zA1 Tryz.func67 rfl Tryz.ntmps67 Tryz.results67 rfl rfl rfl ?_
  intro wb St0 X fx
  unfold zI4 at h
  repeat' first | apply en_n|apply zAH|apply zAB|apply zAF|apply w0|apply ay (hd:=rfl)|exact zAE rfl|exact zAC rfl|(apply zAl;exact rfl;(with_reducible exact zDK))|exact zIj rfl rfl|exact zAb rfl|apply zAI
  · omega
  refine zAr (α:=Nat) (fun j=>j ≤ N.length ∧ ∀ (k : Nat) u,j ≤ k → N[k]? = some u → decide (u.name = x) = false) (fun j=>[(0,.ptr 0 0),(1,.d (str x)),(2,.d (locs N)),(7,.d (i64 ((j : Int) - 1)))]) (fun _=>anch fx 0 (tyO L E S) (tyO L E S)) (fun j=>j) N.length ⟨Nat.le_refl _,fun k u hk hu=>by have:=(List.getElem?_eq_some_iff.1 hu).1;omega⟩
    (zAO (zAA rfl (zAA rfl (zAA rfl (Le_d rfl rfl zAa)))) (zAD rfl rfl (zAD rfl rfl (zAD rfl rfl zAN))) rfl rfl) ?_
  rintro j ⟨hj,hn⟩
  rcases Nat.eq_zero_or_pos j with hz | hz
  · subst hz
    rw [zN4 fun k u hu=>hn k u (Nat.zero_le _) hu] at h
    have htd:=zJT L E S S' x r hE hT h0 h
    have hge : ¬ ((0 : Nat) : Int) - 1 ≥ 0:=by omega
    skip
    repeat' first | apply en_n|apply zAH|apply zAB|apply zAF|apply w0|(apply zUQ;exact rfl;exact rfl;first|assumption|omega)|(refine zA3 [0,1,2] zJp (htd) ?_ rfl rfl (by decide) rfl rfl rfl rfl rfl rfl ?_;(repeat (refine zAL rfl ?_));exact zAS)|apply ay (hd:=rfl)|exact zAE rfl|exact zAC rfl|exact zAZ rfl|exact zAQ rfl|apply zAM|apply zAt|apply en_e|apply eb_e
    exact zAq (zAO (zAA rfl zAa) (zAD rfl rfl (zAD rfl rfl (zAD rfl rfl zAN))) rfl rfl)
  · obtain ⟨i,rfl⟩ : ∃ i,j = i + 1:=⟨j - 1,by omega⟩
    have hlt : i < N.length:=by omega
    have hl : N[i]? = some N[i]:=List.getElem?_eq_getElem hlt
    have hm:=hNt _ (List.getElem_mem hlt)
    generalize N[i] = l at *
    have e1 : ((i + 1 : Nat) : Int) - 1 = (i : Int):=by omega
    rw [e1]
    have hge : (i : Int) ≥ 0:=by omega
    by_cases hx : l.name = x
    · rw [zPf i hl (decide_eq_true hx) fun k u hk hu=>hn k u (by omega) hu] at h
      have hfr:=zKH L E S l.t l.any hm.1 hm.2 h0
      injection h with h
      rw [h] at hfr
      dsimp only at hfr
      skip
      repeat' first | apply en_n|apply zAH|apply zAB|apply zAF|apply w0|(apply zSI;exact rfl;exact rfl;first|assumption|omega)|(apply Y_eqsT;exact rfl;exact rfl;assumption)|(refine zC5 (by kernel_rfl) ?_;refine zA3 [0,1,2] zKv (hfr) ?_ rfl rfl (by decide) rfl rfl rfl rfl rfl rfl ?_;(repeat (refine zAL rfl ?_));exact zAS)|(apply aJ (hd:=rfl);(first|exact zAk rfl|exact Co_bb rfl rfl rfl|exact Co_nn rfl);exact rfl;(with_reducible exact zBw);assumption;omega;exact fun _=>rfl)|apply ay (hd:=rfl)|exact zAE rfl|exact zAC rfl|(apply zAy;exact rfl;(with_reducible first|exact fl_0|exact fl_1|exact fl_2))|(apply zAg;exact rfl;(with_reducible first|exact zAn|exact zJW|exact zAv))|exact zAZ rfl|exact zAK rfl|apply zAI|apply zAP|apply zAM|refine zA6 (by kernel_rfl) (by kernel_rfl) ?_|apply en_r|apply eb_r
      exact zAq (zAO (zAA rfl zAa) (zAD rfl rfl (zAD rfl rfl (zAD rfl rfl zAN))) rfl rfl)
    · skip
      repeat' first | apply en_n|apply zAH|apply zAB|apply zAF|apply w0|(apply zSI;exact rfl;exact rfl;first|assumption|omega)|(apply Y_eqsF;exact rfl;exact rfl;assumption)|(apply aJ (hd:=rfl);(first|exact zAk rfl|exact Co_bb rfl rfl rfl|exact Co_nn rfl);exact rfl;(with_reducible exact zBw);assumption;omega;exact fun _=>rfl)|apply ay (hd:=rfl)|exact zAE rfl|exact zAC rfl|(apply zAy;exact rfl;(with_reducible exact fl_0))|(apply zAg;exact rfl;(with_reducible exact zAv))|exact zIj rfl rfl|exact zAK rfl|exact zAQ rfl|apply zAI|apply zAP|apply eb_n
      · omega
      · refine ⟨i,⟨by omega,fun k u hk hu=>?_⟩,by omega,zAO (zAA rfl (zAA rfl (zAA rfl (zAA rfl zAa)))) (zAD rfl rfl (zAD rfl rfl (zAD rfl rfl zAN))) rfl rfl⟩
        rcases Nat.lt_or_ge i k with h1 | h1
        · exact hn k u (by omega) hu
        · rw [show k = i by omega,hl] at hu;injection hu with hu;subst hu;exact decide_eq_false hx
end Go.Proofs.YtblomnkamngnbaaGreatDoor
namespace Go.Sx
open Go.RowKit
section
variable {C : Ctx} {ops : Array Oper} {rest : List Oper} {K : Sl → List Ob → Prop} {σ : Sl} {η : List Ob} {d : Nat} {ty ty2 : TypeId} {pos pos2 : String} {after after2 : Array Edge} {t : TypeId} {x y : Operand}
theorem zMF {id m k e : Nat} {z : Value} {xs : List D} (hx : oval σ x = .buf id m) (hy : oval σ y = .d (.val (.int .i64 (k : Int)))) (ho : η[id]? = some (.buf true e 1 xs)) (hm : m = xs.length) (hk : k < m) (hs : zBG C.P t = some 1) (he : zB3 C.P t = some e) (hz : zBm C.P e = some [z]) (hd : Nat.blt d C.N = true) (hro : Nat.ble C.ro id = true)
    (h : alex C false ops rest K ((d,.top) :: σ) (η.set id (.buf true e 1 (xs.take k ++ List.replicate (m - k) (.val z))))) :
    alex C false ops (⟨some d,.slice t x (some y) none none,ty,pos,after,none⟩ :: ⟨none,.call ⟨.builtin .clear,#[.tmp d],#[t]⟩,ty2,pos2,after2,none⟩ :: rest) K σ η:=by
  subst hm
  intro Q hQ a w hab
  refine wpList_step fun K' hK'=>?_
  obtain ⟨g,ha⟩:=hab
  rw [if_pos (by rfl)]
  obtain ⟨e',i,hu,hi',hsz⟩:=zBl hs
  have : e' = e:=by have:=zB6 he;rw [hu] at this;injection this with this;injection this
  subst this
  have hxr:=ha.eval x;rw [hx] at hxr
  obtain ⟨hid,hxv⟩:=hxr
  have hyr:=RepD.val_eq (show RepD g.St w _ _ from (hy ▸ ha.eval y))
  obtain ⟨o1,o2,o3,o4,o5⟩:=ha.inv.ob id _ ho
  obtain ⟨b,us,h1,h2,h3,h4,h5,h6⟩ : ∃ b us,g.blk id = some b ∧ w.heap[b]? = some (.cells us e' (0,0)) ∧ us.size = g.cap id * 1 ∧
        (∀ (j : Nat) (u : Value),j < xs.length * 1 → us[j]? = some u → u.oneCell' = true) ∧
        (∀ (j : Nat) (u : Value) (d : D),us[j]? = some u → (zB1 xs)[j]? = some d → RepD g.St w u d) ∧
        (∀ o,g.St b o ↔ (true = false ∧ o < xs.length * 1)):=by
    rcases o5 with ⟨q1,q2⟩ | h
    · omega
    · exact h
  rw [h1] at hxv
  simp only [Option.map_some] at hxv
  have hsl:=zFs hu hi' (some (⟨b,0,none⟩ : Addr)) xs.length (g.cap id) k xs.length (some (.int .i64 (k : Int))) none (.inr ⟨.i64,rfl⟩) (.inl ⟨rfl,rfl⟩) (by omega) o4 w
  rw [if_neg (by omega),hsz,Nat.mul_one] at hsl
  have hrun1 : (execOp a.eval ⟨some d,.slice t x (some y) none none,ty,pos,after,none⟩).run C.P w = .ok (.value (.slice (some ⟨b,k,none⟩) (xs.length - k) (g.cap id - k))) w:=by
    simp only [execOp,hxv,hyr,Sem.run_bind,Sem.run_pure,Option.map_some,Option.map_none,hsl,Result.andThen_ok]
    simp [Addr.add_lit]
  unfold Oper.wp
  rw [hrun1]
  refine hK' _ _ ?_
  refine wpList_step fun K2 hK2=>?_
  rw [if_pos (by rfl)]
  obtain ⟨zo1,zz,zo2,zo3⟩:=zFR hz
  have hz1:=zo1 z (by simp)
  have hzc : (Builtin.zeroCells zz.cells (xs.length - k)).toList = List.replicate (xs.length - k) z:=by
    have : zz.cells = #[z]:=by apply Array.ext';rw [zo2]
    rw [this]
    simp [Builtin.zeroCells]
    apply List.ext_getElem
    · simp
    · intro i h1 h2
      simp [Nat.mod_one]
  have hst:=run_storeCells_at C.P b k e' (List.replicate (xs.length - k) z) 0 us w h2 (by simp;omega) (fun v hv=>by rw [List.eq_of_mem_replicate hv];exact hz1)
  simp only [Nat.add_zero,List.length_replicate] at hst
  have hev : (a.put (some d) (.slice (some ⟨b,k,none⟩) (xs.length - k) (g.cap id - k))).eval (.tmp d) = .slice (some ⟨b,k,none⟩) (xs.length - k) (g.cap id - k):=by
    have hdl : d < C.N:=by simpa using hd
    have:=ha.size
    simp only [Act.put,Act.eval]
    rw [Array.getD_eq_getD_getElem?,Array.getElem?_setIfInBounds_self_of_lt (by omega)];rfl
  have hne : xs.length - k ≠ 0:=by omega
  obtain ⟨nn,hnn⟩ : ∃ nn,xs.length - k = nn + 1:=⟨xs.length - k - 1,by omega⟩
  have hcl : (Builtin.clear_ #[t] ty2 #[.slice (some ⟨b,k,none⟩) (xs.length - k) (g.cap id - k)]).run C.P w = .ok (.tuple #[]) (w.setRow b (us.toList.take k ++ List.replicate (xs.length - k) z ++ us.toList.drop (k + (xs.length - k))).toArray):=by
    rw [hnn] at hzc hst ⊢
    simp [Builtin.clear_,run_underlying hu,zo3,hzc,hst]
  have hrun2 : (execOp (a.put (some d) (.slice (some ⟨b,k,none⟩) (xs.length - k) (g.cap id - k))).eval ⟨none,.call ⟨.builtin .clear,#[.tmp d],#[t]⟩,ty2,pos2,after2,none⟩).run C.P w = .ok (.value (.tuple #[])) (w.setRow b (us.toList.take k ++ List.replicate (xs.length - k) z ++ us.toList.drop (k + (xs.length - k))).toArray):=by
    simp only [execOp,resolve,invoke,builtin,Sem.run_bind,Sem.run_pure,Result.andThen_ok,List.map_toArray,List.map_cons,List.map_nil,hev,hcl]
  unfold Oper.wp
  rw [hrun2]
  refine hK2 _ _ ?_
  refine h Q hQ _ _ ?_
  have hset : ∀ x ∈ xs.take k ++ List.replicate (xs.length - k) (D.val z),x.flat.length = 1:=fun x hx=>by
    rcases List.mem_append.1 hx with h | h
    · exact o2 x (List.mem_of_mem_take h)
    · rw [List.eq_of_mem_replicate h];rfl
  have hkl : (us.toList.take k).length = k:=by rw [List.length_take,Array.length_toList];omega
  have hw:=ha.writeBuf (us':=(us.toList.take k ++ List.replicate (xs.length - k) z ++ us.toList.drop (k + (xs.length - k))).toArray) (xs':=xs.take k ++ List.replicate (xs.length - k) (.val z)) ho (Nat.le_of_ble_eq_true hro) h1 h2 (fun o hc=>by have:=(h6 o).1 hc;cases this.1) hset (by simp;omega) (by simp;omega) h3
    (fun j u hj hu=>?_) (fun j u d' hu hd'=>?_)
  · exact ⟨g,hw.put (d:=some d) (v:=.slice (some ⟨b,k,none⟩) (xs.length - k) (g.cap id - k)) (s:=.top) hd trivial⟩
  · rw [List.getElem?_toArray] at hu
    have hjl : j < xs.length:=by simp at hj;omega
    rcases Nat.lt_or_ge j k with hjk | hjk
    · rw [List.append_assoc,List.getElem?_append_left (by omega),List.getElem?_take,if_pos hjk,Array.getElem?_toList] at hu
      exact h4 j u (by omega) hu
    · rw [List.append_assoc,List.getElem?_append_right (by omega),hkl,List.getElem?_append_left (by simp;omega),List.getElem?_replicate] at hu
      split at hu
      · injection hu with hu;subst hu;exact hz1
      · cases hu
  · rw [List.getElem?_toArray] at hu
    rw [zCR,zDR o2,Nat.mul_one] at hd'
    have hfl : (zB1 xs).length = xs.length:=by rw [zBg o2,Nat.mul_one]
    have hfk : ((zB1 xs).take k).length = k:=by rw [List.length_take];omega
    have hfr : zB1 (List.replicate (xs.length - k) (D.val z)) = List.replicate (xs.length - k) (D.val z):=by
      generalize xs.length - k = q
      induction q with
      | zero=>rfl
      | succ q ih=>rw [List.replicate_succ,zB1,List.flatMap_cons,← zB1,ih];rfl
    rcases Nat.lt_or_ge j k with hjk | hjk
    · rw [List.append_assoc,List.getElem?_append_left (by omega),List.getElem?_take,if_pos hjk,Array.getElem?_toList] at hu
      rw [List.getElem?_append_left (by omega),List.getElem?_take,if_pos hjk] at hd'
      exact h5 j u d' hu hd'
    · rw [List.getElem?_append_right (by omega),hfk,hfr,List.getElem?_replicate] at hd'
      split at hd'
      · rename_i hlt
        injection hd' with hd';subst hd'
        rw [List.append_assoc,List.getElem?_append_right (by omega),hkl,List.getElem?_append_left (by simp;omega),List.getElem?_replicate,if_pos hlt] at hu
        injection hu with hu;subst hu;exact .val z
      · cases hd'
end
end Go.Sx
namespace Go.Proofs.YtblomnkamngnbaaGreatDoor
open Go.Sx
attribute [local irreducible] zAT Program.underlying Ylds zBA alex zBc zBO awp zAj zBX RCall zA2 zBH zBQ zA8 zBT zBZ zBd zBr zBN zEE VCall
theorem zTK (A : List Int) (b : Int) (hL : A.length ≤ 2000000) : zBH Tryz.prog 72 [.buf 0 A.length,.d (i64 b)] [.buf true 3 1 (A.map ival)] (i64 (idxF A b)):=by
  refine zBu Tryz.func72 rfl Tryz.ntmps72 Tryz.results72 rfl ?_
  intro wb St0
  repeat' first | apply en_n|apply zAH|apply zAB|apply zAF|apply w0|apply ay (hd:=rfl)|exact zAE rfl|exact zAC rfl|exact zAw rfl|(apply zCo;exact rfl;(with_reducible exact zBt))|apply zAI
  refine zAr (α:=Nat) (fun i=>i ≤ A.length ∧ ∀ j,j < i → A[j]? ≠ some b) (fun i=>[(0,.buf 0 A.length),(1,.d (i64 b)),(7,.d (i64 (A.length : Int))),(8,.d (i64 (i : Int)))]) (fun _=>[.buf true 3 1 (A.map ival)]) (fun i=>A.length - i) 0 ⟨Nat.zero_le _,by omega⟩
      (zAO (zAA rfl (zAA rfl (Le_d rfl rfl (zAA rfl zAa)))) (zAu rfl rfl rfl zAN) rfl rfl) ?_
  rintro i ⟨hi1,hi2⟩
  rcases Nat.lt_or_ge i A.length with hlt | hge
  · have hx : A[i]? = some A[i]:=List.getElem?_eq_getElem hlt
    generalize A[i] = v at hx
    have hxm : (A.map ival)[((i : Nat) : Int).toNat]? = some (ival v):=by rw [Int.toNat_natCast,List.getElem?_map,hx];rfl
    have hml : A.length ≤ (A.map ival).length:=by rw [List.length_map];exact Nat.le_refl _
    by_cases hbv : b = v
    · skip
      repeat' first | apply en_n|apply zAH|apply zAB|apply zAF|apply w0|(apply zA5;exact rfl;exact rfl;first|assumption|omega)|(apply zBD;exact rfl;exact rfl;first|assumption|omega)|(refine zDc rfl rfl rfl zA7 ?_ ?_)|(refine zEH rfl zAs rfl hxm rfl)|apply ay (hd:=rfl)|exact zAE rfl|exact zAC rfl|exact zAw rfl|exact zAK rfl|apply zAI|apply zAP|apply zAM|apply en_r|apply eb_r|apply zAJ|exact res1 rfl
      all_goals first | omega | assumption | skip
      subst hbv;rw [zLy hi2 hx]
    · skip
      repeat' first | apply en_n|apply zAH|apply zAB|apply zAF|apply w0|(apply zA5;exact rfl;exact rfl;first|assumption|omega)|(apply zA9;exact rfl;exact rfl;first|assumption|omega)|(refine zDc rfl rfl rfl zA7 ?_ ?_)|(refine zEH rfl zAs rfl hxm rfl)|apply ay (hd:=rfl)|exact zAE rfl|exact zAC rfl|exact zBC rfl rfl|exact zAw rfl|exact zAK rfl|exact zAQ rfl|apply zAI|apply zAP|apply eb_n
      all_goals first | omega | assumption | skip
      refine ⟨i + 1,⟨by omega,fun j hj=>?_⟩,by omega,zAO (zAA rfl (zAA rfl (zAA rfl (zAA rfl zAa)))) (zAu rfl rfl rfl zAN) rfl rfl⟩
      rcases Nat.lt_or_ge j i with h1 | h1
      · exact hi2 j h1
      · rw [show j = i by omega];intro h2;exact hbv (Option.some.inj (h2.symm.trans hx))
  · skip
    repeat' first | apply en_n|apply zAH|apply zAB|apply zAF|apply w0|(apply zBn;exact rfl;exact rfl;first|assumption|omega)|apply ay (hd:=rfl)|exact zAC rfl|exact zAQ rfl|apply zAM|apply zAt|apply en_e|apply eb_e|apply zAJ|exact res1 rfl
    rw [zFa];intro h1
    obtain ⟨j,hj,h2⟩:=List.getElem_of_mem h1
    exact hi2 j (by omega) (by rw [List.getElem?_eq_getElem hj,h2])
theorem zOI (A : List Int) (b : Int) (hL : A.length ≤ 2000000) : zBH Tryz.prog 118 [.buf 0 A.length,.d (i64 b)] [.buf true 3 1 (A.map ival)] (bl (decide (b ∈ A))):=by
  have hi:=zTK A b hL
  refine zBu Tryz.func118 rfl Tryz.ntmps118 Tryz.results118 rfl ?_
  intro wb St0
  repeat' first | apply en_n|apply zAH|apply zAB|apply zAF|apply w0|(refine zBB [0] [] rfl rfl zGS (hi) rfl ?_ rfl (by decide) rfl rfl rfl rfl;(repeat (refine zAL rfl ?_));exact zAS)|apply ay (hd:=rfl)|exact zAE rfl|exact zAC rfl|exact zEO rfl rfl|exact zAw rfl|apply zAM|apply zAJ|exact res1 rfl
  by_cases h : b ∈ A
  · rw [decide_eq_true h];have:=zLx h;rw [decide_eq_true (show idxF A b ≥ 0 by omega)]
  · rw [decide_eq_false h,zFa h];rfl
set_option maxHeartbeats 1000000 in
theorem zRk (L : List Nd) (hL : L.length ≤ 2000000) : zBX Tryz.prog 71 [zAc L] (zC9 L).length 3 1 ((zC9 L).map ival):=by
  refine zJ4 Tryz.func71 rfl Tryz.ntmps71 Tryz.results71 rfl (zCC fun _=>rfl) ?_
  intro wb St0
  repeat' first | apply en_n|apply zAH|apply zAB|apply zAF|apply w0|(refine zAV zCH (zCO L hL) (zAX rfl zAG))|apply ay (hd:=rfl)|exact zAE rfl|(apply zAl;exact rfl;(with_reducible exact zA0))|exact zD6 rfl rfl|exact zAb rfl|(apply zAz;exact rfl;(intro hb);rotate_left;(intro hb);rotate_right)|apply zAI|apply zAP|apply zAM|apply en_r
  · have h0 : zC9 L = []:=by
      unfold zC9;rw [if_neg];intro h;apply hb;rw [ckT,if_pos h]
    rw [h0]
    exact zGX ⟨_,rfl,.inl ⟨rfl,rfl,rfl⟩⟩
  · have hok : okT L = true:=by
      cases h : okT L with
      | true=>rfl
      | false=>exfalso;have:=hb;simp [ckT,h] at this
    have h4:=(zFt hok).1
    refine zCE 3 true 3 1 rfl rfl ?_
    refine zAr (α:=Nat) (fun i=>i ≤ L.length) (fun i=>[(0,.d (zAc L)),(3,.buf 0 (zCU (L.take i)).length),(9,.d (zAc L)),(10,.d (i64 (L.length : Int))),(11,.d (i64 (i : Int)))]) (fun i=>[.buf true 3 1 ((zCU (L.take i)).map ival)]) (fun i=>L.length - i) 0 (Nat.zero_le _)
      (zAO (zAA rfl (zBq rfl rfl (zAA rfl (Le_d rfl rfl (zAA rfl zAa))))) (zAu rfl rfl rfl zAN) rfl rfl) ?_
    intro i hi
    have hbd:=zHT (L:=L) i hL
    repeat' first | apply en_n|apply zAH|apply zAB|apply zAF|apply w0|(apply k1u (hd:=rfl);exact rfl;exact rfl)|(refine zBB [0] [] rfl rfl zFF (zOI (zCU (L.take i)) v.num hbd) rfl ?_ rfl (by decide) rfl rfl rfl rfl;(repeat (refine zAL rfl ?_));exact zAS)|(apply aApp (id:=0) (hd:=rfl) (hro:=rfl);exact rfl;exact rfl;exact zAk rfl;exact (by rw [List.length_map]);exact rfl;exact zCw;exact zA7;exact zIl;exact zG4;exact zCA rfl)|(apply aI (hd:=rfl);(first|exact zAk rfl|exact Co_bb rfl rfl rfl|exact Co_nn rfl);exact rfl;(with_reducible exact zAW);exact fun _=>rfl;rotate_left;intro v hv;rotate_right)|(apply zA4 (hd:=rfl) (hro:=rfl);(with_reducible exact zAp))|apply ay (hd:=rfl)|exact zAE rfl|(apply zAf;exact rfl;(with_reducible exact zAY);exact rfl)|exact zCQ rfl rfl|exact zCz rfl rfl|exact zBC rfl rfl|exact zBo rfl|exact zAi rfl rfl|exact zAh rfl rfl|exact zAw rfl|exact zAm rfl|(apply zAR;exact rfl;(with_reducible first|exact fn_0|exact fn_2))|(apply zAU;exact rfl;(with_reducible first|exact zAe|exact zBI);exact rfl;exact rfl)|(apply zB8;(with_reducible exact zCw);(with_reducible exact zA7);(with_reducible exact zIk);exact rfl;exact rfl;(first|exact zAX rfl zAG|exact zCx rfl rfl rfl zAG|exact zDB rfl zAG);exact rfl)|exact w1 rfl rfl|(apply gD;exact rfl;exact rfl;(intro hb);rotate_left;(intro hb);rotate_right)|(refine w0' ?_)|(apply zAx;exact rfl;exact rfl;exact rfl;(with_reducible exact zAY);exact rfl;exact rfl;exact rfl;exact rfl)|(apply zAz;exact rfl;(intro hb);rotate_left;(intro hb);rotate_right)|(apply zIb;exact rfl;(intro hb);rotate_left;(intro hb);rotate_right)|exact zAQ rfl|apply zAI|apply zAP|apply zAM|apply zAt|apply en_e|apply eb_n|apply eb_e
    all_goals first | omega | skip
    · simp only [List.length_cons,List.length_nil];omega
    · have hk : v.kind = 31:=‹_›
      have e : zCU (L.take (i + 1)) = zCU (L.take i) ++ [v.num]:=by rw [zDq (i:=i) hv,addV,if_pos ⟨hk,hb⟩]
      exact ⟨i + 1,by omega,by omega,zAO (zAA rfl (zBq rfl (by rw [e];simp) (zAA rfl (zAA rfl (zAA rfl zAa))))) (zAu rfl rfl (by rw [e,List.map_append];rfl) zAN) rfl rfl⟩
    · have e : zCU (L.take (i + 1)) = zCU (L.take i):=by rw [zDq (i:=i) hv,addV,if_neg (fun h=>h.2 hb)]
      exact ⟨i + 1,by omega,by omega,zAO (zAA rfl (zBq rfl (by rw [e]) (zAA rfl (zAA rfl (zAA rfl zAa))))) (zAu rfl rfl (by rw [e]) zAN) rfl rfl⟩
    · have e : zCU (L.take (i + 1)) = zCU (L.take i):=by rw [zDq (i:=i) hv,addV,if_neg (fun h=>hb h.1)]
      exact ⟨i + 1,by omega,by omega,zAO (zAA rfl (zBq rfl (by rw [e]) (zAA rfl (zAA rfl (zAA rfl zAa))))) (zAu rfl rfl (by rw [e]) zAN) rfl rfl⟩
    · have e : zC9 L = zCU (L.take i):=by rw [zC9,if_pos hok,List.take_of_length_le (by omega)]
      rw [e]
      exact zGX ⟨_,rfl,.inr ⟨0,rfl,rfl⟩⟩
theorem zQO (A : List Int) (b : Int) (hL : A.length ≤ 1000000000) : zAj Tryz.prog 72 [zBj A,i64 b] (i64 (idxF A b)):=by
  refine zAd Tryz.func72 rfl Tryz.ntmps72 Tryz.results72 rfl ?_
  intro wb St0
  repeat' first | apply en_n|apply zAH|apply zAB|apply zAF|apply w0|apply ay (hd:=rfl)|exact zAE rfl|exact zAC rfl|(apply zAl;exact rfl;(with_reducible exact zBt))|apply zAI
  refine zAr (α:=Nat) (fun i=>i ≤ A.length ∧ ∀ j,j < i → A[j]? ≠ some b) (fun i=>[(0,.d (zBj A)),(1,.d (i64 b)),(7,.d (i64 (A.length : Int))),(8,.d (i64 (i : Int)))]) (fun _=>[]) (fun i=>A.length - i) 0 ⟨Nat.zero_le _,by omega⟩
      (zAO (zAA rfl (zAA rfl (Le_d rfl rfl (zAA rfl zAa)))) zAN rfl rfl) ?_
  rintro i ⟨hi1,hi2⟩
  repeat' first | apply en_n|apply zAH|apply zAB|apply zAF|apply w0|(apply aI (hd:=rfl);(first|exact zAk rfl|exact Co_bb rfl rfl rfl|exact Co_nn rfl);exact rfl;(with_reducible exact zA7);exact fun _=>rfl;rotate_left;intro v hv;rotate_right)|apply ay (hd:=rfl)|exact zAE rfl|exact zAC rfl|(apply zAg;exact rfl;(with_reducible exact zAs))|exact zCQ rfl rfl|exact zCz rfl rfl|exact zBC rfl rfl|(apply zAz;exact rfl;(intro hb);rotate_left;(intro hb);rotate_right)|apply zAI|apply zAP|apply zAM|apply zAt|apply en_r|apply en_e|apply eb_n|apply eb_r|apply eb_e|apply zAJ|exact res1 rfl
  · omega
  · subst hb;rw [zLy hi2 hv]
  · omega
  · refine ⟨i + 1,⟨by omega,fun j hj=>?_⟩,by omega,zAO (zAA rfl (zAA rfl (zAA rfl (zAA rfl zAa)))) zAN rfl rfl⟩
    rcases Nat.lt_or_ge j i with h1 | h1
    · exact hi2 j h1
    · rw [show j = i by omega];intro h2;exact hb (Option.some.inj (h2.symm.trans hv))
  · rw [zFa];intro h1
    obtain ⟨j,hj,h2⟩:=List.getElem_of_mem h1
    exact hi2 j (by omega) (by rw [List.getElem?_eq_getElem hj,h2])
theorem zLf (A : List Int) (b : Int) (hL : A.length ≤ 1000000000) : zAj Tryz.prog 118 [zBj A,i64 b] (bl (decide (b ∈ A))):=by
  refine zAd Tryz.func118 rfl Tryz.ntmps118 Tryz.results118 rfl ?_
  intro wb St0
  repeat' first | apply en_n|apply zAH|apply zAB|apply zAF|apply w0|(apply zAV (hb:=zGS) (hc:=zQO A b hL))|apply ay (hd:=rfl)|exact zAE rfl|exact zAC rfl|exact zEO rfl rfl|apply zAM|apply zAJ|exact res1 rfl|exact zAG|refine zAX rfl ?_
  by_cases h : b ∈ A
  · rw [decide_eq_true h];have:=zLx h;rw [decide_eq_true (show idxF A b ≥ 0 by omega)]
  · rw [decide_eq_false h,zFa h];rfl
abbrev bdO (b : List Int) : List Ob:=[.box [.buf 1 (b.map ival).length],.buf false 3 1 (b.map ival)]
theorem zP2 (b : List Int) (hb : b.length ≤ 1000000000) (v : Int) : zBH Tryz.prog 117 [.d (i64 v),.ptr 0 0] (bdO b) (bl (decide (v ∈ b))):=by
  have hc:=zLf b v hb
  refine zBu Tryz.func117 rfl Tryz.ntmps117 Tryz.results117 rfl ?_
  intro wb St0
  repeat' first | apply en_n|apply zAH|apply zAB|apply zAF|apply w0|(refine zAV zFF hc (zCx rfl rfl rfl (zAX rfl zAG)))|apply ay (hd:=rfl)|exact zAE rfl|exact zAC rfl|(apply zAU;exact rfl;(with_reducible exact zJW);exact rfl;exact rfl)|apply zAM|apply zAJ|exact res1 rfl
  rfl
abbrev dfO (xs : List D) (b : List Int) : List Ob:=[.buf true 3 1 xs,.box [.buf 2 (b.map ival).length],.buf false 3 1 (b.map ival)]
theorem zUW (vs b : List Int) (hv : vs.length ≤ 2000000) (hb : b.length ≤ 1000000000) :
    zBH Tryz.prog 135 [.buf 0 vs.length,.clo 117 [1]] (dfO (vs.map ival) b) (i64 (idxP (fun v=>decide (v ∈ b)) vs)):=by
  refine zBu Tryz.func135 rfl Tryz.ntmps135 Tryz.results135 rfl ?_
  intro wb St0
  repeat' first | apply en_n|apply zAH|apply zAB|apply zAF|apply w0|apply ay (hd:=rfl)|exact zAE rfl|exact zAC rfl|exact zAw rfl|(apply zCo;exact rfl;(with_reducible exact zBt))|apply zAI
  refine zAr (α:=Nat) (fun i=>i ≤ vs.length ∧ ∀ (j : Nat) u,j < i → vs[j]? = some u → decide (u ∈ b) = false) (fun i=>[(0,.buf 0 vs.length),(1,.clo 117 [1]),(7,.d (i64 (vs.length : Int))),(8,.d (i64 (i : Int)))]) (fun _=>dfO (vs.map ival) b) (fun i=>vs.length - i) 0 ⟨Nat.zero_le _,fun j u h=>by omega⟩
    (zAO (zAA rfl (zAA rfl (Le_d rfl rfl (zAA rfl zAa)))) (zAu rfl rfl rfl (zAD rfl rfl (zAu rfl rfl rfl zAN))) rfl rfl) ?_
  rintro i ⟨hi1,hi2⟩
  rcases Nat.lt_or_ge i vs.length with hlt | hge
  · have hx : vs[i]? = some vs[i]:=List.getElem?_eq_getElem hlt
    generalize vs[i] = v at hx
    have hxm : (vs.map ival)[((i : Nat) : Int).toNat]? = some (ival v):=by rw [Int.toNat_natCast,List.getElem?_map,hx];rfl
    have ha:=zP2 b hb v
    skip
    repeat' first | apply en_n|apply zAH|apply zAB|apply zAF|apply w0|(apply zA5;exact rfl;exact rfl;first|assumption|omega)|exact zBF rfl|(refine zDc rfl rfl rfl zA7 ?_ ?_)|(refine zEH rfl zAs rfl hxm rfl)|(refine zBB [1,2] [0] rfl rfl zL1 (ha) rfl ?_ rfl (by decide) rfl rfl rfl rfl;(repeat (refine zAL rfl ?_));exact zAS)|apply ay (hd:=rfl)|exact zAE rfl|exact zAC rfl|exact zBC rfl rfl|exact zAw rfl|(apply zAz;exact rfl;(intro hb);rotate_left;(intro hb);rotate_right)|exact zAK rfl|apply zAI|apply zAP|apply zAM|apply en_r|apply eb_n|apply eb_r|apply zAJ|exact res1 rfl
    all_goals first | omega | skip
    · rw [List.length_map];exact Nat.le_refl _
    · exact zCl (zFb hi2 hx (decide_eq_true ‹_›)).symm
    · refine ⟨i + 1,⟨by omega,fun j u hj hu=>?_⟩,by omega,zAO (zAA rfl (zAA rfl (zAA rfl (zAA rfl zAa)))) (zAu rfl rfl rfl (zAD rfl rfl (zAu rfl rfl rfl zAN))) rfl rfl⟩
      rcases Nat.lt_or_ge j i with h1 | h1
      · exact hi2 j u h1 hu
      · rw [show j = i by omega,hx] at hu;injection hu with hu;subst hu;exact decide_eq_false ‹_›
  · skip
    repeat' first | apply en_n|apply zAH|apply zAB|apply zAF|apply w0|(apply zBn;exact rfl;exact rfl;first|assumption|omega)|apply ay (hd:=rfl)|exact zAC rfl|exact zAQ rfl|apply zAM|apply zAt|apply en_e|apply eb_e|apply zAJ|exact res1 rfl
    exact zCl (zDa fun j u hu=>hi2 j u (by have:=(List.getElem?_eq_some_iff.1 hu).1;omega) hu).symm
def kept (vs b : List Int) : List Int:=vs.filter fun v=>!decide (v ∈ b)
theorem zFD {vs b : List Int} {j : Nat} {v : Int} (h : vs[j]? = some v) : kept (vs.take (j + 1)) b = kept (vs.take j) b ++ (if v ∈ b then [] else [v]):=by
  unfold kept
  rw [List.take_add_one,h,Option.toList_some,List.filter_append]
  congr 1
  by_cases hv : v ∈ b <;> simp [hv]
theorem zMx (vs b : List Int) : (kept vs b).length ≤ vs.length:=List.length_filter_le _ _
theorem zKo {vs b : List Int} (h : ∀ (j : Nat) u,vs[j]? = some u → decide (u ∈ b) = false) : kept vs b = vs:=by
  unfold kept
  refine List.filter_eq_self.2 fun u hu=>?_
  obtain ⟨j,hj⟩:=List.mem_iff_getElem?.1 hu
  rw [h j u hj];rfl
structure DfI (vs b : List Int) (j : Nat) (R : List Int) : Prop where
  len : R.length = vs.length
  k : (kept (vs.take j) b).length < j
  jl : j ≤ vs.length
  pre : R.take (kept (vs.take j) b).length = kept (vs.take j) b
  rest : ∀ i,j ≤ i → R[i]? = vs[i]?
theorem DfI.keep {vs b : List Int} {j : Nat} {R : List Int} (h : DfI vs b j R) {v : Int} (hv : vs[j]? = some v) (hb : v ∉ b) : DfI vs b (j + 1) (R.set (kept (vs.take j) b).length v):=by
  have e:=zFD (b:=b) hv
  rw [if_neg hb] at e
  have hk:=h.k
  have hj:=(List.getElem?_eq_some_iff.1 hv).1
  refine ⟨by rw [List.length_set];exact h.len,by rw [e];simp;omega,hj,?_,fun i hi=>?_⟩
  · rw [e,List.length_append,List.length_singleton,List.take_add_one,List.getElem?_set_self (by rw [h.len];omega),List.take_set_of_le (Nat.le_refl _),h.pre];rfl
  · rw [List.getElem?_set_ne (by omega)];exact h.rest i (by omega)
theorem DfI.drop {vs b : List Int} {j : Nat} {R : List Int} (h : DfI vs b j R) {v : Int} (hv : vs[j]? = some v) (hb : v ∈ b) : DfI vs b (j + 1) R:=by
  have e:=zFD (b:=b) hv
  rw [if_pos hb,List.append_nil] at e
  have hk:=h.k
  have hj:=(List.getElem?_eq_some_iff.1 hv).1
  exact ⟨h.len,by rw [e];omega,hj,by rw [e];exact h.pre,fun i hi=>h.rest i (by omega)⟩
theorem DfI.start {vs b : List Int} {i : Nat} {v : Int} (hi : vs[i]? = some v) (hv : v ∈ b) (hn : ∀ (j : Nat) u,j < i → vs[j]? = some u → decide (u ∈ b) = false) : DfI vs b (i + 1) vs ∧ (kept (vs.take (i + 1)) b).length = i:=by
  have e:=zFD (b:=b) hi
  rw [if_pos hv,List.append_nil] at e
  have hl:=(List.getElem?_eq_some_iff.1 hi).1
  have e2 : kept (vs.take i) b = vs.take i:=zKo fun j u hu=>by
    rw [List.getElem?_take] at hu
    split at hu
    · exact hn j u ‹_› hu
    · cases hu
  have e3 : (kept (vs.take (i + 1)) b).length = i:=by rw [e,e2,List.length_take];omega
  exact ⟨⟨rfl,by omega,hl,by rw [e3,e,e2],fun _ _=>rfl⟩,e3⟩
theorem zNs {α : Type} {p : α → Bool} {L : List α} : (idxP p L = -1 ∧ ∀ (j : Nat) u,L[j]? = some u → p u = false) ∨ ∃ (i : Nat) (v : α),idxP p L = i ∧ L[i]? = some v ∧ p v = true ∧ ∀ (j : Nat) u,j < i → L[j]? = some u → p u = false:=by
  cases h : L.findIdx? p with
  | none =>
    rw [List.findIdx?_eq_none_iff] at h
    exact .inl ⟨zDa fun j u hu=>h u (List.mem_of_getElem? hu),fun j u hu=>h u (List.mem_of_getElem? hu)⟩
  | some i =>
    obtain ⟨h1,h2,h3⟩:=List.findIdx?_eq_some_iff_getElem.1 h
    refine .inr ⟨i,L[i],by rw [idxP,h],List.getElem?_eq_getElem h1,h2,fun j u hj hu=>?_⟩
    obtain ⟨h4,rfl⟩:=List.getElem?_eq_some_iff.1 hu
    simpa using h3 j hj
set_option maxHeartbeats 2000000 in
theorem zTM (vs b : List Int) (hv : vs.length ≤ 1000000) (hb : b.length ≤ 1000000000) :
    zA2 Tryz.prog 116 [.buf 0 vs.length,.clo 117 [1]] (dfO (vs.map ival) b) (.buf 0 (kept vs b).length) (dfO ((kept vs b).map ival ++ List.replicate (vs.length - (kept vs b).length) (ival 0)) b):=by
  have hix:=zUW vs b (by omega) (by omega)
  rcases zNs (p:=fun v=>decide (v ∈ b)) (L:=vs) with ⟨h1,h2⟩ | ⟨i,v,h1,h2,h3,h4⟩
  · rw [zKo h2,Nat.sub_self,List.replicate_zero,List.append_nil]
    rw [h1] at hix
    refine zA1 Tryz.func116 rfl Tryz.ntmps116 Tryz.results116 rfl rfl rfl ?_
    intro wb St0 X fx
    repeat' first | apply en_n|apply zAH|apply zAB|apply zAF|apply w0|(apply zBD;exact rfl;exact rfl;first|assumption|omega)|exact zBF rfl|(refine zBB [0,1,2] [] rfl rfl zR6 (hix) rfl ?_ rfl (by decide) rfl rfl rfl rfl;(repeat (refine zAL rfl ?_));exact zAS)|apply ay (hd:=rfl)|exact zAE rfl|exact zAC rfl|exact zAb rfl|exact zAw rfl|exact zAm rfl|exact zAK rfl|apply zAM|apply en_r
    exact zAq (zAO (zAA rfl zAa) (zAu rfl rfl rfl (zAD rfl rfl (zAu rfl rfl rfl zAN))) rfl rfl)
  · rw [h1] at hix
    have h3 : v ∈ b:=by simpa using h3
    obtain ⟨hI0,hI1⟩:=DfI.start h2 h3 h4
    have hil:=(List.getElem?_eq_some_iff.1 h2).1
    clear h1 h4
    refine zA1 Tryz.func116 rfl Tryz.ntmps116 Tryz.results116 rfl rfl rfl ?_
    intro wb St0 X fx
    repeat' first | apply en_n|apply zAH|apply zAB|apply zAF|apply w0|(apply zA9;exact rfl;exact rfl;first|assumption|omega)|exact zBF rfl|(refine zBB [0,1,2] [] rfl rfl zR6 (hix) rfl ?_ rfl (by decide) rfl rfl rfl rfl;(repeat (refine zAL rfl ?_));exact zAS)|apply ay (hd:=rfl)|exact zAE rfl|exact zAC rfl|exact zBC rfl rfl|exact zAb rfl|exact zAw rfl|exact zAQ rfl|apply zAI|apply zAP
    all_goals first | omega | skip
    refine zAr (α:=Nat × List Int) (fun p=>DfI vs b p.1 p.2) (fun p=>[(0,.buf 0 vs.length),(1,.clo 117 [1]),(5,.d (i64 ((kept (vs.take p.1) b).length : Int))),(6,.d (i64 (p.1 : Int)))]) (fun p=>anch fx 0 (dfO (vs.map ival) b) (dfO (p.2.map ival) b)) (fun p=>vs.length - p.1) (i + 1,vs) hI0
      (zAO (zAA rfl (zAA rfl (Le_d rfl (by rw [hI1]) (Le_d rfl (by simp) zAa)))) (zAu rfl rfl rfl (zAD rfl rfl (zAu rfl rfl rfl zAN))) rfl rfl) ?_
    rintro ⟨j,R⟩ hI
    dsimp only at hI ⊢
    have hk:=hI.k
    have hj:=hI.jl
    have hRl:=hI.len
    rcases Nat.lt_or_ge j vs.length with hlt | hge
    · have hx : vs[j]? = some vs[j]:=List.getElem?_eq_getElem hlt
      generalize vs[j] = u at hx
      have hxm : (R.map ival)[((j : Nat) : Int).toNat]? = some (ival u):=by rw [Int.toNat_natCast,List.getElem?_map,hI.rest j (Nat.le_refl _),hx];rfl
      have hml : vs.length ≤ (R.map ival).length:=by rw [List.length_map];omega
      have ha:=zP2 b (by omega) u
      by_cases hub : u ∈ b
      · rw [decide_eq_true hub] at ha
        skip
        repeat' first | apply en_n|apply zAH|apply zAB|apply zAF|apply w0|(apply zA5;exact rfl;exact rfl;first|assumption|omega)|exact zBF rfl|(refine zDc rfl rfl rfl zA7 ?_ ?_)|(refine zEH rfl zAs rfl hxm rfl)|(refine zBB [1,2] [0] rfl rfl zL1 (ha) rfl ?_ rfl (by decide) rfl rfl rfl rfl;(repeat (refine zAL rfl ?_));exact zAS)|apply ay (hd:=rfl)|exact zAE rfl|exact zAC rfl|exact zBC rfl rfl|exact zBo rfl|exact zAw rfl|(apply zCo;exact rfl;(with_reducible exact zBt))|exact zAK rfl|exact zAQ rfl|apply zAI|apply zAP|apply eb_n
        all_goals first | omega | assumption | skip
        have e:=zFD (b:=b) hx
        rw [if_pos hub,List.append_nil] at e
        exact ⟨(j + 1,R),hI.drop hx hub,by show vs.length - (j + 1) < _;omega,zAO (zAA rfl (zAA rfl (Le_d rfl (by rw [e]) (zAA rfl zAa)))) (zAu rfl rfl rfl (zAD rfl rfl (zAu rfl rfl rfl zAN))) rfl rfl⟩
      · rw [decide_eq_false hub] at ha
        have hkl : (kept (vs.take j) b).length < vs.length:=by omega
        skip
        repeat' first | apply en_n|apply zAH|apply zAB|apply zAF|apply w0|(apply zA5;exact rfl;exact rfl;first|assumption|omega)|exact zBF rfl|(refine zDc rfl rfl rfl zA7 ?_ ?_)|(refine zEH rfl zAs rfl hxm rfl)|(refine zBB [1,2] [0] rfl rfl zL1 (ha) rfl ?_ rfl (by decide) rfl rfl rfl rfl;(repeat (refine zAL rfl ?_));exact zAS)|(refine zME rfl rfl rfl zAs rfl rfl ?_ rfl ?_)|apply ay (hd:=rfl)|exact zAE rfl|exact zAC rfl|exact zBC rfl rfl|exact zBo rfl|exact zAw rfl|(apply zCo;exact rfl;(with_reducible exact zBt))|(refine w0' ?_)|exact zAK rfl|apply zAI|apply zAP|apply eb_n
        all_goals first | omega | assumption | skip
        have e:=zFD (b:=b) hx
        rw [if_neg hub] at e
        exact ⟨(j + 1,R.set (kept (vs.take j) b).length u),hI.keep hx hub,by show vs.length - (j + 1) < _;omega,zAO (zAA rfl (zAA rfl (Le_d rfl (by rw [e];simp) (zAA rfl zAa)))) (zAu rfl rfl (by rw [List.map_set,Int.toNat_natCast]) (zAD rfl rfl (zAu rfl rfl rfl zAN))) rfl rfl⟩
    · have e1 : vs.take j = vs:=List.take_of_length_le hge
      have hm1 : vs.length = (R.map ival).length:=by rw [List.length_map];omega
      have hk1 : (kept (vs.take j) b).length < vs.length:=by omega
      have hkb:=zMx vs b
      have hes : (zBG Tryz.prog 52).isSome = true:=by rw [zA7];rfl
      have hpre : (R.map ival).take (kept (vs.take j) b).length = (kept (vs.take j) b).map ival:=by rw [← List.map_take,hI.pre]
      skip
      repeat' first | (apply zMF (z:=.int .i64 0) (xs:=R.map ival);exact rfl;exact rfl;exact rfl;exact hm1;exact hk1;(with_reducible exact zA7);(with_reducible exact zCw);(with_reducible exact zSN);exact rfl;exact rfl)|apply en_n|apply zAH|apply zAB|apply zAF|apply w0|(apply zBn;exact rfl;exact rfl;first|assumption|omega)|(refine zQA rfl hes rfl ?_ ⟨_,_,_,_,rfl,?_⟩)|apply ay (hd:=rfl)|exact zAE rfl|exact zAw rfl|exact zAm rfl|(apply zCo;exact rfl;(with_reducible exact zBt))|exact zAQ rfl|apply zAM|apply zAt|apply en_e|apply eb_e
      all_goals first | omega | assumption | skip
      · simp only [List.length_append,List.length_take,List.length_replicate,List.length_map];omega
      · rw [e1] at hpre
        exact zAq (zAO (zBq rfl (by rw [e1,Int.toNat_natCast]) zAa) (zAu rfl rfl (by rw [e1,hpre];rfl) (zAD rfl rfl (zAu rfl rfl rfl zAN))) rfl rfl)
end Go.Proofs.YtblomnkamngnbaaGreatDoor

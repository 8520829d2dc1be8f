/- Texts of this claim, merged: InfB. -/
import Derived.Test.YtblomnkamngnbaaGreatDoorMAB
import Derived.Test.YtblomnkamngnbaaGreatDoorMAK
import Derived.Test.YtblomnkamngnbaaGreatDoorMAO
namespace Go.Proofs.YtblomnkamngnbaaGreatDoor
open Go.Sx
attribute [local irreducible] zAT Program.underlying Ylds zBA alex zBe zBP awp zAj zBZ zBk zA2 zBH zBR zA8 zBV zBb zBf zBu zBO VCall
theorem zEK (s : List UInt8) : zAj Tryz.prog 64 [str s] (zAc (zBp s)):=by
  refine zAd Tryz.func64 rfl Tryz.ntmps64 Tryz.results64 rfl ?_
  intro wb St0
  repeat' first | apply en_n|apply zAH|apply zAB|apply zAF|apply w0|(apply zBE;exact zFF;exact zAp;exact PD_d rfl rfl (PD_d rfl rfl zB0);exact rfl)|apply ay (hd:=rfl)|exact zAE rfl|exact zAC rfl|exact zAb rfl|(apply zCC;(with_reducible exact zBd);(with_reducible exact zAW);(with_reducible exact zDQ);exact rfl;exact rfl;(first|exact zAX rfl zAG|exact zC4 rfl rfl rfl zAG|exact zDG rfl zAG);exact rfl)|apply zAM|apply zAJ|(apply res1;exact rfl)
  rfl
def hdA : Nd:=⟨32,arrT,0,2⟩
def arrI (A : List (List Nd)) (i : Nat) : List Nd:=(A.take i).flatMap fun a=>hdA :: a
theorem zQV {A : List (List Nd)} {i : Nat} {a : List Nd} (h : A[i]? = some a) : arrI A (i + 1) = arrI A i ++ [hdA] ++ a:=by
  unfold arrI;rw [List.take_add_one,h];simp
def zMU (A : List (List Nd)) (b : List Nd) : List Nd:=arrI A A.length ++ b
set_option maxHeartbeats 1000000 in
theorem zSM (A : List (List Nd)) (b : List Nd) (hA : ∀ i,(arrI A i).length ≤ 1000000) (hA2 : ∀ a ∈ A,a.length ≤ 1000000) (hAl : A.length ≤ 1000000) (hb : b.length ≤ 1000000) : zAj Tryz.prog 113 [zFr A,zAc b] (zAc (zMU A b)):=by
  refine zAd Tryz.func113 rfl Tryz.ntmps113 Tryz.results113 rfl ?_
  intro wb St0
  repeat' first | apply en_n|apply zAH|apply zAB|apply zAF|apply w0|apply ay (hd:=rfl)|exact zAE rfl|(apply zAl;exact rfl;(with_reducible exact zGf))|exact zAb rfl|apply zAI
  refine zCI 5 false 40 4 rfl rfl ?_
  refine zAr (α:=Nat) (fun i=>i ≤ A.length) (fun i=>[(1,.d (zAc b)),(5,.buf 0 ((arrI A i).map Nd.av).length),(8,.d (zFr A)),(9,.d (i64 (A.length : Int))),(10,.d (i64 (i : Int)))]) (fun i=>[.buf false 40 4 ((arrI A i).map Nd.av)]) (fun i=>A.length - i) 0 (Nat.zero_le _)
    (zAO (zAA rfl (zBt rfl rfl (zAA rfl (Le_d rfl rfl (zAA rfl zAa))))) (zAu rfl rfl rfl zAN) rfl rfl) ?_
  intro i hi
  have hbd:=hA i
  repeat' first | apply en_n|apply zAH|apply zAB|apply zAF|apply w0|(apply aApp (id:=0) (hd:=rfl) (hro:=rfl);exact rfl;exact rfl;(first|exact zAk rfl|exact Co_bb rfl rfl rfl|exact Co_nn rfl);(first|exact rfl|exact (by simp));exact rfl;(with_reducible exact zBd);(with_reducible exact zAW);(with_reducible exact zER);(with_reducible exact zDP);(first|exact zCF (fun _=>rfl)|exact zCE rfl))|(apply zBE (cs:=Nd.cells hdA);exact zFF;exact zAp;exact PD_d rfl rfl (PD_d rfl rfl (PD_d rfl rfl zB0));exact rfl)|(apply aI (hd:=rfl);(first|exact zAk rfl|exact Co_bb rfl rfl rfl|exact Co_nn rfl);exact rfl;(with_reducible exact zCS);exact fun _=>rfl;rotate_left;intro v hv;rotate_right)|apply ay (hd:=rfl)|exact zAE rfl|exact zAC rfl|(apply zAg;exact rfl;(with_reducible exact zAn))|exact zCT rfl rfl|(apply zBC;exact rfl;exact rfl)|exact zAw rfl|exact zAm rfl|(apply zCC;(with_reducible exact zBd);(with_reducible exact zAW);(with_reducible exact zDQ);exact rfl;exact rfl;(first|exact zAX rfl zAG|exact zC4 rfl rfl rfl zAG|exact zDG rfl zAG);exact rfl)|(apply zAz;exact rfl;(intro hb);rotate_left;(intro hb);rotate_right)|apply zAI|apply zAP|apply zAM|apply zAt|apply en_e|apply eb_n|apply eb_e|apply zAJ
  all_goals first | omega | skip
  · simp only [List.length_map,List.length_cons,List.length_nil];omega
  · have:=hA2 v (List.mem_of_getElem? hv)
    simp only [List.length_map,List.length_cons,List.length_nil];omega
  · have e:=zQV (show A[i]? = some v from hv)
    exact ⟨i + 1,by omega,by omega,zAO (zAA rfl (zBt rfl (by rw [e];simp;omega) (zAA rfl (zAA rfl (zAA rfl zAa))))) (zAu rfl rfl (by rw [e,List.map_append,List.map_append];rfl) zAN) rfl rfl⟩
  · simp only [List.length_map];omega
  · have : A.length = i:=by omega
    exact ⟨_,_,_,rfl,by simp,by rw [List.take_of_length_le (by simp)];simp [zAc,zMU,this]⟩
theorem zNg (a b : List Nd) (ha : a.length ≤ 900000) (hb : b.length ≤ 1000000) : zAj Tryz.prog 68 [zAc a,zAc b] (zAc (zGh a b)):=by
  have hc:=zSM [a] b (fun i=>by
    unfold arrI
    match i with
    | 0=>simp
    | i + 1=>simp;omega) (by simp;omega) (by simp) hb
  refine zAd Tryz.func68 rfl Tryz.ntmps68 Tryz.results68 rfl ?_
  intro wb St0
  repeat' first | apply en_n|apply zAH|apply zAB|apply zAF|apply w0|(refine zAV zRs hc (zAX rfl (zAX rfl zAG)))|apply ay (hd:=rfl)|exact zAE rfl|exact zAC rfl|exact zAb rfl|(apply zCC;(with_reducible exact zD1);(with_reducible exact zCS);(with_reducible exact zHb);exact rfl;exact rfl;(first|exact zAX rfl zAG|exact zC4 rfl rfl rfl zAG|exact zDG rfl zAG);exact rfl)|apply zAM|apply zAJ|(apply res1;exact rfl)
  congr 1
  simp [zMU,arrI,zGh,hdA]
set_option maxHeartbeats 1000000 in
theorem zPi (l : List Int) (hl : l.length ≤ 1000000) : zAj Tryz.prog 115 [zBm l] (binds (zDM l)):=by
  refine zAd Tryz.func115 rfl Tryz.ntmps115 Tryz.results115 rfl ?_
  intro wb St0
  repeat' first | apply en_n|apply zAH|apply zAB|apply zAF|apply w0|apply ay (hd:=rfl)|exact zAE rfl|(apply zAl;exact rfl;(with_reducible exact zBw))|exact zAb rfl|apply zAI
  refine zCI 3 false 147 2 rfl rfl ?_
  refine zAr (α:=Nat) (fun i=>i ≤ l.length) (fun i=>[(3,.buf 0 ((zDM (l.take i)).map Bd.av).length),(6,.d (zBm l)),(7,.d (i64 (l.length : Int))),(8,.d (i64 (i : Int)))]) (fun i=>[.buf false 147 2 ((zDM (l.take i)).map Bd.av)]) (fun i=>l.length - i) 0 (Nat.zero_le _)
    (zAO (zBt rfl rfl (zAA rfl (Le_d rfl rfl (zAA rfl zAa)))) (zAu rfl rfl rfl zAN) rfl rfl) ?_
  intro i hi
  repeat' first | apply en_n|apply zAH|apply zAB|apply zAF|apply w0|(apply aApp (id:=0) (hd:=rfl) (hro:=rfl);exact rfl;exact rfl;(first|exact zAk rfl|exact Co_bb rfl rfl rfl|exact Co_nn rfl);(first|exact rfl|exact (by simp));exact rfl;(with_reducible exact zGe);(with_reducible exact zFo);(with_reducible exact zOn);(with_reducible exact zNe);(first|exact zCF (fun _=>rfl)|exact zCE rfl))|(refine zAV zDt (zEK intT) (zAX rfl zAG))|(apply zBE (cs:=[ival v,zAc (zBp intT)]);exact zPO;exact zOm;exact PD_d rfl rfl (PD_d rfl rfl zB0);exact rfl)|(apply aI (hd:=rfl);(first|exact zAk rfl|exact Co_bb rfl rfl rfl|exact Co_nn rfl);exact rfl;(with_reducible exact zA7);exact fun _=>rfl;rotate_left;intro v hv;rotate_right)|apply ay (hd:=rfl)|exact zAE rfl|exact zAC rfl|(apply zAg;exact rfl;(with_reducible exact zAs))|exact zCT rfl rfl|(apply zBC;exact rfl;exact rfl)|exact zAw rfl|exact zAm rfl|(apply zCC;(with_reducible exact zGe);(with_reducible exact zFo);(with_reducible exact zOk);exact rfl;exact rfl;(first|exact zAX rfl zAG|exact zC4 rfl rfl rfl zAG|exact zDG rfl zAG);exact rfl)|(apply zAz;exact rfl;(intro hb);rotate_left;(intro hb);rotate_right)|apply zAI|apply zAP|apply zAM|apply zAt|apply en_e|apply eb_n|apply eb_e|apply zAJ|(apply zGx;exact rfl;exact rfl;(first|exact rfl|(simp;done)))
  all_goals first | omega | skip
  · simp only [List.length_map,List.length_cons,List.length_nil]
    have : (zDM (l.take i)).length ≤ 1000000:=by simp [zDM];omega
    omega
  · have hv' : l[i]? = some v:=hv
    have e : zDM (l.take (i + 1)) = zDM (l.take i) ++ [⟨v,zBp intT⟩]:=by rw [List.take_add_one,hv'];simp [zDM]
    exact ⟨i + 1,by omega,by omega,zAO (zBt rfl (by rw [e];simp) (zAA rfl (zAA rfl (zAA rfl zAa)))) (zAu rfl rfl (by rw [e,List.map_append];rfl) zAN) rfl rfl⟩
  · rw [List.take_of_length_le (by omega)];rfl
set_option maxHeartbeats 1000000 in
theorem zMM (L : List Nd) (E : List Sg) (S : TS) (e : Int) : zA2 Tryz.prog 63 [.ptr 0 0,.d (i64 e)] (tyO L E S) .top (tyO L E (zHZ S e)):=by
  refine zA1 Tryz.func63 rfl Tryz.ntmps63 Tryz.results63 rfl rfl rfl ?_
  intro wb St0 X fx
  unfold zHZ
  repeat' first | apply en_n|apply zAH|apply zAB|apply zAF|apply w0|exact zAo rfl|apply ay (hd:=rfl)|exact zAE rfl|exact zC6 rfl rfl|exact zAZ rfl|(apply zAR;exact rfl;(with_reducible exact fy_3))|(apply zAU;exact rfl;(with_reducible exact zCj);exact rfl;exact rfl)|(refine w0' ?_)|(apply zAx;exact rfl;exact rfl;exact rfl;(with_reducible exact zCj);exact rfl;exact rfl;exact rfl;exact rfl)|(apply zAz;exact rfl;(intro hb);rotate_left;(intro hb);rotate_right)|apply zAP
  · rw [if_pos hb];exact zFH ⟨rfl,zAO zAa (zAD rfl rfl (zAD rfl rfl (zAD rfl rfl zAN))) rfl rfl⟩
  · rw [if_neg hb];exact zFH ⟨rfl,zAO zAa (zAD rfl rfl (zAD rfl rfl (zAD rfl rfl zAN))) rfl rfl⟩
set_option maxHeartbeats 1000000 in
theorem zFG (L : List Nd) (E : List Sg) (S : TS) (h : 0 ≤ S.nx ∧ S.nx ≤ 4000000000000) : zA2 Tryz.prog 65 [.ptr 0 0] (tyO L E S) (.d (zAc (varN S.nx))) (tyO L E (zCq S)):=by
  have hf:=zSK S.nx S.st h
  refine zA1 Tryz.func65 rfl Tryz.ntmps65 Tryz.results65 rfl rfl rfl ?_
  intro wb St0 X fx
  have hh : (varN S.nx)[0]? = some ⟨31,[],S.nx,0⟩:=rfl
  by_cases h1 : S.nx > 1048576
  · rw [zCq,if_pos h1]
    have hg:=zMM L E { S with nx:=S.nx + 1 } 113
    skip
    repeat' first | apply en_n|apply zAH|apply zAB|apply zAF|apply w0|(apply zEo;exact rfl;exact rfl;first|assumption|omega)|exact zAo rfl|(refine zA3 [1,2] zNS (hf) ?_ rfl rfl (by decide) rfl rfl rfl rfl rfl rfl ?_;(repeat (refine zAL rfl ?_));exact zAS)|(refine zA3 [0,1,2] zKB (hg) ?_ rfl rfl (by decide) rfl rfl rfl rfl rfl rfl ?_;(repeat (refine zAL rfl ?_));exact zAS)|(apply aJ (hd:=rfl);(first|exact zAk rfl|exact Co_bb rfl rfl rfl|exact Co_nn rfl);exact rfl;(with_reducible exact zAW);assumption;omega;exact fun _=>rfl)|apply ay (hd:=rfl)|exact zAE rfl|exact zAC rfl|(apply zAy;exact rfl;(with_reducible exact fn_2))|(apply zAg;exact rfl;(with_reducible exact zBK))|exact zAb rfl|exact zAZ rfl|(apply zAR;exact rfl;(with_reducible exact fy_0))|(apply zAU;exact rfl;(with_reducible exact zD3);exact rfl;exact rfl)|(apply zAK;exact rfl)|apply zAM
    exact zAq (zAO (zAA rfl zAa) (zAD rfl rfl (zAD rfl rfl (zAD rfl rfl zAN))) rfl rfl)
  · rw [zCq,if_neg h1]
    repeat' first | apply en_n|apply zAH|apply zAB|apply zAF|apply w0|(apply zDo;exact rfl;exact rfl;first|assumption|omega)|exact zAo rfl|(refine zA3 [1,2] zNS (hf) ?_ rfl rfl (by decide) rfl rfl rfl rfl rfl rfl ?_;(repeat (refine zAL rfl ?_));exact zAS)|(apply aJ (hd:=rfl);(first|exact zAk rfl|exact Co_bb rfl rfl rfl|exact Co_nn rfl);exact rfl;(with_reducible exact zAW);assumption;omega;exact fun _=>rfl)|apply ay (hd:=rfl)|exact zAE rfl|exact zAC rfl|(apply zAy;exact rfl;(with_reducible exact fn_2))|(apply zAg;exact rfl;(with_reducible exact zBK))|exact zAb rfl|exact zAZ rfl|(apply zAR;exact rfl;(with_reducible exact fy_0))|(apply zAU;exact rfl;(with_reducible exact zD3);exact rfl;exact rfl)|(apply zAQ;exact rfl)|apply zAP|apply zAM
    exact zAq (zAO (zAA rfl zAa) (zAD rfl rfl (zAD rfl rfl (zAD rfl rfl zAN))) rfl rfl)
set_option maxHeartbeats 1000000 in
theorem zRH (L : List Nd) (E : List Sg) (S : TS) (a b : List Nd) (h : S.er ≠ 0) : zA2 Tryz.prog 66 [.ptr 0 0,.d (zAc a),.d (zAc b)] (tyO L E S) .top (tyO L E S):=by
  refine zA1 Tryz.func66 rfl Tryz.ntmps66 Tryz.results66 rfl rfl rfl ?_
  intro wb St0 X fx
  repeat' first | apply en_n|apply zAH|apply zAB|apply zAF|apply w0|(apply k1u (hd:=rfl);exact rfl;exact rfl)|(apply zA9;exact rfl;exact rfl;first|assumption|omega)|exact zAo rfl|apply ay (hd:=rfl)|exact zAE rfl|exact zAh rfl rfl|exact zAZ rfl|(apply zAR;exact rfl;(with_reducible exact fy_3))|(apply zAU;exact rfl;(with_reducible exact zCj);exact rfl;exact rfl)|(apply zAQ;exact rfl)|apply zAP
  all_goals exact zFH ⟨rfl,zAO zAa (zAD rfl rfl (zAD rfl rfl (zAD rfl rfl zAN))) rfl rfl⟩
set_option maxHeartbeats 1000000 in
theorem zDD (L : List Nd) (E : List Sg) (S S' : TS) (q : Nat) (a b : List Nd) (hla : a.length ≤ 2000000) (hlb : b.length ≤ 2000000) (hL : StoB S.st) (h : zDT q S a b = some S') : zA2 Tryz.prog 66 [.ptr 0 0,.d (zAc a),.d (zAc b)] (tyO L E S) .top (tyO L E S'):=by
  unfold zDT at h
  by_cases h0 : S.er = 0
  · rw [if_neg (by omega)] at h
    cases hu : uniF q S.st a b with
    | none=>rw [hu] at h;cases h
    | some p =>
      obtain ⟨e,M⟩:=p
      rw [hu] at h
      have hq:=zQp S.nx q S.st a b e M hla hlb hL hu
      have hg:=zMM L E { S with st:=M } 112
      by_cases he : e = 0
      · simp only [he,ne_eq,not_true,if_false,Option.some.injEq] at h
        subst h
        refine zA1 Tryz.func66 rfl Tryz.ntmps66 Tryz.results66 rfl rfl rfl ?_
        intro wb St0 X fx
        repeat' first | apply en_n|apply zAH|apply zAB|apply zAF|apply w0|(apply zBD;exact rfl;exact rfl;first|assumption|omega)|(apply zBU;exact rfl;exact rfl;first|assumption|omega)|exact zAo rfl|(refine zA3 [1,2] zLH (hq) ?_ rfl rfl (by decide) rfl rfl rfl rfl rfl rfl ?_;(repeat (refine zAL rfl ?_));exact zAS)|apply ay (hd:=rfl)|exact zAE rfl|exact zAi rfl rfl|exact zAZ rfl|(apply zAR;exact rfl;(with_reducible first|exact fy_0|exact fy_3))|(apply zAU;exact rfl;(with_reducible first|exact zD3|exact zCj);exact rfl;exact rfl)|(apply w1;exact rfl;exact rfl)|(apply zAQ;exact rfl)|apply zAP
        all_goals exact zFH ⟨rfl,zAO zAa (zAD rfl rfl (zAD rfl rfl (zAD rfl rfl zAN))) rfl rfl⟩
      · simp only [he,ne_eq,not_false_eq_true,if_true,Option.some.injEq] at h
        subst h
        refine zA1 Tryz.func66 rfl Tryz.ntmps66 Tryz.results66 rfl rfl rfl ?_
        intro wb St0 X fx
        repeat' first | apply en_n|apply zAH|apply zAB|apply zAF|apply w0|(apply zBD;exact rfl;exact rfl;first|assumption|omega)|(apply zB7;exact rfl;exact rfl;first|assumption|omega)|exact zAo rfl|(refine zA3 [1,2] zLH (hq) ?_ rfl rfl (by decide) rfl rfl rfl rfl rfl rfl ?_;(repeat (refine zAL rfl ?_));exact zAS)|(refine zA3 [0,1,2] zKB (hg) ?_ rfl rfl (by decide) rfl rfl rfl rfl rfl rfl ?_;(repeat (refine zAL rfl ?_));exact zAS)|apply ay (hd:=rfl)|exact zAE rfl|exact zAi rfl rfl|exact zAZ rfl|(apply zAR;exact rfl;(with_reducible first|exact fy_0|exact fy_3))|(apply zAU;exact rfl;(with_reducible first|exact zD3|exact zCj);exact rfl;exact rfl)|(apply w1;exact rfl;exact rfl)|(apply zAK;exact rfl)
        all_goals exact zFH ⟨rfl,zAO zAa (zAD rfl rfl (zAD rfl rfl (zAD rfl rfl zAN))) rfl rfl⟩
  · rw [if_pos h0] at h
    injection h with h;subst h
    exact zRH L E S a b h0
set_option maxHeartbeats 1000000 in
theorem zJz (L : List Nd) (E : List Sg) (S S' : TS) (q : Nat) (t r : List Nd) (hlt : t.length ≤ 1000000) (hL : StoB S.st) (h : zEd q S t = some (r,S')) : zA2 Tryz.prog 38 [.ptr 0 0,.d (zAc t)] (tyO L E S) (.d (zAc r)) (tyO L E S'):=by
  unfold zEd at h
  have hg:=zMM L E S 113
  by_cases h0 : S.er = 0
  · rw [if_neg (by omega)] at h
    by_cases hc : ckT t = 0
    · rw [if_neg (by omega)] at h
      cases hz : zGu q S.st t [] with
      | none=>rw [hz] at h;cases h
      | some p =>
        obtain ⟨m,S2⟩:=p
        rw [hz] at h
        dsimp only at h
        by_cases hm : m > 4000
        · rw [if_pos hm] at h
          injection h with h;injection h with h1 h2;subst h1;subst h2
          have hq:=zMa S.nx S.st t q m S2 hL hlt hc hz hm
          refine zA1 Tryz.func38 rfl Tryz.ntmps38 Tryz.results38 rfl rfl rfl ?_
          intro wb St0 X fx
          repeat' first | apply en_n|apply zAH|apply zAB|apply zAF|apply w0|(apply zB7;exact rfl;exact rfl;first|assumption|omega)|(apply zBU;exact rfl;exact rfl;first|assumption|omega)|exact zAo rfl|exact zCM rfl|exact zFv rfl|exact zFu rfl|(refine zA3 [1,2] zG8 (hq) ?_ rfl rfl (by decide) rfl rfl rfl rfl rfl rfl ?_;(repeat (refine zAL rfl ?_));exact zAS)|(refine zA3 [0,1,2] zKB (hg) ?_ rfl rfl (by decide) rfl rfl rfl rfl rfl rfl ?_;(repeat (refine zAL rfl ?_));exact zAS)|apply ay (hd:=rfl)|exact zAE rfl|exact zAC rfl|exact zAb rfl|exact zAZ rfl|(apply zAR;exact rfl;(with_reducible first|exact fy_0|exact fy_3))|(apply zAU;exact rfl;(with_reducible first|exact zD3|exact zCj);exact rfl;exact rfl)|(apply zAK;exact rfl)|(apply zAQ;exact rfl)|apply zAP|apply zAM|apply en_r
          all_goals exact zAq (zAO (zAA rfl zAa) (zAD rfl rfl (zAD rfl rfl (zAD rfl rfl zAN))) rfl rfl)
        · rw [if_neg hm] at h
          cases hr : resF q S.st t with
          | none=>rw [hr] at h;cases h
          | some u =>
            rw [hr] at h
            dsimp only at h
            split at h
            case isFalse=>cases h
            rename_i hlr
            injection h with h;injection h with h1 h2;subst h1;subst h2
            have hq:=zOh S.nx S.st t u q q m S2 hL hlt hc hz hm hr (by omega)
            refine zA1 Tryz.func38 rfl Tryz.ntmps38 Tryz.results38 rfl rfl rfl ?_
            intro wb St0 X fx
            repeat' first | apply en_n|apply zAH|apply zAB|apply zAF|apply w0|(apply zBU;exact rfl;exact rfl;first|assumption|omega)|exact zAo rfl|exact zCM rfl|exact zFv rfl|exact zFu rfl|(refine zA3 [1,2] zG8 (hq) ?_ rfl rfl (by decide) rfl rfl rfl rfl rfl rfl ?_;(repeat (refine zAL rfl ?_));exact zAS)|apply ay (hd:=rfl)|exact zAE rfl|exact zAC rfl|exact zAb rfl|exact zAZ rfl|(apply zAR;exact rfl;(with_reducible first|exact fy_0|exact fy_3))|(apply zAU;exact rfl;(with_reducible first|exact zD3|exact zCj);exact rfl;exact rfl)|(apply zAQ;exact rfl)|apply zAP|apply zAM
            all_goals exact zAq (zAO (zAA rfl zAa) (zAD rfl rfl (zAD rfl rfl (zAD rfl rfl zAN))) rfl rfl)
    · rw [if_pos hc] at h
      injection h with h;injection h with h1 h2;subst h1;subst h2
      have hq:=zMb S.nx S.st t (by omega) hc
      refine zA1 Tryz.func38 rfl Tryz.ntmps38 Tryz.results38 rfl rfl rfl ?_
      intro wb St0 X fx
      repeat' first | apply en_n|apply zAH|apply zAB|apply zAF|apply w0|(apply zB7;exact rfl;exact rfl;first|assumption|omega)|(apply zBU;exact rfl;exact rfl;first|assumption|omega)|exact zAo rfl|exact zCM rfl|exact zFv rfl|exact zFu rfl|(refine zA3 [1,2] zG8 (hq) ?_ rfl rfl (by decide) rfl rfl rfl rfl rfl rfl ?_;(repeat (refine zAL rfl ?_));exact zAS)|(refine zA3 [0,1,2] zKB (hg) ?_ rfl rfl (by decide) rfl rfl rfl rfl rfl rfl ?_;(repeat (refine zAL rfl ?_));exact zAS)|apply ay (hd:=rfl)|exact zAE rfl|exact zAC rfl|exact zAb rfl|exact zAZ rfl|(apply zAR;exact rfl;(with_reducible first|exact fy_0|exact fy_3))|(apply zAU;exact rfl;(with_reducible first|exact zD3|exact zCj);exact rfl;exact rfl)|(apply zAK;exact rfl)|(apply zAQ;exact rfl)|apply zAP|apply zAM|apply en_r
      all_goals exact zAq (zAO (zAA rfl zAa) (zAD rfl rfl (zAD rfl rfl (zAD rfl rfl zAN))) rfl rfl)
  · rw [if_pos h0] at h
    injection h with h;injection h with h1 h2;subst h1;subst h2
    refine zA1 Tryz.func38 rfl Tryz.ntmps38 Tryz.results38 rfl rfl rfl ?_
    intro wb St0 X fx
    repeat' first | apply en_n|apply zAH|apply zAB|apply zAF|apply w0|(apply zB7;exact rfl;exact rfl;first|assumption|omega)|exact zAo rfl|apply ay (hd:=rfl)|exact zAE rfl|exact zAC rfl|exact zAb rfl|exact zAZ rfl|(apply zAR;exact rfl;(with_reducible exact fy_3))|(apply zAU;exact rfl;(with_reducible exact zCj);exact rfl;exact rfl)|(apply zAK;exact rfl)|apply zAM|apply en_r
    all_goals exact zAq (zAO (zAA rfl zAa) (zAD rfl rfl (zAD rfl rfl (zAD rfl rfl zAN))) rfl rfl)
end Go.Proofs.YtblomnkamngnbaaGreatDoor

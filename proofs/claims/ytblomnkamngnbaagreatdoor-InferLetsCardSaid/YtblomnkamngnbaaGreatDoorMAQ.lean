/- Texts of this claim, merged: InfB. -/
import Derived.Test.YtblomnkamngnbaaGreatDoorMAB
import Derived.Test.YtblomnkamngnbaaGreatDoorMAL
import Derived.Test.YtblomnkamngnbaaGreatDoorMAP
namespace Go.Proofs.YtblomnkamngnbaaGreatDoor
open Go.Sx
attribute [local irreducible] zAO Program.underlying Ylds zA3 alex zBY zBN awp zAm zBT zBe zAx zBA zBP zA2 zBR zBX zBa zBq zBI VCall
theorem zES (s : List UInt8) : zAm Tryz.prog 64 [str s] (zAc (zBC s)):=by
  refine zAd Tryz.func64 rfl Tryz.ntmps64 Tryz.results64 rfl ?_
  intro wb St0
  repeat' first | apply en_n|apply zAH|apply zAC|apply zAF|apply w0|(apply zBS;exact zEd;exact zAp;exact PD_d rfl rfl (PD_d rfl rfl zCF);exact rfl)|apply ay (hd:=rfl)|exact zAE rfl|exact zAD rfl|exact zAY rfl|(apply zCD;(with_reducible exact zBl);(with_reducible exact zAa);(with_reducible exact zDr);exact rfl;exact rfl;(first|exact zAZ rfl zAG|exact zCo rfl rfl rfl zAG|exact zCs rfl zAG);exact rfl)|apply zAN|apply zAP|(apply res1;exact rfl)
  rfl
def hdA : Nd:=⟨32,arrT,0,2⟩
def arrI (A : List (List Nd)) (i : Nat) : List Nd:=(A.take i).flatMap fun a=>hdA :: a
theorem zRP {A : List (List Nd)} {i : Nat} {a : List Nd} (h : A[i]? = some a) : arrI A (i + 1) = arrI A i ++ [hdA] ++ a:=by
  unfold arrI;rw [List.take_add_one,h];simp
def zM5 (A : List (List Nd)) (b : List Nd) : List Nd:=arrI A A.length ++ b
set_option maxHeartbeats 1000000 in
theorem zTR (A : List (List Nd)) (b : List Nd) (hA : ∀ i,(arrI A i).length ≤ 1000000) (hA2 : ∀ a ∈ A,a.length ≤ 1000000) (hAl : A.length ≤ 1000000) (hb : b.length ≤ 1000000) : zAm Tryz.prog 113 [zGl A,zAc b] (zAc (zM5 A b)):=by
  refine zAd Tryz.func113 rfl Tryz.ntmps113 Tryz.results113 rfl ?_
  intro wb St0
  repeat' first | apply en_n|apply zAH|apply zAC|apply zAF|apply w0|apply ay (hd:=rfl)|exact zAE rfl|(apply zAr;exact rfl;(with_reducible exact zG3))|exact zAY rfl|apply zAJ
  refine zCO 5 false 40 4 rfl rfl ?_
  refine zAs (α:=Nat) (fun i=>i ≤ A.length) (fun i=>[(1,.d (zAc b)),(5,.buf 0 ((arrI A i).map Nd.av).length),(8,.d (zGl A)),(9,.d (i64 (A.length : Int))),(10,.d (i64 (i : Int)))]) (fun i=>[.buf false 40 4 ((arrI A i).map Nd.av)]) (fun i=>A.length - i) 0 (Nat.zero_le _)
    (zAL (zAA rfl (zBs rfl rfl (zAA rfl (Le_d rfl rfl (zAA rfl zAW))))) (zAl rfl rfl rfl zAK) rfl rfl) ?_
  intro i hi
  have hbd:=hA i
  repeat' first | apply en_n|apply zAH|apply zAC|apply zAF|apply w0|(apply aApp (id:=0) (hd:=rfl) (hro:=rfl);exact rfl;exact rfl;(first|exact zAn rfl|exact Co_bb rfl rfl rfl|exact Co_nn rfl);(first|exact rfl|exact (by simp));exact rfl;(with_reducible exact zBl);(with_reducible exact zAa);(with_reducible exact zE1);(with_reducible exact zDi);(first|exact zCc (fun _=>rfl)|exact zCP rfl))|(apply zBS (cs:=Nd.cells hdA);exact zEd;exact zAp;exact PD_d rfl rfl (PD_d rfl rfl (PD_d rfl rfl zCF));exact rfl)|(apply aI (hd:=rfl);(first|exact zAn rfl|exact Co_bb rfl rfl rfl|exact Co_nn rfl);exact rfl;(with_reducible exact zCf);exact fun _=>rfl;rotate_left;intro v hv;rotate_right)|apply ay (hd:=rfl)|exact zAE rfl|exact zAD rfl|(apply zAi;exact rfl;(with_reducible exact zAg))|exact zDG rfl rfl|(apply zBG;exact rfl;exact rfl)|exact zAt rfl|exact zAj rfl|(apply zCD;(with_reducible exact zBl);(with_reducible exact zAa);(with_reducible exact zDr);exact rfl;exact rfl;(first|exact zAZ rfl zAG|exact zCo rfl rfl rfl zAG|exact zCs rfl zAG);exact rfl)|(apply zA1;exact rfl;(intro hb);rotate_left;(intro hb);rotate_right)|apply zAJ|apply zAT|apply zAN|apply zAu|apply en_e|apply eb_n|apply eb_e|apply zAP
  all_goals first | omega | skip
  · simp only [List.length_map,List.length_cons,List.length_nil];omega
  · have:=hA2 v (List.mem_of_getElem? hv)
    simp only [List.length_map,List.length_cons,List.length_nil];omega
  · have e:=zRP (show A[i]? = some v from hv)
    exact ⟨i + 1,by omega,by omega,zAL (zAA rfl (zBs rfl (by rw [e];simp;omega) (zAA rfl (zAA rfl (zAA rfl zAW))))) (zAl rfl rfl (by rw [e,List.map_append,List.map_append];rfl) zAK) rfl rfl⟩
  · simp only [List.length_map];omega
  · have : A.length = i:=by omega
    exact ⟨_,_,_,rfl,by simp,by rw [List.take_of_length_le (by simp)];simp [zAc,zM5,this]⟩
theorem zOJ (a b : List Nd) (ha : a.length ≤ 900000) (hb : b.length ≤ 1000000) : zAm Tryz.prog 68 [zAc a,zAc b] (zAc (zEX a b)):=by
  have hc:=zTR [a] b (fun i=>by
    unfold arrI
    match i with
    | 0=>simp
    | i + 1=>simp;omega) (by simp;omega) (by simp) hb
  refine zAd Tryz.func68 rfl Tryz.ntmps68 Tryz.results68 rfl ?_
  intro wb St0
  repeat' first | apply en_n|apply zAH|apply zAC|apply zAF|apply w0|(refine zAX zSu hc (zAZ rfl (zAZ rfl zAG)))|apply ay (hd:=rfl)|exact zAE rfl|exact zAD rfl|exact zAY rfl|(apply zCD;(with_reducible exact zEE);(with_reducible exact zCf);(with_reducible exact zGX);exact rfl;exact rfl;(first|exact zAZ rfl zAG|exact zCo rfl rfl rfl zAG|exact zCs rfl zAG);exact rfl)|apply zAN|apply zAP|(apply res1;exact rfl)
  congr 1
  simp [zM5,arrI,zEX,hdA]
set_option maxHeartbeats 1000000 in
theorem zQZ (l : List Int) (hl : l.length ≤ 1000000) : zAm Tryz.prog 115 [zBv l] (binds (zCe l)):=by
  refine zAd Tryz.func115 rfl Tryz.ntmps115 Tryz.results115 rfl ?_
  intro wb St0
  repeat' first | apply en_n|apply zAH|apply zAC|apply zAF|apply w0|apply ay (hd:=rfl)|exact zAE rfl|(apply zAr;exact rfl;(with_reducible exact zCU))|exact zAY rfl|apply zAJ
  refine zCO 3 false 147 2 rfl rfl ?_
  refine zAs (α:=Nat) (fun i=>i ≤ l.length) (fun i=>[(3,.buf 0 ((zCe (l.take i)).map Bd.av).length),(6,.d (zBv l)),(7,.d (i64 (l.length : Int))),(8,.d (i64 (i : Int)))]) (fun i=>[.buf false 147 2 ((zCe (l.take i)).map Bd.av)]) (fun i=>l.length - i) 0 (Nat.zero_le _)
    (zAL (zBs rfl rfl (zAA rfl (Le_d rfl rfl (zAA rfl zAW)))) (zAl rfl rfl rfl zAK) rfl rfl) ?_
  intro i hi
  repeat' first | apply en_n|apply zAH|apply zAC|apply zAF|apply w0|(apply aApp (id:=0) (hd:=rfl) (hro:=rfl);exact rfl;exact rfl;(first|exact zAn rfl|exact Co_bb rfl rfl rfl|exact Co_nn rfl);(first|exact rfl|exact (by simp));exact rfl;(with_reducible exact zG2);(with_reducible exact zGB);(with_reducible exact zPU);(with_reducible exact zOH);(first|exact zCc (fun _=>rfl)|exact zCP rfl))|(refine zAX zD3 (zES intT) (zAZ rfl zAG))|(apply zBS (cs:=[ival v,zAc (zBC intT)]);exact zP9;exact zPT;exact PD_d rfl rfl (PD_d rfl rfl zCF);exact rfl)|(apply aI (hd:=rfl);(first|exact zAn rfl|exact Co_bb rfl rfl rfl|exact Co_nn rfl);exact rfl;(with_reducible exact zBD);exact fun _=>rfl;rotate_left;intro v hv;rotate_right)|apply ay (hd:=rfl)|exact zAE rfl|exact zAD rfl|(apply zAi;exact rfl;(with_reducible exact zAz))|exact zDG rfl rfl|(apply zBG;exact rfl;exact rfl)|exact zAt rfl|exact zAj rfl|(apply zCD;(with_reducible exact zG2);(with_reducible exact zGB);(with_reducible exact zPQ);exact rfl;exact rfl;(first|exact zAZ rfl zAG|exact zCo rfl rfl rfl zAG|exact zCs rfl zAG);exact rfl)|(apply zA1;exact rfl;(intro hb);rotate_left;(intro hb);rotate_right)|apply zAJ|apply zAT|apply zAN|apply zAu|apply en_e|apply eb_n|apply eb_e|apply zAP|(apply zJ5;exact rfl;exact rfl;(first|exact rfl|(simp;done)))
  all_goals first | omega | skip
  · simp only [List.length_map,List.length_cons,List.length_nil]
    have : (zCe (l.take i)).length ≤ 1000000:=by simp [zCe];omega
    omega
  · have hv' : l[i]? = some v:=hv
    have e : zCe (l.take (i + 1)) = zCe (l.take i) ++ [⟨v,zBC intT⟩]:=by rw [List.take_add_one,hv'];simp [zCe]
    exact ⟨i + 1,by omega,by omega,zAL (zBs rfl (by rw [e];simp) (zAA rfl (zAA rfl (zAA rfl zAW)))) (zAl rfl rfl (by rw [e,List.map_append];rfl) zAK) rfl rfl⟩
  · rw [List.take_of_length_le (by omega)];rfl
set_option maxHeartbeats 1000000 in
theorem zMw (L : List Nd) (E : List Sg) (S : TS) (e : Int) : zAx Tryz.prog 63 [.ptr 0 0,.d (i64 e)] (tyO L E S) .top (tyO L E (zG0 S e)):=by
  refine zAw Tryz.func63 rfl Tryz.ntmps63 Tryz.results63 rfl rfl rfl ?_
  intro wb St0 X fx
  unfold zG0
  repeat' first | apply en_n|apply zAH|apply zAC|apply zAF|apply w0|exact zAe rfl|apply ay (hd:=rfl)|exact zAE rfl|exact zD7 rfl rfl|exact zAR rfl|(apply zAS;exact rfl;(with_reducible exact fy_3))|(apply zAV;exact rfl;(with_reducible exact zCt);exact rfl;exact rfl)|(refine w0' ?_)|(apply zA0;exact rfl;exact rfl;exact rfl;(with_reducible exact zCt);exact rfl;exact rfl;exact rfl;exact rfl)|(apply zA1;exact rfl;(intro hb);rotate_left;(intro hb);rotate_right)|apply zAT
  · rw [if_pos hb];exact zFa ⟨rfl,zAL zAW (zAB rfl rfl (zAB rfl rfl (zAB rfl rfl zAK))) rfl rfl⟩
  · rw [if_neg hb];exact zFa ⟨rfl,zAL zAW (zAB rfl rfl (zAB rfl rfl (zAB rfl rfl zAK))) rfl rfl⟩
set_option maxHeartbeats 1000000 in
theorem zFZ (L : List Nd) (E : List Sg) (S : TS) (h : 0 ≤ S.nx ∧ S.nx ≤ 4000000000000) : zAx Tryz.prog 65 [.ptr 0 0] (tyO L E S) (.d (zAc (varN S.nx))) (tyO L E (zB7 S)):=by
  have hf:=zTP S.nx S.st h
  refine zAw Tryz.func65 rfl Tryz.ntmps65 Tryz.results65 rfl rfl rfl ?_
  intro wb St0 X fx
  have hh : (varN S.nx)[0]? = some ⟨31,[],S.nx,0⟩:=rfl
  by_cases h1 : S.nx > 1048576
  · rw [zB7,if_pos h1]
    have hg:=zMw L E { S with nx:=S.nx + 1 } 113
    skip
    repeat' first | apply en_n|apply zAH|apply zAC|apply zAF|apply w0|(apply zE0;exact rfl;exact rfl;first|assumption|omega)|exact zAe rfl|(refine zAy [1,2] zN4 (hf) ?_ rfl rfl (by decide) rfl rfl rfl rfl rfl rfl ?_;(repeat (refine zAI rfl ?_));exact zAM)|(refine zAy [0,1,2] zKT (hg) ?_ rfl rfl (by decide) rfl rfl rfl rfl rfl rfl ?_;(repeat (refine zAI rfl ?_));exact zAM)|(apply aJ (hd:=rfl);(first|exact zAn rfl|exact Co_bb rfl rfl rfl|exact Co_nn rfl);exact rfl;(with_reducible exact zAa);assumption;omega;exact fun _=>rfl)|apply ay (hd:=rfl)|exact zAE rfl|exact zAD rfl|(apply zA5;exact rfl;(with_reducible exact fn_2))|(apply zAi;exact rfl;(with_reducible exact zB4))|exact zAY rfl|exact zAR rfl|(apply zAS;exact rfl;(with_reducible exact fy_0))|(apply zAV;exact rfl;(with_reducible exact zEH);exact rfl;exact rfl)|(apply zAQ;exact rfl)|apply zAN
    exact zAh (zAL (zAA rfl zAW) (zAB rfl rfl (zAB rfl rfl (zAB rfl rfl zAK))) rfl rfl)
  · rw [zB7,if_neg h1]
    repeat' first | apply en_n|apply zAH|apply zAC|apply zAF|apply w0|(apply zDw;exact rfl;exact rfl;first|assumption|omega)|exact zAe rfl|(refine zAy [1,2] zN4 (hf) ?_ rfl rfl (by decide) rfl rfl rfl rfl rfl rfl ?_;(repeat (refine zAI rfl ?_));exact zAM)|(apply aJ (hd:=rfl);(first|exact zAn rfl|exact Co_bb rfl rfl rfl|exact Co_nn rfl);exact rfl;(with_reducible exact zAa);assumption;omega;exact fun _=>rfl)|apply ay (hd:=rfl)|exact zAE rfl|exact zAD rfl|(apply zA5;exact rfl;(with_reducible exact fn_2))|(apply zAi;exact rfl;(with_reducible exact zB4))|exact zAY rfl|exact zAR rfl|(apply zAS;exact rfl;(with_reducible exact fy_0))|(apply zAV;exact rfl;(with_reducible exact zEH);exact rfl;exact rfl)|(apply zAU;exact rfl)|apply zAT|apply zAN
    exact zAh (zAL (zAA rfl zAW) (zAB rfl rfl (zAB rfl rfl (zAB rfl rfl zAK))) rfl rfl)
set_option maxHeartbeats 1000000 in
theorem zSI (L : List Nd) (E : List Sg) (S : TS) (a b : List Nd) (h : S.er ≠ 0) : zAx Tryz.prog 66 [.ptr 0 0,.d (zAc a),.d (zAc b)] (tyO L E S) .top (tyO L E S):=by
  refine zAw Tryz.func66 rfl Tryz.ntmps66 Tryz.results66 rfl rfl rfl ?_
  intro wb St0 X fx
  repeat' first | apply en_n|apply zAH|apply zAC|apply zAF|apply w0|(apply k1u (hd:=rfl);exact rfl;exact rfl)|(apply zBW;exact rfl;exact rfl;first|assumption|omega)|exact zAe rfl|apply ay (hd:=rfl)|exact zAE rfl|exact zAo rfl rfl|exact zAR rfl|(apply zAS;exact rfl;(with_reducible exact fy_3))|(apply zAV;exact rfl;(with_reducible exact zCt);exact rfl;exact rfl)|(apply zAU;exact rfl)|apply zAT
  all_goals exact zFa ⟨rfl,zAL zAW (zAB rfl rfl (zAB rfl rfl (zAB rfl rfl zAK))) rfl rfl⟩
set_option maxHeartbeats 1000000 in
theorem zDH (L : List Nd) (E : List Sg) (S S' : TS) (q : Nat) (a b : List Nd) (hla : a.length ≤ 2000000) (hlb : b.length ≤ 2000000) (hL : StoB S.st) (h : zCy q S a b = some S') : zAx Tryz.prog 66 [.ptr 0 0,.d (zAc a),.d (zAc b)] (tyO L E S) .top (tyO L E S'):=by
  unfold zCy at h
  by_cases h0 : S.er = 0
  · rw [if_neg (by omega)] at h
    cases hu : uniF q S.st a b with
    | none=>rw [hu] at h;cases h
    | some p =>
      obtain ⟨e,M⟩:=p
      rw [hu] at h
      have hq:=zRl S.nx q S.st a b e M hla hlb hL hu
      have hg:=zMw L E { S with st:=M } 112
      by_cases he : e = 0
      · simp only [he,ne_eq,not_true,if_false,Option.some.injEq] at h
        subst h
        refine zAw Tryz.func66 rfl Tryz.ntmps66 Tryz.results66 rfl rfl rfl ?_
        intro wb St0 X fx
        repeat' first | apply en_n|apply zAH|apply zAC|apply zAF|apply w0|(apply zBV;exact rfl;exact rfl;first|assumption|omega)|(apply zBm;exact rfl;exact rfl;first|assumption|omega)|exact zAe rfl|(refine zAy [1,2] zLg (hq) ?_ rfl rfl (by decide) rfl rfl rfl rfl rfl rfl ?_;(repeat (refine zAI rfl ?_));exact zAM)|apply ay (hd:=rfl)|exact zAE rfl|exact zAq rfl rfl|exact zAR rfl|(apply zAS;exact rfl;(with_reducible first|exact fy_0|exact fy_3))|(apply zAV;exact rfl;(with_reducible first|exact zEH|exact zCt);exact rfl;exact rfl)|(apply w1;exact rfl;exact rfl)|(apply zAU;exact rfl)|apply zAT
        all_goals exact zFa ⟨rfl,zAL zAW (zAB rfl rfl (zAB rfl rfl (zAB rfl rfl zAK))) rfl rfl⟩
      · simp only [he,ne_eq,not_false_eq_true,if_true,Option.some.injEq] at h
        subst h
        refine zAw Tryz.func66 rfl Tryz.ntmps66 Tryz.results66 rfl rfl rfl ?_
        intro wb St0 X fx
        repeat' first | apply en_n|apply zAH|apply zAC|apply zAF|apply w0|(apply zBV;exact rfl;exact rfl;first|assumption|omega)|(apply zCT;exact rfl;exact rfl;first|assumption|omega)|exact zAe rfl|(refine zAy [1,2] zLg (hq) ?_ rfl rfl (by decide) rfl rfl rfl rfl rfl rfl ?_;(repeat (refine zAI rfl ?_));exact zAM)|(refine zAy [0,1,2] zKT (hg) ?_ rfl rfl (by decide) rfl rfl rfl rfl rfl rfl ?_;(repeat (refine zAI rfl ?_));exact zAM)|apply ay (hd:=rfl)|exact zAE rfl|exact zAq rfl rfl|exact zAR rfl|(apply zAS;exact rfl;(with_reducible first|exact fy_0|exact fy_3))|(apply zAV;exact rfl;(with_reducible first|exact zEH|exact zCt);exact rfl;exact rfl)|(apply w1;exact rfl;exact rfl)|(apply zAQ;exact rfl)
        all_goals exact zFa ⟨rfl,zAL zAW (zAB rfl rfl (zAB rfl rfl (zAB rfl rfl zAK))) rfl rfl⟩
  · rw [if_pos h0] at h
    injection h with h;subst h
    exact zSI L E S a b h0
set_option maxHeartbeats 1000000 in
theorem zKF (L : List Nd) (E : List Sg) (S S' : TS) (q : Nat) (t r : List Nd) (hlt : t.length ≤ 1000000) (hL : StoB S.st) (h : zCI q S t = some (r,S')) : zAx Tryz.prog 38 [.ptr 0 0,.d (zAc t)] (tyO L E S) (.d (zAc r)) (tyO L E S'):=by
  unfold zCI at h
  have hg:=zMw L E S 113
  by_cases h0 : S.er = 0
  · rw [if_neg (by omega)] at h
    by_cases hc : ckT t = 0
    · rw [if_neg (by omega)] at h
      cases hz : zGE q S.st t [] with
      | none=>rw [hz] at h;cases h
      | some p =>
        obtain ⟨m,S2⟩:=p
        rw [hz] at h
        dsimp only at h
        by_cases hm : m > 4000
        · rw [if_pos hm] at h
          injection h with h;injection h with h1 h2;subst h1;subst h2
          have hq:=zNA S.nx S.st t q m S2 hL hlt hc hz hm
          refine zAw Tryz.func38 rfl Tryz.ntmps38 Tryz.results38 rfl rfl rfl ?_
          intro wb St0 X fx
          repeat' first | apply en_n|apply zAH|apply zAC|apply zAF|apply w0|(apply zCT;exact rfl;exact rfl;first|assumption|omega)|(apply zBm;exact rfl;exact rfl;first|assumption|omega)|exact zAe rfl|exact zCV rfl|exact zGJ rfl|exact zGI rfl|(refine zAy [1,2] zHT (hq) ?_ rfl rfl (by decide) rfl rfl rfl rfl rfl rfl ?_;(repeat (refine zAI rfl ?_));exact zAM)|(refine zAy [0,1,2] zKT (hg) ?_ rfl rfl (by decide) rfl rfl rfl rfl rfl rfl ?_;(repeat (refine zAI rfl ?_));exact zAM)|apply ay (hd:=rfl)|exact zAE rfl|exact zAD rfl|exact zAY rfl|exact zAR rfl|(apply zAS;exact rfl;(with_reducible first|exact fy_0|exact fy_3))|(apply zAV;exact rfl;(with_reducible first|exact zEH|exact zCt);exact rfl;exact rfl)|(apply zAQ;exact rfl)|(apply zAU;exact rfl)|apply zAT|apply zAN|apply en_r
          all_goals exact zAh (zAL (zAA rfl zAW) (zAB rfl rfl (zAB rfl rfl (zAB rfl rfl zAK))) rfl rfl)
        · rw [if_neg hm] at h
          cases hr : resF q S.st t with
          | none=>rw [hr] at h;cases h
          | some u =>
            rw [hr] at h
            dsimp only at h
            split at h
            case isFalse=>cases h
            rename_i hlr
            injection h with h;injection h with h1 h2;subst h1;subst h2
            have hq:=zPM S.nx S.st t u q q m S2 hL hlt hc hz hm hr (by omega)
            refine zAw Tryz.func38 rfl Tryz.ntmps38 Tryz.results38 rfl rfl rfl ?_
            intro wb St0 X fx
            repeat' first | apply en_n|apply zAH|apply zAC|apply zAF|apply w0|(apply zBm;exact rfl;exact rfl;first|assumption|omega)|exact zAe rfl|exact zCV rfl|exact zGJ rfl|exact zGI rfl|(refine zAy [1,2] zHT (hq) ?_ rfl rfl (by decide) rfl rfl rfl rfl rfl rfl ?_;(repeat (refine zAI rfl ?_));exact zAM)|apply ay (hd:=rfl)|exact zAE rfl|exact zAD rfl|exact zAY rfl|exact zAR rfl|(apply zAS;exact rfl;(with_reducible first|exact fy_0|exact fy_3))|(apply zAV;exact rfl;(with_reducible first|exact zEH|exact zCt);exact rfl;exact rfl)|(apply zAU;exact rfl)|apply zAT|apply zAN
            all_goals exact zAh (zAL (zAA rfl zAW) (zAB rfl rfl (zAB rfl rfl (zAB rfl rfl zAK))) rfl rfl)
    · rw [if_pos hc] at h
      injection h with h;injection h with h1 h2;subst h1;subst h2
      have hq:=zNB S.nx S.st t (by omega) hc
      refine zAw Tryz.func38 rfl Tryz.ntmps38 Tryz.results38 rfl rfl rfl ?_
      intro wb St0 X fx
      repeat' first | apply en_n|apply zAH|apply zAC|apply zAF|apply w0|(apply zCT;exact rfl;exact rfl;first|assumption|omega)|(apply zBm;exact rfl;exact rfl;first|assumption|omega)|exact zAe rfl|exact zCV rfl|exact zGJ rfl|exact zGI rfl|(refine zAy [1,2] zHT (hq) ?_ rfl rfl (by decide) rfl rfl rfl rfl rfl rfl ?_;(repeat (refine zAI rfl ?_));exact zAM)|(refine zAy [0,1,2] zKT (hg) ?_ rfl rfl (by decide) rfl rfl rfl rfl rfl rfl ?_;(repeat (refine zAI rfl ?_));exact zAM)|apply ay (hd:=rfl)|exact zAE rfl|exact zAD rfl|exact zAY rfl|exact zAR rfl|(apply zAS;exact rfl;(with_reducible first|exact fy_0|exact fy_3))|(apply zAV;exact rfl;(with_reducible first|exact zEH|exact zCt);exact rfl;exact rfl)|(apply zAQ;exact rfl)|(apply zAU;exact rfl)|apply zAT|apply zAN|apply en_r
      all_goals exact zAh (zAL (zAA rfl zAW) (zAB rfl rfl (zAB rfl rfl (zAB rfl rfl zAK))) rfl rfl)
  · rw [if_pos h0] at h
    injection h with h;injection h with h1 h2;subst h1;subst h2
    refine zAw Tryz.func38 rfl Tryz.ntmps38 Tryz.results38 rfl rfl rfl ?_
    intro wb St0 X fx
    repeat' first | apply en_n|apply zAH|apply zAC|apply zAF|apply w0|(apply zCT;exact rfl;exact rfl;first|assumption|omega)|exact zAe rfl|apply ay (hd:=rfl)|exact zAE rfl|exact zAD rfl|exact zAY rfl|exact zAR rfl|(apply zAS;exact rfl;(with_reducible exact fy_3))|(apply zAV;exact rfl;(with_reducible exact zCt);exact rfl;exact rfl)|(apply zAQ;exact rfl)|apply zAN|apply en_r
    all_goals exact zAh (zAL (zAA rfl zAW) (zAB rfl rfl (zAB rfl rfl (zAB rfl rfl zAK))) rfl rfl)
end Go.Proofs.YtblomnkamngnbaaGreatDoor

/- Texts of this claim, merged: InfYA. -/
import Derived.Test.YtblomnkamngnbaaGreatDoorMAQ
import Derived.Test.YtblomnkamngnbaaGreatDoorMAZ
import Derived.Test.YtblomnkamngnbaaGreatDoorMBB
import Derived.Test.YtblomnkamngnbaaGreatDoorMBC
namespace Go.Proofs.YtblomnkamngnbaaGreatDoor
open Go.Sx
abbrev zHU (E : List Sg) (z : List UInt8) : Int:=idxP (fun u : Sg=>decide (u.name = z)) E
abbrev tOb (E : List Sg) : List Ob:=[.bx none none [.d (sigs E)],.bx none none [.clo 57 [0]]]
def conB (E : List Sg) (x : Nd) : Bool:=if x.kind = 4 ∨ x.kind = 24 then (match E.find? (fun s=>decide (s.name = x.text)) with
    | none=>false
    | some s=>if x.kind = 24 then decide (((zCG s.ty).1.length : Int) = x.kids) else true) else true
def nmdF (E : List Sg) (L : List Nd) (F : List (List UInt8)) : Bool:=L.all (conB E) && !(F.any fun z=>decide (zHU E z < 0))
attribute [local irreducible] zAT Program.underlying Ylds zBA alex zBe zBP awp zAj zBZ zBk zA2 zBH zBR zA8 zBV zBb zBf zBu zBO VCall
theorem zOA (x : List UInt8) (u : Sg) : zBH Tryz.prog 58 [.d u.av,.ptr 0 0] [.box [.d (str x)]] (bl (decide (u.name = x))):=by
  refine zBx Tryz.func58 rfl Tryz.ntmps58 Tryz.results58 rfl ?_
  intro wb St0
  repeat' first | apply en_n|apply zAH|apply zAB|apply zAF|apply w0|exact zGo rfl rfl|(apply aBox (hd:=rfl) (hro:=rfl);exact rfl;exact rfl)|apply ay (hd:=rfl)|exact zAC rfl|(apply zAR;exact rfl;(with_reducible exact fg_0))|(apply zAU;exact rfl;(with_reducible exact zAv);exact rfl;exact rfl)|apply zAM|apply zAJ|(apply res1;exact rfl)
  rfl
theorem zKz (E : List Sg) (hE : E.length ≤ 1000000) (x : List UInt8) : zBH Tryz.prog 57 [.d (str x),.ptr 0 0] [.bx none none [.d (sigs E)]] (i64 (zHU E x)):=by
  refine zBx Tryz.func57 rfl Tryz.ntmps57 Tryz.results57 rfl ?_
  intro wb St0
  have hif:=zQw 58 (str x) (fun u=>decide (u.name = x)) zOJ (zOA x) E (by omega)
  repeat' first | apply en_n|apply zAH|apply zAB|apply zAF|apply w0|(refine zBB [1] [] rfl rfl zPs (hif) rfl ?_ rfl (by decide) rfl rfl rfl rfl;(repeat (refine zAL rfl ?_));exact zAS)|(apply aBox (hd:=rfl) (hro:=rfl);exact rfl;exact rfl)|apply ay (hd:=rfl)|exact zAC rfl|(apply zAU;exact rfl;(with_reducible exact zH3);exact rfl;exact rfl)|exact zGA rfl|apply zAM|apply zAJ|(apply res1;exact rfl)
  rfl
theorem zPV (E : List Sg) (hE : E.length ≤ 1000000) (x : List UInt8) : zBH Tryz.prog 61 [.d (str x),.ptr 1 0] (tOb E) (bl (decide (zHU E x < 0))):=by
  refine zBx Tryz.func61 rfl Tryz.ntmps61 Tryz.results61 rfl ?_
  intro wb St0
  have h1:=zKz E hE x
  repeat' first | apply en_n|apply zAH|apply zAB|apply zAF|apply w0|(refine zBB [0] [0] rfl rfl zFM (h1) rfl ?_ rfl (by decide) rfl rfl rfl rfl;(repeat (refine zAL rfl ?_));exact zAS)|apply ay (hd:=rfl)|exact zAE rfl|exact zAC rfl|exact zCT rfl rfl|(apply zAU;exact rfl;(with_reducible exact zI1);exact rfl;exact rfl)|apply zAM|apply zAJ|(apply res1;exact rfl)
  rfl
theorem zVG (E : List Sg) (hE : E.length ≤ 1000000) (l : List (List UInt8)) (hl : l.length ≤ 2000000) :
    zBH Tryz.prog 105 [.d (strs l),.clo 61 [1]] (tOb E) (i64 (idxP (fun z=>decide (zHU E z < 0)) l)):=by
  refine zBx Tryz.func105 rfl Tryz.ntmps105 Tryz.results105 rfl ?_
  intro wb St0
  repeat' first | apply en_n|apply zAH|apply zAB|apply zAF|apply w0|apply ay (hd:=rfl)|exact zAE rfl|exact zAC rfl|(apply zAl;exact rfl;(with_reducible first|exact zC5|exact zC5))|apply zAI
  refine zAr (α:=Nat) (fun i=>i ≤ l.length ∧ ∀ (j : Nat) u,j < i → l[j]? = some u → decide (zHU E u < 0) = false) (fun i=>[(0,.d (strs l)),(1,.clo 61 [1]),(7,.d (i64 (l.length : Int))),(8,.d (i64 (i : Int)))]) (fun _=>tOb E) (fun i=>l.length - i) 0 ⟨Nat.zero_le _,fun j u h=>by omega⟩
    (zAO (zAA rfl (zAA rfl (Le_d rfl (by simp []) (zAA rfl zAa)))) (zAD rfl rfl (zAD rfl rfl zAN)) rfl rfl) ?_
  rintro i ⟨hi1,hi2⟩
  rcases Nat.lt_or_ge i l.length with hlt | hge
  · have hv : l[i]? = some l[i]:=List.getElem?_eq_getElem hlt
    generalize l[i] = v at hv
    have hv0 : l[((i : Nat) : Int).toNat]? = some v:=by rw [Int.toNat_natCast];exact hv
    have h2:=zPV E hE v
    have hli : (i : Int) < (l.length : Int):=by omega
    by_cases hb9 : zHU E v < 0
    · rw [decide_eq_true hb9] at h2
      skip
      repeat' first | apply en_n|apply zAH|apply zAB|apply zAF|apply w0|(apply zA5;exact rfl;exact rfl;first|assumption|omega)|exact zBF rfl|(refine zBB [0,1] [1] rfl rfl zLG (h2) rfl ?_ rfl (by decide) rfl rfl rfl rfl;(repeat (refine zAL rfl ?_));exact zAS)|(apply aJ (hd:=rfl);(first|exact zAk rfl|exact Co_bb rfl rfl rfl|exact Co_nn rfl);exact rfl;(with_reducible first|exact zBW|exact zBW);assumption;omega;exact fun _=>rfl)|apply ay (hd:=rfl)|exact zAE rfl|exact zAC rfl|(apply zAg;exact rfl;(with_reducible exact zAv))|(apply zAK;exact rfl)|apply zAI|apply zAP|apply zAM|apply en_r|apply eb_r|apply zAJ|(apply res1;exact rfl)
      all_goals first | omega | skip
      all_goals exact zCr (zFi hi2 hv (decide_eq_true hb9)).symm
    · rw [decide_eq_false hb9] at h2
      skip
      repeat' first | apply en_n|apply zAH|apply zAB|apply zAF|apply w0|(apply zA5;exact rfl;exact rfl;first|assumption|omega)|exact zBF rfl|(refine zBB [0,1] [1] rfl rfl zLG (h2) rfl ?_ rfl (by decide) rfl rfl rfl rfl;(repeat (refine zAL rfl ?_));exact zAS)|(apply aJ (hd:=rfl);(first|exact zAk rfl|exact Co_bb rfl rfl rfl|exact Co_nn rfl);exact rfl;(with_reducible first|exact zBW|exact zBW);assumption;omega;exact fun _=>rfl)|apply ay (hd:=rfl)|exact zAE rfl|exact zAC rfl|(apply zAg;exact rfl;(with_reducible exact zAv))|(apply zBC;exact rfl;exact rfl)|(apply zAK;exact rfl)|(apply zAQ;exact rfl)|apply zAI|apply zAP|apply eb_n
      all_goals first | omega | skip
      all_goals
        refine ⟨i + 1,⟨by omega,fun j u hj hu=>?_⟩,by omega,zAO (zAA rfl (zAA rfl (zAA rfl (zAA rfl zAa)))) (zAD rfl rfl (zAD rfl rfl zAN)) rfl rfl⟩
        rcases Nat.lt_or_ge j i with h1 | h1
        · exact hi2 j u h1 hu
        · rw [show j = i by omega,hv] at hu;injection hu with hu;subst hu;exact decide_eq_false hb9
  · have hli : ¬ (i : Int) < (l.length : Int):=by omega
    skip
    repeat' first | apply en_n|apply zAH|apply zAB|apply zAF|apply w0|(apply zBq;exact rfl;exact rfl;first|assumption|omega)|apply ay (hd:=rfl)|exact zAC rfl|(apply zAQ;exact rfl)|apply zAM|apply zAt|apply en_e|apply eb_e|apply zAJ|(apply res1;exact rfl)
    exact zCr (zDg fun j u hu=>hi2 j u (by have:=(List.getElem?_eq_some_iff.1 hu).1;omega) hu).symm
theorem zVM (E : List Sg) (hE : E.length ≤ 1000000) (l : List (List UInt8)) (hl : l.length ≤ 2000000) :
    zBH Tryz.prog 59 [.d (strs l),.clo 61 [1]] (tOb E) (bl (l.any fun z=>decide (zHU E z < 0))):=by
  refine zBx Tryz.func59 rfl Tryz.ntmps59 Tryz.results59 rfl ?_
  intro wb St0
  have hif:=zVG E hE l hl
  repeat' first | apply en_n|apply zAH|apply zAB|apply zAF|apply w0|exact zBF rfl|(refine zBB [0,1] [] rfl rfl zUc (hif) rfl ?_ rfl (by decide) rfl rfl rfl rfl;(repeat (refine zAL rfl ?_));exact zAS)|apply ay (hd:=rfl)|exact zAE rfl|exact zAC rfl|exact zEU rfl rfl|apply zAM|apply zAJ|(apply res1;exact rfl)
  refine zDB ?_
  by_cases h : (l.any fun z=>decide (zHU E z < 0)) = true
  · rw [h];exact decide_eq_true (zHs.2 h)
  · rw [Bool.eq_false_iff.2 h];exact decide_eq_false fun c=>h (zHs.1 c)
set_option maxHeartbeats 4000000 in
theorem zK5 (E : List Sg) (L : List Nd) (F : List (List UInt8)) (hE : E.length ≤ 1000000) (hT : ∀ s ∈ E,s.ty.length ≤ 1000000) (hL : L.length ≤ 1000000) (hF : F.length ≤ 1000000) (hfr : zAj Tryz.prog 60 [zAc L] (strs F)) :
    zAj Tryz.prog 36 [sigs E,zAc L] (bl (nmdF E L F)):=by
  refine zAd Tryz.func36 rfl Tryz.ntmps36 Tryz.results36 rfl ?_
  intro wb St0
  have hcf:=zVM E hE F (by omega)
  repeat' first | apply en_n|apply zAH|apply zAB|apply zAF|apply w0|(apply aBox (hd:=rfl) (hro:=rfl);exact rfl;exact rfl)|(apply zA4 (hd:=rfl) (hro:=rfl);(with_reducible exact zT4))|apply ay (hd:=rfl)|exact zAE rfl|exact zAC rfl|(apply zAl;exact rfl;(with_reducible exact zA0))|exact zGA rfl|(refine w0' ?_)|(apply zAx;exact rfl;exact rfl;exact rfl;(with_reducible exact zI1);exact rfl;exact rfl;exact rfl;exact rfl)|apply zAI
  refine zAr (α:=Nat) (fun i=>i ≤ L.length ∧ L.all (conB E) = (L.drop i).all (conB E)) (fun i=>[(1,.d (zAc L)),(2,.ptr 0 0),(5,.ptr 1 0),(12,.d (zAc L)),(13,.d (i64 (L.length : Int))),(14,.d (i64 (i : Int)))]) (fun _=>tOb E) (fun i=>L.length - i) 0 ⟨Nat.zero_le _,rfl⟩
    (zAO (zAA rfl (zAA rfl (zAA rfl (zAA rfl (Le_d rfl rfl (zAA rfl zAa)))))) (zAD rfl rfl (zGq rfl zEQ zAN)) rfl rfl) ?_
  rintro i ⟨hi1,hi2⟩
  rcases Nat.lt_or_ge i L.length with hlt | hge
  · have hx : L[i]? = some L[i]:=List.getElem?_eq_getElem hlt
    have hdr : (L.drop i).all (conB E) = (conB E L[i] && (L.drop (i + 1)).all (conB E)):=by rw [List.drop_eq_getElem_cons hlt,List.all_cons]
    generalize L[i] = x at hx hdr
    have hli : (i : Int) < (L.length : Int):=by omega
    have go : conB E x = true → ∃ y,(y ≤ L.length ∧ L.all (conB E) = (L.drop y).all (conB E)) ∧ L.length - y < L.length - i ∧ y = i + 1:=fun h=>⟨i + 1,⟨by omega,by rw [hi2,hdr,h,Bool.true_and]⟩,by omega,rfl⟩
    have no : conB E x = false → nmdF E L F = false:=fun h=>by rw [nmdF,hi2,hdr,h];rfl
    have hn1:=zKz E hE x.text
    by_cases hk : x.kind = 4 ∨ x.kind = 24
    · rcases zFP (p:=fun s : Sg=>decide (s.name = x.text)) (l:=E) with ⟨h1,h2⟩ | ⟨j,s,h1,h2,h3⟩
      · have hcb : conB E x = false:=by rw [conB,if_pos hk,h1]
        have hno:=no hcb
        rw [hno]
        have hn2 : zHU E x.text < 0:=by show idxP _ E < 0;omega
        clear go no hi2 hdr hcf hfr
        rcases hk with hk | hk
        all_goals skip
        repeat' first | apply en_n|apply zAH|apply zAB|apply zAF|apply w0|(apply k1u (hd:=rfl);exact rfl;exact rfl)|(apply zA5;exact rfl;exact rfl;first|assumption|omega)|(apply zB7;exact rfl;exact rfl;first|assumption|omega)|(apply zBU;exact rfl;exact rfl;first|assumption|omega)|(refine zBB [0] [0] rfl rfl zFM (hn1) rfl ?_ rfl (by decide) rfl rfl rfl rfl;(repeat (refine zAL rfl ?_));exact zAS)|(apply aJ (hd:=rfl);(first|exact zAk rfl|exact Co_bb rfl rfl rfl|exact Co_nn rfl);exact rfl;(with_reducible exact zAW);assumption;omega;exact fun _=>rfl)|(apply zA4 (hd:=rfl) (hro:=rfl);(with_reducible exact zAp))|apply ay (hd:=rfl)|exact zAE rfl|exact zAC rfl|(apply zAf;exact rfl;(with_reducible exact zAY);exact rfl)|exact zAi rfl rfl|exact zAh rfl rfl|(apply zAR;exact rfl;(with_reducible first|exact fn_0|exact fn_1))|(apply zAU;exact rfl;(with_reducible first|exact zI1|exact zAe|exact zAv);exact rfl;exact rfl)|(apply w1;exact rfl;exact rfl)|(refine w0' ?_)|(apply zAx;exact rfl;exact rfl;exact rfl;(with_reducible exact zAY);exact rfl;exact rfl;exact rfl;exact rfl)|(apply zAK;exact rfl)|(apply zAQ;exact rfl)|apply zAI|apply zAP|apply zAM|apply en_r|apply eb_r|apply zAJ|(apply res1;exact rfl)
        all_goals rfl
      · have hs:=hT s (List.mem_of_getElem? h1)
        have hpf:=zFW s.ty (by omega)
        have hn2 : zHU E x.text = (j : Int):=h2
        rw [hn2] at hn1
        have hj : (j : Int) < (E.length : Int):=by have:=(List.getElem?_eq_some_iff.1 h1).1;omega
        rcases hk with hk | hk
        · have hcb : conB E x = true:=by rw [conB,if_pos (.inl hk),h3];simp only;rw [if_neg (by omega)]
          obtain ⟨y,hy1,hy2,rfl⟩:=go hcb
          clear go no hi2 hdr hcf hfr
          skip
          repeat' first | apply en_n|apply zAH|apply zAB|apply zAF|apply w0|(apply k1u (hd:=rfl);exact rfl;exact rfl)|(apply zA5;exact rfl;exact rfl;first|assumption|omega)|(apply zBq;exact rfl;exact rfl;first|assumption|omega)|(apply zA9;exact rfl;exact rfl;first|assumption|omega)|(apply zBU;exact rfl;exact rfl;first|assumption|omega)|(refine zAV zEx hpf (zAX rfl zAG))|(refine zBB [0] [0] rfl rfl zFM (hn1) rfl ?_ rfl (by decide) rfl rfl rfl rfl;(repeat (refine zAL rfl ?_));exact zAS)|(apply aJ (hd:=rfl);(first|exact zAk rfl|exact Co_bb rfl rfl rfl|exact Co_nn rfl);exact rfl;(with_reducible first|exact zCL|exact zAW);assumption;omega;exact fun _=>rfl)|(apply zA4 (hd:=rfl) (hro:=rfl);(with_reducible exact zAp))|apply ay (hd:=rfl)|exact zAE rfl|exact zAC rfl|(apply zAy;exact rfl;(with_reducible exact fg_1))|(apply zAg;exact rfl;(with_reducible exact zAn))|(apply zAf;exact rfl;(with_reducible exact zAY);exact rfl)|(apply zBC;exact rfl;exact rfl)|exact zAh rfl rfl|exact zBQ rfl rfl|(apply zAR;exact rfl;(with_reducible first|exact fn_0|exact fn_1))|(apply zAU;exact rfl;(with_reducible first|exact zH3|exact zI1|exact zAe|exact zAv);exact rfl;exact rfl)|(refine w0' ?_)|(apply zAx;exact rfl;exact rfl;exact rfl;(with_reducible exact zAY);exact rfl;exact rfl;exact rfl;exact rfl)|(apply zAK;exact rfl)|(apply zAQ;exact rfl)|apply zAI|apply zAP|apply eb_n
          all_goals first | omega | skip
          all_goals exact ⟨_,hy1,hy2,zAO (zAA rfl (zAA rfl (zAA rfl (zAA rfl (zAA rfl (zAA rfl zAa)))))) (zAD rfl rfl (zAD rfl rfl zAN)) rfl rfl⟩
        · by_cases hp : ((zCG s.ty).1.length : Int) = x.kids
          · have hcb : conB E x = true:=by rw [conB,if_pos (.inr hk),h3];simp only;rw [if_pos hk];exact decide_eq_true hp
            obtain ⟨y,hy1,hy2,rfl⟩:=go hcb
            clear go no hi2 hdr hcf hfr
            skip
            repeat' first | apply en_n|apply zAH|apply zAB|apply zAF|apply w0|(apply zA5;exact rfl;exact rfl;first|assumption|omega)|(apply zBq;exact rfl;exact rfl;first|assumption|omega)|(apply zBD;exact rfl;exact rfl;first|assumption|omega)|(apply zB7;exact rfl;exact rfl;first|assumption|omega)|(apply zBU;exact rfl;exact rfl;first|assumption|omega)|(refine zAV zEx hpf (zAX rfl zAG))|(refine zBB [0] [0] rfl rfl zFM (hn1) rfl ?_ rfl (by decide) rfl rfl rfl rfl;(repeat (refine zAL rfl ?_));exact zAS)|(apply aJ (hd:=rfl);(first|exact zAk rfl|exact Co_bb rfl rfl rfl|exact Co_nn rfl);exact rfl;(with_reducible first|exact zCL|exact zAW);assumption;omega;exact fun _=>rfl)|(apply zA4 (hd:=rfl) (hro:=rfl);(with_reducible exact zAp))|apply ay (hd:=rfl)|exact zAE rfl|exact zAC rfl|(apply zAy;exact rfl;(with_reducible exact fg_1))|(apply zAg;exact rfl;(with_reducible exact zAn))|(apply zAf;exact rfl;(with_reducible exact zAY);exact rfl)|(apply zAl;exact rfl;(with_reducible exact zGf))|(apply zBC;exact rfl;exact rfl)|exact zAi rfl rfl|exact zBQ rfl rfl|(apply zAR;exact rfl;(with_reducible first|exact fn_0|exact fn_1|exact fn_3))|(apply zAU;exact rfl;(with_reducible first|exact zH3|exact zI1|exact zAs|exact zAe|exact zAv);exact rfl;exact rfl)|(apply w1;exact rfl;exact rfl)|(refine w0' ?_)|(apply zAx;exact rfl;exact rfl;exact rfl;(with_reducible exact zAY);exact rfl;exact rfl;exact rfl;exact rfl)|(apply zAK;exact rfl)|(apply zAQ;exact rfl)|apply zAI|apply zAP|apply eb_n
            all_goals first | omega | skip
            all_goals exact ⟨_,hy1,hy2,zAO (zAA rfl (zAA rfl (zAA rfl (zAA rfl (zAA rfl (zAA rfl zAa)))))) (zAD rfl rfl (zAD rfl rfl zAN)) rfl rfl⟩
          · have hcb : conB E x = false:=by rw [conB,if_pos (.inr hk),h3];simp only;rw [if_pos hk];exact decide_eq_false hp
            rw [no hcb]
            clear go no hi2 hdr hcf hfr
            skip
            repeat' first | apply en_n|apply zAH|apply zAB|apply zAF|apply w0|(apply zA5;exact rfl;exact rfl;first|assumption|omega)|(apply zBq;exact rfl;exact rfl;first|assumption|omega)|(apply zBD;exact rfl;exact rfl;first|assumption|omega)|(apply zB7;exact rfl;exact rfl;first|assumption|omega)|(apply zBU;exact rfl;exact rfl;first|assumption|omega)|(refine zAV zEx hpf (zAX rfl zAG))|(refine zBB [0] [0] rfl rfl zFM (hn1) rfl ?_ rfl (by decide) rfl rfl rfl rfl;(repeat (refine zAL rfl ?_));exact zAS)|(apply aJ (hd:=rfl);(first|exact zAk rfl|exact Co_bb rfl rfl rfl|exact Co_nn rfl);exact rfl;(with_reducible first|exact zCL|exact zAW);assumption;omega;exact fun _=>rfl)|(apply zA4 (hd:=rfl) (hro:=rfl);(with_reducible exact zAp))|apply ay (hd:=rfl)|exact zAE rfl|exact zAC rfl|(apply zAy;exact rfl;(with_reducible exact fg_1))|(apply zAg;exact rfl;(with_reducible exact zAn))|(apply zAf;exact rfl;(with_reducible exact zAY);exact rfl)|(apply zAl;exact rfl;(with_reducible exact zGf))|exact zAi rfl rfl|exact zBQ rfl rfl|(apply zAR;exact rfl;(with_reducible first|exact fn_0|exact fn_1|exact fn_3))|(apply zAU;exact rfl;(with_reducible first|exact zH3|exact zI1|exact zAs|exact zAe|exact zAv);exact rfl;exact rfl)|(apply w1;exact rfl;exact rfl)|(refine w0' ?_)|(apply zAx;exact rfl;exact rfl;exact rfl;(with_reducible exact zAY);exact rfl;exact rfl;exact rfl;exact rfl)|(apply zAK;exact rfl)|(apply zAQ;exact rfl)|apply zAI|apply zAP|apply zAM|apply en_r|apply eb_r|apply zAJ|(apply res1;exact rfl)
            all_goals first | omega | rfl
    · have hcb : conB E x = true:=by rw [conB,if_neg hk]
      obtain ⟨y,hy1,hy2,rfl⟩:=go hcb
      have hk4 : x.kind ≠ 4:=fun c=>hk (.inl c)
      have hk24 : x.kind ≠ 24:=fun c=>hk (.inr c)
      clear go no hi2 hdr hcf hfr hn1
      skip
      repeat' first | apply en_n|apply zAH|apply zAB|apply zAF|apply w0|(apply zA5;exact rfl;exact rfl;first|assumption|omega)|(apply zB7;exact rfl;exact rfl;first|assumption|omega)|(apply aJ (hd:=rfl);(first|exact zAk rfl|exact Co_bb rfl rfl rfl|exact Co_nn rfl);exact rfl;(with_reducible exact zAW);assumption;omega;exact fun _=>rfl)|(apply zA4 (hd:=rfl) (hro:=rfl);(with_reducible exact zAp))|apply ay (hd:=rfl)|exact zAE rfl|(apply zAf;exact rfl;(with_reducible exact zAY);exact rfl)|(apply zBC;exact rfl;exact rfl)|exact zAi rfl rfl|(apply zAR;exact rfl;(with_reducible exact fn_0))|(apply zAU;exact rfl;(with_reducible exact zAe);exact rfl;exact rfl)|(apply w1;exact rfl;exact rfl)|(refine w0' ?_)|(apply zAx;exact rfl;exact rfl;exact rfl;(with_reducible exact zAY);exact rfl;exact rfl;exact rfl;exact rfl)|(apply zAK;exact rfl)|apply zAI|apply zAP|apply zAt|apply en_e|apply eb_e
      all_goals first | omega | skip
      all_goals exact ⟨_,hy1,hy2,zAO (zAA rfl (zAA rfl (zAA rfl (zAA rfl (zAA rfl (zAA rfl zAa)))))) (zAD rfl rfl (zAD rfl rfl zAN)) rfl rfl⟩
  · have hli : ¬ (i : Int) < (L.length : Int):=by omega
    have hall : L.all (conB E) = true:=by rw [hi2,List.drop_of_length_le hge];rfl
    have hr : nmdF E L F = !(F.any fun z=>decide (zHU E z < 0)):=by rw [nmdF,hall,Bool.true_and]
    rw [hr]
    generalize (F.any fun z=>decide (zHU E z < 0)) = bb at *
    clear hr hall hi2
    skip
    repeat' first | apply en_n|apply zAH|apply zAB|apply zAF|apply w0|(apply zBq;exact rfl;exact rfl;first|assumption|omega)|(refine zAV zTR hfr (zAX rfl zAG))|(refine zBB [0,1] [] rfl rfl zUf (hcf) rfl ?_ rfl (by decide) rfl rfl rfl rfl;(repeat (refine zAL rfl ?_));exact zAS)|apply ay (hd:=rfl)|exact zAE rfl|exact zAC rfl|exact zBr rfl|exact zGA rfl|(apply zAQ;exact rfl)|apply zAM|apply zAt|apply en_e|apply eb_e|apply zAJ|(apply res1;exact rfl)
    all_goals rfl
end Go.Proofs.YtblomnkamngnbaaGreatDoor

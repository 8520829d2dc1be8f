/- Texts of this claim, merged: InfYA. -/
import Derived.Test.YtblomnkamngnbaaGreatDoorMAR
import Derived.Test.YtblomnkamngnbaaGreatDoorMBA
import Derived.Test.YtblomnkamngnbaaGreatDoorMBD
import Derived.Test.YtblomnkamngnbaaGreatDoorMBE
namespace Go.Proofs.YtblomnkamngnbaaGreatDoor
open Go.Sx
abbrev zHG (E : List Sg) (z : List UInt8) : Int:=idxP (fun u : Sg=>decide (u.name = z)) E
abbrev tOb (E : List Sg) : List Ob:=[.bx none none [.d (sigs E)],.bx none none [.clo 57 [0]]]
def conB (E : List Sg) (x : Nd) : Bool:=if x.kind = 4 ∨ x.kind = 24 then (match E.find? (fun s=>decide (s.name = x.text)) with
    | none=>false
    | some s=>if x.kind = 24 then decide (((zBp s.ty).1.length : Int) = x.kids) else true) else true
def nmdF (E : List Sg) (L : List Nd) (F : List (List UInt8)) : Bool:=L.all (conB E) && !(F.any fun z=>decide (zHG E z < 0))
attribute [local irreducible] zAO Program.underlying Ylds zA3 alex zBY zBN awp zAm zBT zBe zAx zBA zBP zA2 zBR zBX zBa zBq zBI VCall
theorem zOo (x : List UInt8) (u : Sg) : zBA Tryz.prog 58 [.d u.av,.ptr 0 0] [.box [.d (str x)]] (bl (decide (u.name = x))):=by
  refine zBw Tryz.func58 rfl Tryz.ntmps58 Tryz.results58 rfl ?_
  intro wb St0
  repeat' first | apply en_n|apply zAH|apply zAC|apply zAF|apply w0|exact zHa rfl rfl|(apply aBox (hd:=rfl) (hro:=rfl);exact rfl;exact rfl)|apply ay (hd:=rfl)|exact zAD rfl|(apply zAS;exact rfl;(with_reducible exact fg_0))|(apply zAV;exact rfl;(with_reducible exact zA4);exact rfl;exact rfl)|apply zAN|apply zAP|(apply res1;exact rfl)
  rfl
theorem zLR (E : List Sg) (hE : E.length ≤ 1000000) (x : List UInt8) : zBA Tryz.prog 57 [.d (str x),.ptr 0 0] [.bx none none [.d (sigs E)]] (i64 (zHG E x)):=by
  refine zBw Tryz.func57 rfl Tryz.ntmps57 Tryz.results57 rfl ?_
  intro wb St0
  have hif:=zRr 58 (str x) (fun u=>decide (u.name = x)) zOx (zOo x) E (by omega)
  repeat' first | apply en_n|apply zAH|apply zAC|apply zAF|apply w0|(refine zA6 [1] [] rfl rfl zQi (hif) rfl ?_ rfl (by decide) rfl rfl rfl rfl;(repeat (refine zAI rfl ?_));exact zAM)|(apply aBox (hd:=rfl) (hro:=rfl);exact rfl;exact rfl)|apply ay (hd:=rfl)|exact zAD rfl|(apply zAV;exact rfl;(with_reducible exact zIF);exact rfl;exact rfl)|exact zGV rfl|apply zAN|apply zAP|(apply res1;exact rfl)
  rfl
theorem zQH (E : List Sg) (hE : E.length ≤ 1000000) (x : List UInt8) : zBA Tryz.prog 61 [.d (str x),.ptr 1 0] (tOb E) (bl (decide (zHG E x < 0))):=by
  refine zBw Tryz.func61 rfl Tryz.ntmps61 Tryz.results61 rfl ?_
  intro wb St0
  have h1:=zLR E hE x
  repeat' first | apply en_n|apply zAH|apply zAC|apply zAF|apply w0|(refine zA6 [0] [0] rfl rfl zFg (h1) rfl ?_ rfl (by decide) rfl rfl rfl rfl;(repeat (refine zAI rfl ?_));exact zAM)|apply ay (hd:=rfl)|exact zAE rfl|exact zAD rfl|exact zDG rfl rfl|(apply zAV;exact rfl;(with_reducible exact zJH);exact rfl;exact rfl)|apply zAN|apply zAP|(apply res1;exact rfl)
  rfl
theorem zWH (E : List Sg) (hE : E.length ≤ 1000000) (l : List (List UInt8)) (hl : l.length ≤ 2000000) :
    zBA Tryz.prog 105 [.d (strs l),.clo 61 [1]] (tOb E) (i64 (idxP (fun z=>decide (zHG E z < 0)) l)):=by
  refine zBw Tryz.func105 rfl Tryz.ntmps105 Tryz.results105 rfl ?_
  intro wb St0
  repeat' first | apply en_n|apply zAH|apply zAC|apply zAF|apply w0|apply ay (hd:=rfl)|exact zAE rfl|exact zAD rfl|(apply zAr;exact rfl;(with_reducible first|exact zDu|exact zDu))|apply zAJ
  refine zAs (α:=Nat) (fun i=>i ≤ l.length ∧ ∀ (j : Nat) u,j < i → l[j]? = some u → decide (zHG E u < 0) = false) (fun i=>[(0,.d (strs l)),(1,.clo 61 [1]),(7,.d (i64 (l.length : Int))),(8,.d (i64 (i : Int)))]) (fun _=>tOb E) (fun i=>l.length - i) 0 ⟨Nat.zero_le _,fun j u h=>by omega⟩
    (zAL (zAA rfl (zAA rfl (Le_d rfl (by simp) (zAA rfl zAW)))) (zAB rfl rfl (zAB rfl rfl zAK)) rfl rfl) ?_
  rintro i ⟨hi1,hi2⟩
  rcases Nat.lt_or_ge i l.length with hlt | hge
  · have hv : l[i]? = some l[i]:=List.getElem?_eq_getElem hlt
    generalize l[i] = v at hv
    have hv0 : l[((i : Nat) : Int).toNat]? = some v:=by rw [Int.toNat_natCast];exact hv
    have h2:=zQH E hE v
    have hli : (i : Int) < (l.length : Int):=by omega
    by_cases hb9 : zHG E v < 0
    · rw [decide_eq_true hb9] at h2
      skip
      repeat' first | apply en_n|apply zAH|apply zAC|apply zAF|apply w0|(apply zBK;exact rfl;exact rfl;first|assumption|omega)|exact zA8 rfl|(refine zA6 [0,1] [1] rfl rfl zLf (h2) rfl ?_ rfl (by decide) rfl rfl rfl rfl;(repeat (refine zAI rfl ?_));exact zAM)|(apply aJ (hd:=rfl);(first|exact zAn rfl|exact Co_bb rfl rfl rfl|exact Co_nn rfl);exact rfl;(with_reducible first|exact zBx|exact zBx);assumption;omega;exact fun _=>rfl)|apply ay (hd:=rfl)|exact zAE rfl|exact zAD rfl|(apply zAi;exact rfl;(with_reducible exact zA4))|(apply zAQ;exact rfl)|apply zAJ|apply zAT|apply zAN|apply en_r|apply eb_r|apply zAP|(apply res1;exact rfl)
      all_goals first | omega | skip
      all_goals exact zDm (zF5 hi2 hv (decide_eq_true hb9)).symm
    · rw [decide_eq_false hb9] at h2
      skip
      repeat' first | apply en_n|apply zAH|apply zAC|apply zAF|apply w0|(apply zBK;exact rfl;exact rfl;first|assumption|omega)|exact zA8 rfl|(refine zA6 [0,1] [1] rfl rfl zLf (h2) rfl ?_ rfl (by decide) rfl rfl rfl rfl;(repeat (refine zAI rfl ?_));exact zAM)|(apply aJ (hd:=rfl);(first|exact zAn rfl|exact Co_bb rfl rfl rfl|exact Co_nn rfl);exact rfl;(with_reducible first|exact zBx|exact zBx);assumption;omega;exact fun _=>rfl)|apply ay (hd:=rfl)|exact zAE rfl|exact zAD rfl|(apply zAi;exact rfl;(with_reducible exact zA4))|(apply zBG;exact rfl;exact rfl)|(apply zAQ;exact rfl)|(apply zAU;exact rfl)|apply zAJ|apply zAT|apply eb_n
      all_goals first | omega | skip
      all_goals
        refine ⟨i + 1,⟨by omega,fun j u hj hu=>?_⟩,by omega,zAL (zAA rfl (zAA rfl (zAA rfl (zAA rfl zAW)))) (zAB rfl rfl (zAB rfl rfl zAK)) rfl rfl⟩
        rcases Nat.lt_or_ge j i with h1 | h1
        · exact hi2 j u h1 hu
        · rw [show j = i by omega,hv] at hu;injection hu with hu;subst hu;exact decide_eq_false hb9
  · have hli : ¬ (i : Int) < (l.length : Int):=by omega
    skip
    repeat' first | apply en_n|apply zAH|apply zAC|apply zAF|apply w0|(apply zCJ;exact rfl;exact rfl;first|assumption|omega)|apply ay (hd:=rfl)|exact zAD rfl|(apply zAU;exact rfl)|apply zAN|apply zAu|apply en_e|apply eb_e|apply zAP|(apply res1;exact rfl)
    exact zDm (zDl fun j u hu=>hi2 j u (by have:=(List.getElem?_eq_some_iff.1 hu).1;omega) hu).symm
theorem zWO (E : List Sg) (hE : E.length ≤ 1000000) (l : List (List UInt8)) (hl : l.length ≤ 2000000) :
    zBA Tryz.prog 59 [.d (strs l),.clo 61 [1]] (tOb E) (bl (l.any fun z=>decide (zHG E z < 0))):=by
  refine zBw Tryz.func59 rfl Tryz.ntmps59 Tryz.results59 rfl ?_
  intro wb St0
  have hif:=zWH E hE l hl
  repeat' first | apply en_n|apply zAH|apply zAC|apply zAF|apply w0|exact zA8 rfl|(refine zA6 [0,1] [] rfl rfl zVe (hif) rfl ?_ rfl (by decide) rfl rfl rfl rfl;(repeat (refine zAI rfl ?_));exact zAM)|apply ay (hd:=rfl)|exact zAE rfl|exact zAD rfl|exact zFp rfl rfl|apply zAN|apply zAP|(apply res1;exact rfl)
  refine zD6 ?_
  by_cases h : (l.any fun z=>decide (zHG E z < 0)) = true
  · rw [h];exact decide_eq_true (zH4.2 h)
  · rw [Bool.eq_false_iff.2 h];exact decide_eq_false fun c=>h (zH4.1 c)
set_option maxHeartbeats 4000000 in
theorem zLW (E : List Sg) (L : List Nd) (F : List (List UInt8)) (hE : E.length ≤ 1000000) (hT : ∀ s ∈ E,s.ty.length ≤ 1000000) (hL : L.length ≤ 1000000) (hF : F.length ≤ 1000000) (hfr : zAm Tryz.prog 60 [zAc L] (strs F)) :
    zAm Tryz.prog 36 [sigs E,zAc L] (bl (nmdF E L F)):=by
  refine zAd Tryz.func36 rfl Tryz.ntmps36 Tryz.results36 rfl ?_
  intro wb St0
  have hcf:=zWO E hE F (by omega)
  repeat' first | apply en_n|apply zAH|apply zAC|apply zAF|apply w0|(apply aBox (hd:=rfl) (hro:=rfl);exact rfl;exact rfl)|(apply zBE (hd:=rfl) (hro:=rfl);(with_reducible exact zU9))|apply ay (hd:=rfl)|exact zAE rfl|exact zAD rfl|(apply zAr;exact rfl;(with_reducible exact zA7))|exact zGV rfl|(refine w0' ?_)|(apply zA0;exact rfl;exact rfl;exact rfl;(with_reducible exact zJH);exact rfl;exact rfl;exact rfl;exact rfl)|apply zAJ
  refine zAs (α:=Nat) (fun i=>i ≤ L.length ∧ L.all (conB E) = (L.drop i).all (conB E)) (fun i=>[(1,.d (zAc L)),(2,.ptr 0 0),(5,.ptr 1 0),(12,.d (zAc L)),(13,.d (i64 (L.length : Int))),(14,.d (i64 (i : Int)))]) (fun _=>tOb E) (fun i=>L.length - i) 0 ⟨Nat.zero_le _,rfl⟩
    (zAL (zAA rfl (zAA rfl (zAA rfl (zAA rfl (Le_d rfl rfl (zAA rfl zAW)))))) (zAB rfl rfl (zHD rfl zEb zAK)) rfl rfl) ?_
  rintro i ⟨hi1,hi2⟩
  rcases Nat.lt_or_ge i L.length with hlt | hge
  · have hx : L[i]? = some L[i]:=List.getElem?_eq_getElem hlt
    have hdr : (L.drop i).all (conB E) = (conB E L[i] && (L.drop (i + 1)).all (conB E)):=by rw [List.drop_eq_getElem_cons hlt,List.all_cons]
    generalize L[i] = x at hx hdr
    have hli : (i : Int) < (L.length : Int):=by omega
    have go : conB E x = true → ∃ y,(y ≤ L.length ∧ L.all (conB E) = (L.drop y).all (conB E)) ∧ L.length - y < L.length - i ∧ y = i + 1:=fun h=>⟨i + 1,⟨by omega,by rw [hi2,hdr,h,Bool.true_and]⟩,by omega,rfl⟩
    have no : conB E x = false → nmdF E L F = false:=fun h=>by rw [nmdF,hi2,hdr,h];rfl
    have hn1:=zLR E hE x.text
    by_cases hk : x.kind = 4 ∨ x.kind = 24
    · rcases zEu (p:=fun s : Sg=>decide (s.name = x.text)) (l:=E) with ⟨h1,h2⟩ | ⟨j,s,h1,h2,h3⟩
      · have hcb : conB E x = false:=by rw [conB,if_pos hk,h1]
        have hno:=no hcb
        rw [hno]
        have hn2 : zHG E x.text < 0:=by show idxP _ E < 0;omega
        clear go no hi2 hdr hcf hfr
        rcases hk with hk | hk
        all_goals skip
        repeat' first | apply en_n|apply zAH|apply zAC|apply zAF|apply w0|(apply k1u (hd:=rfl);exact rfl;exact rfl)|(apply zBK;exact rfl;exact rfl;first|assumption|omega)|(apply zCT;exact rfl;exact rfl;first|assumption|omega)|(apply zBm;exact rfl;exact rfl;first|assumption|omega)|(refine zA6 [0] [0] rfl rfl zFg (hn1) rfl ?_ rfl (by decide) rfl rfl rfl rfl;(repeat (refine zAI rfl ?_));exact zAM)|(apply aJ (hd:=rfl);(first|exact zAn rfl|exact Co_bb rfl rfl rfl|exact Co_nn rfl);exact rfl;(with_reducible exact zAa);assumption;omega;exact fun _=>rfl)|(apply zBE (hd:=rfl) (hro:=rfl);(with_reducible exact zAp))|apply ay (hd:=rfl)|exact zAE rfl|exact zAD rfl|(apply zAf;exact rfl;(with_reducible exact zAb);exact rfl)|exact zAq rfl rfl|exact zAo rfl rfl|(apply zAS;exact rfl;(with_reducible first|exact fn_0|exact fn_1))|(apply zAV;exact rfl;(with_reducible first|exact zJH|exact zAk|exact zA4);exact rfl;exact rfl)|(apply w1;exact rfl;exact rfl)|(refine w0' ?_)|(apply zA0;exact rfl;exact rfl;exact rfl;(with_reducible exact zAb);exact rfl;exact rfl;exact rfl;exact rfl)|(apply zAQ;exact rfl)|(apply zAU;exact rfl)|apply zAJ|apply zAT|apply zAN|apply en_r|apply eb_r|apply zAP|(apply res1;exact rfl)
        all_goals rfl
      · have hs:=hT s (List.mem_of_getElem? h1)
        have hpf:=zFt s.ty (by omega)
        have hn2 : zHG E x.text = (j : Int):=h2
        rw [hn2] at hn1
        have hj : (j : Int) < (E.length : Int):=by have:=(List.getElem?_eq_some_iff.1 h1).1;omega
        rcases hk with hk | hk
        · have hcb : conB E x = true:=by rw [conB,if_pos (.inl hk),h3];simp only;rw [if_neg (by omega)]
          obtain ⟨y,hy1,hy2,rfl⟩:=go hcb
          clear go no hi2 hdr hcf hfr
          skip
          repeat' first | apply en_n|apply zAH|apply zAC|apply zAF|apply w0|(apply k1u (hd:=rfl);exact rfl;exact rfl)|(apply zBK;exact rfl;exact rfl;first|assumption|omega)|(apply zCJ;exact rfl;exact rfl;first|assumption|omega)|(apply zBW;exact rfl;exact rfl;first|assumption|omega)|(apply zBm;exact rfl;exact rfl;first|assumption|omega)|(refine zAX zFC hpf (zAZ rfl zAG))|(refine zA6 [0] [0] rfl rfl zFg (hn1) rfl ?_ rfl (by decide) rfl rfl rfl rfl;(repeat (refine zAI rfl ?_));exact zAM)|(apply aJ (hd:=rfl);(first|exact zAn rfl|exact Co_bb rfl rfl rfl|exact Co_nn rfl);exact rfl;(with_reducible first|exact zCL|exact zAa);assumption;omega;exact fun _=>rfl)|(apply zBE (hd:=rfl) (hro:=rfl);(with_reducible exact zAp))|apply ay (hd:=rfl)|exact zAE rfl|exact zAD rfl|(apply zA5;exact rfl;(with_reducible exact fg_1))|(apply zAi;exact rfl;(with_reducible exact zAg))|(apply zAf;exact rfl;(with_reducible exact zAb);exact rfl)|(apply zBG;exact rfl;exact rfl)|exact zAo rfl rfl|exact zBM rfl rfl|(apply zAS;exact rfl;(with_reducible first|exact fn_0|exact fn_1))|(apply zAV;exact rfl;(with_reducible first|exact zIF|exact zJH|exact zAk|exact zA4);exact rfl;exact rfl)|(refine w0' ?_)|(apply zA0;exact rfl;exact rfl;exact rfl;(with_reducible exact zAb);exact rfl;exact rfl;exact rfl;exact rfl)|(apply zAQ;exact rfl)|(apply zAU;exact rfl)|apply zAJ|apply zAT|apply eb_n
          all_goals first | omega | skip
          all_goals exact ⟨_,hy1,hy2,zAL (zAA rfl (zAA rfl (zAA rfl (zAA rfl (zAA rfl (zAA rfl zAW)))))) (zAB rfl rfl (zAB rfl rfl zAK)) rfl rfl⟩
        · by_cases hp : ((zBp s.ty).1.length : Int) = x.kids
          · have hcb : conB E x = true:=by rw [conB,if_pos (.inr hk),h3];simp only;rw [if_pos hk];exact decide_eq_true hp
            obtain ⟨y,hy1,hy2,rfl⟩:=go hcb
            clear go no hi2 hdr hcf hfr
            skip
            repeat' first | apply en_n|apply zAH|apply zAC|apply zAF|apply w0|(apply zBK;exact rfl;exact rfl;first|assumption|omega)|(apply zCJ;exact rfl;exact rfl;first|assumption|omega)|(apply zBV;exact rfl;exact rfl;first|assumption|omega)|(apply zCT;exact rfl;exact rfl;first|assumption|omega)|(apply zBm;exact rfl;exact rfl;first|assumption|omega)|(refine zAX zFC hpf (zAZ rfl zAG))|(refine zA6 [0] [0] rfl rfl zFg (hn1) rfl ?_ rfl (by decide) rfl rfl rfl rfl;(repeat (refine zAI rfl ?_));exact zAM)|(apply aJ (hd:=rfl);(first|exact zAn rfl|exact Co_bb rfl rfl rfl|exact Co_nn rfl);exact rfl;(with_reducible first|exact zCL|exact zAa);assumption;omega;exact fun _=>rfl)|(apply zBE (hd:=rfl) (hro:=rfl);(with_reducible exact zAp))|apply ay (hd:=rfl)|exact zAE rfl|exact zAD rfl|(apply zA5;exact rfl;(with_reducible exact fg_1))|(apply zAi;exact rfl;(with_reducible exact zAg))|(apply zAf;exact rfl;(with_reducible exact zAb);exact rfl)|(apply zAr;exact rfl;(with_reducible exact zG3))|(apply zBG;exact rfl;exact rfl)|exact zAq rfl rfl|exact zBM rfl rfl|(apply zAS;exact rfl;(with_reducible first|exact fn_0|exact fn_1|exact fn_3))|(apply zAV;exact rfl;(with_reducible first|exact zIF|exact zJH|exact zAz|exact zAk|exact zA4);exact rfl;exact rfl)|(apply w1;exact rfl;exact rfl)|(refine w0' ?_)|(apply zA0;exact rfl;exact rfl;exact rfl;(with_reducible exact zAb);exact rfl;exact rfl;exact rfl;exact rfl)|(apply zAQ;exact rfl)|(apply zAU;exact rfl)|apply zAJ|apply zAT|apply eb_n
            all_goals first | omega | skip
            all_goals exact ⟨_,hy1,hy2,zAL (zAA rfl (zAA rfl (zAA rfl (zAA rfl (zAA rfl (zAA rfl zAW)))))) (zAB rfl rfl (zAB rfl rfl zAK)) rfl rfl⟩
          · have hcb : conB E x = false:=by rw [conB,if_pos (.inr hk),h3];simp only;rw [if_pos hk];exact decide_eq_false hp
            rw [no hcb]
            clear go no hi2 hdr hcf hfr
            skip
            repeat' first | apply en_n|apply zAH|apply zAC|apply zAF|apply w0|(apply zBK;exact rfl;exact rfl;first|assumption|omega)|(apply zCJ;exact rfl;exact rfl;first|assumption|omega)|(apply zBV;exact rfl;exact rfl;first|assumption|omega)|(apply zCT;exact rfl;exact rfl;first|assumption|omega)|(apply zBm;exact rfl;exact rfl;first|assumption|omega)|(refine zAX zFC hpf (zAZ rfl zAG))|(refine zA6 [0] [0] rfl rfl zFg (hn1) rfl ?_ rfl (by decide) rfl rfl rfl rfl;(repeat (refine zAI rfl ?_));exact zAM)|(apply aJ (hd:=rfl);(first|exact zAn rfl|exact Co_bb rfl rfl rfl|exact Co_nn rfl);exact rfl;(with_reducible first|exact zCL|exact zAa);assumption;omega;exact fun _=>rfl)|(apply zBE (hd:=rfl) (hro:=rfl);(with_reducible exact zAp))|apply ay (hd:=rfl)|exact zAE rfl|exact zAD rfl|(apply zA5;exact rfl;(with_reducible exact fg_1))|(apply zAi;exact rfl;(with_reducible exact zAg))|(apply zAf;exact rfl;(with_reducible exact zAb);exact rfl)|(apply zAr;exact rfl;(with_reducible exact zG3))|exact zAq rfl rfl|exact zBM rfl rfl|(apply zAS;exact rfl;(with_reducible first|exact fn_0|exact fn_1|exact fn_3))|(apply zAV;exact rfl;(with_reducible first|exact zIF|exact zJH|exact zAz|exact zAk|exact zA4);exact rfl;exact rfl)|(apply w1;exact rfl;exact rfl)|(refine w0' ?_)|(apply zA0;exact rfl;exact rfl;exact rfl;(with_reducible exact zAb);exact rfl;exact rfl;exact rfl;exact rfl)|(apply zAQ;exact rfl)|(apply zAU;exact rfl)|apply zAJ|apply zAT|apply zAN|apply en_r|apply eb_r|apply zAP|(apply res1;exact rfl)
            all_goals first | omega | rfl
    · have hcb : conB E x = true:=by rw [conB,if_neg hk]
      obtain ⟨y,hy1,hy2,rfl⟩:=go hcb
      have hk4 : x.kind ≠ 4:=fun c=>hk (.inl c)
      have hk24 : x.kind ≠ 24:=fun c=>hk (.inr c)
      clear go no hi2 hdr hcf hfr hn1
      skip
      repeat' first | apply en_n|apply zAH|apply zAC|apply zAF|apply w0|(apply zBK;exact rfl;exact rfl;first|assumption|omega)|(apply zCT;exact rfl;exact rfl;first|assumption|omega)|(apply aJ (hd:=rfl);(first|exact zAn rfl|exact Co_bb rfl rfl rfl|exact Co_nn rfl);exact rfl;(with_reducible exact zAa);assumption;omega;exact fun _=>rfl)|(apply zBE (hd:=rfl) (hro:=rfl);(with_reducible exact zAp))|apply ay (hd:=rfl)|exact zAE rfl|(apply zAf;exact rfl;(with_reducible exact zAb);exact rfl)|(apply zBG;exact rfl;exact rfl)|exact zAq rfl rfl|(apply zAS;exact rfl;(with_reducible exact fn_0))|(apply zAV;exact rfl;(with_reducible exact zAk);exact rfl;exact rfl)|(apply w1;exact rfl;exact rfl)|(refine w0' ?_)|(apply zA0;exact rfl;exact rfl;exact rfl;(with_reducible exact zAb);exact rfl;exact rfl;exact rfl;exact rfl)|(apply zAQ;exact rfl)|apply zAJ|apply zAT|apply zAu|apply en_e|apply eb_e
      all_goals first | omega | skip
      all_goals exact ⟨_,hy1,hy2,zAL (zAA rfl (zAA rfl (zAA rfl (zAA rfl (zAA rfl (zAA rfl zAW)))))) (zAB rfl rfl (zAB rfl rfl zAK)) rfl rfl⟩
  · have hli : ¬ (i : Int) < (L.length : Int):=by omega
    have hall : L.all (conB E) = true:=by rw [hi2,List.drop_of_length_le hge];rfl
    have hr : nmdF E L F = !(F.any fun z=>decide (zHG E z < 0)):=by rw [nmdF,hall,Bool.true_and]
    rw [hr]
    generalize (F.any fun z=>decide (zHG E z < 0)) = bb at *
    clear hr hall hi2
    skip
    repeat' first | apply en_n|apply zAH|apply zAC|apply zAF|apply w0|(apply zCJ;exact rfl;exact rfl;first|assumption|omega)|(refine zAX zUY hfr (zAZ rfl zAG))|(refine zA6 [0,1] [] rfl rfl zVh (hcf) rfl ?_ rfl (by decide) rfl rfl rfl rfl;(repeat (refine zAI rfl ?_));exact zAM)|apply ay (hd:=rfl)|exact zAE rfl|exact zAD rfl|exact zCS rfl|exact zGV rfl|(apply zAU;exact rfl)|apply zAN|apply zAu|apply en_e|apply eb_e|apply zAP|(apply res1;exact rfl)
    all_goals rfl
end Go.Proofs.YtblomnkamngnbaaGreatDoor

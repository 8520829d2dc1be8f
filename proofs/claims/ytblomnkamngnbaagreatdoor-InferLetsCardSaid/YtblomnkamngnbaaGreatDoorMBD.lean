/- Texts of this claim, merged: SynK, SynN. -/
import Derived.Test.YtblomnkamngnbaaGreatDoorMAZ
import Derived.Test.YtblomnkamngnbaaGreatDoorMBC
namespace Go.Proofs.YtblomnkamngnbaaGreatDoor
open Go.Sx
attribute [local irreducible] zAO Program.underlying Ylds zA3 alex zBY zBN awp zAm zBT zBe zAx zBA zBP zA2 zBR zBX zBa zBq zBI VCall
set_option maxHeartbeats 4000000 in
theorem zQv {L : List Nd} (hL : L.length ≤ 2000000) {m : Nat} (_ih : zHh L m) (n : Nat) (x : Nd) (ks : List Tr) (S : Bag) (F : List (List UInt8)) (b : Nat) (hk : x.kind = 3) (hm : Tr.sz (.mk x ks) ≤ m + 1) (h : At L n (.mk x ks)) (hw : Tr.werr (.mk x ks) false = 0) (_hS : GoodB S) (_hb : ∀ a,lkB S a ≤ b) (hb2 : b + Tr.sz (.mk x ks) ≤ 1000000) (hF : F.length + Tr.sz (.mk x ks) ≤ 1000000) :
    zAx Tryz.prog 106 [.ptr 0 0,.d (i64 (n : Int))] (fO L S F) (.d (i64 ((n + Tr.sz (.mk x ks) : Nat) : Int))) (fO L S (Tr.free (.mk x ks) S F)):=by
  obtain ⟨h1,h2⟩:=zDC hw
  obtain ⟨h3,h4,h5⟩:=zCv h1
  have hx:=h.here
  have hkn:=h.kidn
  have hlen:=h.len
  have hsz : Tr.sz (.mk x ks) = szL ks + 1:=by rw [Tr.sz]
  have hl0 : ks.length = 0:=by
    have : x.kids = 0:=by rw [hk] at h5;simpa [cntK] using h5
    omega
  match ks,hl0 with
  | [],_ =>
    rw [hsz,szL] at hF
    rw [hsz,szL]
    have hct:=zHi F x.text (by omega)
    have hcap : ((F.map str).length + [str x.text].length) * 16 ≤ 140737488355328 ∧ (F.map str).length + [str x.text].length ≤ 140737488355328:=by
      simp only [List.length_map,List.length_cons,List.length_nil];omega
    have he : Tr.free (.mk x []) S F = if lkB S x.text = 0 ∧ x.text ∉ F then F ++ [x.text] else F:=by rw [Tr.free,if_pos hk]
    rw [he]
    clear h1 h2 h3 h4 h5 hw h _hS _ih hsz hm hb2 hF he
    by_cases c1 : lkB S x.text = 0
    · have c1' : ((lkB S x.text : Nat) : Int) = 0:=by rw [c1];rfl
      by_cases c2 : x.text ∈ F
      · rw [if_neg (fun c=>c.2 c2)]
        rw [show F.contains x.text = true by simpa using c2] at hct
        refine zAw Tryz.func106 rfl Tryz.ntmps106 Tryz.results106 rfl rfl rfl ?_
        intro wb St0 X fx
        repeat' first | apply en_n|apply zAH|apply zAC|apply zAF|apply w0|(apply zBV;exact rfl;exact rfl;first|assumption|omega)|(apply zBW;exact rfl;exact rfl;first|assumption|omega)|exact zAe rfl|(apply zHY;exact rfl;exact rfl;exact rfl;(with_reducible exact zIW);(with_reducible exact ustr);(with_reducible exact zHF))|(refine zAX zGR hct (zCo rfl rfl rfl (zAZ rfl zAG)))|(apply aJ (hd:=rfl);(first|exact zAn rfl|exact Co_bb rfl rfl rfl|exact Co_nn rfl);exact rfl;(with_reducible exact zAa);assumption;omega;exact fun _=>rfl)|(apply zBE (hd:=rfl) (hro:=rfl);(with_reducible exact zAp))|apply ay (hd:=rfl)|exact zAE rfl|exact zAD rfl|(apply zAf;exact rfl;(with_reducible exact zAb);exact rfl)|(apply zBG;exact rfl;exact rfl)|exact zCS rfl|exact zAq rfl rfl|exact zAo rfl rfl|exact zAR rfl|(apply zAS;exact rfl;(with_reducible first|exact fd_0|exact fd_1|exact fd_2|exact fn_0|exact fn_1))|(apply zAV;exact rfl;(with_reducible first|exact zFS|exact zJG|exact zAg|exact zAk|exact zA4|exact zFS);exact rfl;exact rfl)|(apply w1;exact rfl;exact rfl)|(refine w0' ?_)|(apply zA0;exact rfl;exact rfl;exact rfl;(with_reducible exact zAb);exact rfl;exact rfl;exact rfl;exact rfl)|(apply zAQ;exact rfl)|(apply zAU;exact rfl)|apply zAJ|apply zAT|apply zAN|refine zBQ (by kernel_rfl) (by kernel_rfl) ?_|apply eb_n
        all_goals try omega
        exact zAh (zAL (Le_d rfl (by congr 2) zAW) (zAB rfl rfl (zAB rfl rfl (zAl rfl rfl rfl zAK))) rfl rfl)
      · rw [if_pos ⟨c1,c2⟩]
        rw [show F.contains x.text = false by simpa using c2] at hct
        refine zAw Tryz.func106 rfl Tryz.ntmps106 Tryz.results106 rfl rfl rfl ?_
        intro wb St0 X fx
        repeat' first | (refine zRO (rid:=6) [.ptr 0 0,.ptr 0 0,.ptr 0 0,.ptr 0 2,.buf 2 (F.map str).length,.ptr 3 1,.d (str x.text),.d (strs [x.text]),.top] 8 2 (by kernel_rfl) (by kernel_rfl) rfl rfl rfl (.inr (by kernel_rfl)) ⟨.inr ⟨⟨rfl,zAR rfl⟩,rfl,rfl,.inr ⟨rfl,rfl,zAR rfl⟩⟩,⟨.inr ⟨⟨rfl,zAR rfl⟩,rfl,rfl,.inl (by kernel_rfl)⟩,⟨.inr ⟨⟨rfl,zAe rfl⟩,rfl,rfl,.inl (by kernel_rfl)⟩,⟨.inr ⟨⟨rfl,zAS rfl fd_2⟩,rfl,rfl,.inl (by kernel_rfl)⟩,⟨.inr ⟨⟨rfl,zAV rfl zFS rfl rfl⟩,rfl,rfl,.inl (by kernel_rfl)⟩,⟨.inr ⟨⟨rfl,zAS rfl fn_1⟩,rfl,rfl,.inl (by kernel_rfl)⟩,⟨.inr ⟨⟨rfl,zAV rfl zA4 rfl rfl⟩,rfl,rfl,.inl (by kernel_rfl)⟩,⟨.inr ⟨⟨rfl,zCD zCG zBx zEg rfl rfl (zAZ rfl zAG) rfl⟩,rfl,rfl,.inl (by kernel_rfl)⟩,⟨.inl rfl,trivial⟩⟩⟩⟩⟩⟩⟩⟩⟩ rfl rfl rfl rfl rfl zCG zBx zKu zIz rfl rfl (zCc fun _=>rfl) hcap ?_)|apply en_n|apply zAH|apply zAC|apply zAF|apply w0|(refine zDF (by kernel_rfl) ?_;apply zA0;exact rfl;exact rfl;exact rfl;(with_reducible exact zFS);exact rfl;exact rfl;exact rfl;exact rfl)|(apply zBV;exact rfl;exact rfl;first|assumption|omega)|(apply zBW;exact rfl;exact rfl;first|assumption|omega)|exact zAe rfl|(apply zHY;exact rfl;exact rfl;exact rfl;(with_reducible exact zIW);(with_reducible exact ustr);(with_reducible exact zHF))|(refine zAX zGR hct (zCo rfl rfl rfl (zAZ rfl zAG)))|(apply aJ (hd:=rfl);(first|exact zAn rfl|exact Co_bb rfl rfl rfl|exact Co_nn rfl);exact rfl;(with_reducible exact zAa);assumption;omega;exact fun _=>rfl)|(apply zBE (hd:=rfl) (hro:=rfl);(with_reducible exact zAp))|apply ay (hd:=rfl)|exact zAE rfl|exact zAD rfl|(apply zAf;exact rfl;(with_reducible exact zAb);exact rfl)|(apply zBG;exact rfl;exact rfl)|exact zCS rfl|exact zAq rfl rfl|exact zAo rfl rfl|exact zAR rfl|(apply zAS;exact rfl;(with_reducible first|exact fd_0|exact fd_1|exact fd_2|exact fn_0|exact fn_1))|(apply zAV;exact rfl;(with_reducible first|exact zFS|exact zJG|exact zAg|exact zAk|exact zA4|exact zFS);exact rfl;exact rfl)|(apply w1;exact rfl;exact rfl)|(refine w0' ?_)|(apply zA0;exact rfl;exact rfl;exact rfl;(with_reducible exact zAb);exact rfl;exact rfl;exact rfl;exact rfl)|(apply zAQ;exact rfl)|(apply zAU;exact rfl)|apply zAJ|apply zAT|apply zAN|refine zBQ (by kernel_rfl) (by kernel_rfl) ?_|apply eb_n
        all_goals try omega
        exact zAh (zAL (Le_d rfl (by congr 2) zAW) (zAB rfl (by rw [show ((F ++ [x.text]).map str).length = (F.map str).length + [str x.text].length by simp];rfl) (zAB rfl rfl (zAl rfl rfl (by rw [List.map_append]) zAK))) rfl rfl)
    · have c1' : ¬ ((lkB S x.text : Nat) : Int) = 0:=by omega
      rw [if_neg (fun c=>c1 c.1)]
      refine zAw Tryz.func106 rfl Tryz.ntmps106 Tryz.results106 rfl rfl rfl ?_
      intro wb St0 X fx
      repeat' first | apply en_n|apply zAH|apply zAC|apply zAF|apply w0|(apply zBV;exact rfl;exact rfl;first|assumption|omega)|(apply zBW;exact rfl;exact rfl;first|assumption|omega)|exact zAe rfl|(apply zHY;exact rfl;exact rfl;exact rfl;(with_reducible exact zIW);(with_reducible exact ustr);(with_reducible exact zHF))|(apply aJ (hd:=rfl);(first|exact zAn rfl|exact Co_bb rfl rfl rfl|exact Co_nn rfl);exact rfl;(with_reducible exact zAa);assumption;omega;exact fun _=>rfl)|(apply zBE (hd:=rfl) (hro:=rfl);(with_reducible exact zAp))|apply ay (hd:=rfl)|exact zAE rfl|exact zAD rfl|(apply zAf;exact rfl;(with_reducible exact zAb);exact rfl)|(apply zBG;exact rfl;exact rfl)|exact zAo rfl rfl|exact zAR rfl|(apply zAS;exact rfl;(with_reducible first|exact fd_0|exact fd_1|exact fn_0|exact fn_1))|(apply zAV;exact rfl;(with_reducible first|exact zJG|exact zAg|exact zAk|exact zA4);exact rfl;exact rfl)|(apply w1;exact rfl;exact rfl)|(apply k1 (hd:=rfl);exact rfl;exact rfl)|(refine w0' ?_)|(apply zA0;exact rfl;exact rfl;exact rfl;(with_reducible exact zAb);exact rfl;exact rfl;exact rfl;exact rfl)|(apply zAQ;exact rfl)|(apply zAU;exact rfl)|apply zAJ|apply zAT|apply zAN|refine zBQ (by kernel_rfl) (by kernel_rfl) ?_|apply eb_n
      all_goals try omega
      exact zAh (zAL (Le_d rfl (by congr 2) zAW) (zAB rfl rfl (zAB rfl rfl (zAl rfl rfl rfl zAK))) rfl rfl)
end Go.Proofs.YtblomnkamngnbaaGreatDoor
namespace Go.Proofs.YtblomnkamngnbaaGreatDoor
open Go.Sx
attribute [local irreducible] zAO Program.underlying Ylds zA3 alex zBY zBN awp zAm zBT zBe zAx zBA zBP zA2 zBR zBX zBa zBq zBI VCall
theorem zQu (L : List Nd) (hL : L.length ≤ 2000000) : ∀ m,zHh L m
  | 0=>fun n t S F b hm=>by have:=zBO t;omega
  | m + 1=>fun n t S F b hm h hw hS hb hb2 hF=>by
    have ih:=zQu L hL m
    match t,hm,h,hw,hb2,hF with
    | .mk x ks,hm,h,hw,hb2,hF =>
      have h3:=(zCv (zDC hw).1).1
      have h4:=(zCv (zDC hw).1).2.1
      have hk : (1 ≤ x.kind ∧ x.kind ≤ 12):=by
        have h5 : (1 ≤ x.kind ∧ x.kind ≤ 12) ∨ (21 ≤ x.kind ∧ x.kind ≤ 24):=by simpa [okK] using h3
        have h6 : ¬ (21 ≤ x.kind ∧ x.kind ≤ 24):=by simpa [patK] using h4
        omega
      have hc : (x.kind = 1 ∨ x.kind = 2 ∨ x.kind = 4) ∨ x.kind = 3 ∨ x.kind = 5 ∨ (x.kind = 6 ∨ x.kind = 9 ∨ x.kind = 11) ∨ (x.kind = 7 ∨ x.kind = 12) ∨ x.kind = 8 ∨ x.kind = 10:=by omega
      rcases hc with hc | hc | hc | hc | hc | hc | hc
      · exact zQw hL ih n x ks S F b hc hm h hw hS hb hb2 hF
      · exact zQv hL ih n x ks S F b hc hm h hw hS hb hb2 hF
      · exact zUc hL ih n x ks S F b hc hm h hw hS hb hb2 hF
      · exact zQx hL ih n x ks S F b hc hm h hw hS hb hb2 hF
      · exact zSx hL ih n x ks S F b hc hm h hw hS hb hb2 hF
      · exact zSw hL ih n x ks S F b hc hm h hw hS hb hb2 hF
      · exact zO7 hL ih n x ks S F b hc hm h hw hS hb hb2 hF
def zDa (t : Tr) : List (List UInt8):=if chkT t false = 0 then t.free [] [] else []
theorem zRs (t : Tr) (hw : t.wf) (hL : t.fl.length ≤ 1000000) : zAm Tryz.prog 60 [zAc t.fl] (strs (zDa t)):=by
  have hc:=zEl t hw hL
  refine zAd Tryz.func60 rfl Tryz.ntmps60 Tryz.results60 rfl ?_
  intro wb St0
  by_cases h0 : chkT t false = 0
  · have hch:=h0
    rw [zDa,if_pos h0]
    rw [h0] at hc
    have h1 : ¬ (4000 < t.sz ∨ 100 < zEN t.fl):=fun c=>by rw [chkT,if_pos c] at h0;omega
    have h2 : t.werr false = 0:=by
      rw [chkT,if_neg h1] at h0
      by_cases hq : t.werr false = 0
      · exact hq
      · rw [if_pos hq] at h0;exact absurd h0 hq
    have hf:=zQu t.fl (by omega) t.sz 0 t [] [] 0 (Nat.le_refl _) (.top hw) h2 .nil (fun a=>Nat.le_refl _) (by omega) (by simp;omega)
    rw [Nat.zero_add] at hf
    generalize t.free [] [] = F at *
    clear h1 h2 hch
    skip
    repeat' first | (refine zHg 1 2 false 9 1 rfl rfl rfl ?_)|(apply zG9;(with_reducible exact zP8);(with_reducible exact zPS);exact zEf rfl (zEf rfl zOO);exact rfl;exact rfl;exact rfl;exact rfl)|apply en_n|apply zAH|apply zAC|apply zAF|apply w0|(apply zBm;exact rfl;exact rfl;first|assumption|omega)|(refine zAX zCz hc (zAZ rfl zAG))|(apply zPJ (hd:=rfl) (hro:=rfl);(with_reducible exact zIW);(with_reducible exact ustr))|exact zAe rfl|(refine zAy [1,0,2] zIj (hf) ?_ rfl rfl (by decide) rfl rfl rfl rfl rfl rfl ?_;(repeat (refine zAI rfl ?_));exact zAM)|apply ay (hd:=rfl)|exact zAE rfl|exact zAY rfl|exact zAj rfl|exact zAR rfl|exact zEa rfl|(apply zAS;exact rfl;(with_reducible exact fd_2))|(apply zAV;exact rfl;(with_reducible first|exact zFS|exact zFS);exact rfl;exact rfl)|(apply zAU;exact rfl)|apply zAT|apply zAN|apply zAP|(apply zJ5;exact rfl;exact rfl;(first|exact rfl|(simp;done)))
    all_goals rfl
  · rw [zDa,if_neg h0]
    repeat' first | apply en_n|apply zAH|apply zAC|apply zAF|apply w0|(apply zCT;exact rfl;exact rfl;first|assumption|omega)|(refine zAX zCz hc (zAZ rfl zAG))|apply ay (hd:=rfl)|exact zAE rfl|exact zAY rfl|(apply zAQ;exact rfl)|apply zAN|apply en_r|apply zAP|(apply zSK;exact rfl)
    all_goals rfl
end Go.Proofs.YtblomnkamngnbaaGreatDoor

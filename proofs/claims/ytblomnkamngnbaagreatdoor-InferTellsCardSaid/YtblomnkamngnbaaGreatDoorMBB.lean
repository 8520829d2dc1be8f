/- Texts of this claim, merged: SynK, SynN. -/
import Derived.Test.YtblomnkamngnbaaGreatDoorMAY
import Derived.Test.YtblomnkamngnbaaGreatDoorMBA
namespace Go.Proofs.YtblomnkamngnbaaGreatDoor
open Go.Sx
attribute [local irreducible] zAT Program.underlying Ylds zBA alex zBe zBP awp zAj zBZ zBk zA2 zBH zBR zA8 zBV zBb zBf zBu zBO VCall
set_option maxHeartbeats 4000000 in
theorem zP5 {L : List Nd} (hL : L.length ≤ 2000000) {m : Nat} (_ih : zHS L m) (n : Nat) (x : Nd) (ks : List Tr) (S : Bag) (F : List (List UInt8)) (b : Nat) (hk : x.kind = 3) (hm : Tr.sz (.mk x ks) ≤ m + 1) (h : At L n (.mk x ks)) (hw : Tr.werr (.mk x ks) false = 0) (_hS : GoodB S) (_hb : ∀ a,lkB S a ≤ b) (hb2 : b + Tr.sz (.mk x ks) ≤ 1000000) (hF : F.length + Tr.sz (.mk x ks) ≤ 1000000) :
    zA2 Tryz.prog 106 [.ptr 0 0,.d (i64 (n : Int))] (fO L S F) (.d (i64 ((n + Tr.sz (.mk x ks) : Nat) : Int))) (fO L S (Tr.free (.mk x ks) S F)):=by
  obtain ⟨h1,h2⟩:=zC7 hw
  obtain ⟨h3,h4,h5⟩:=zCO h1
  have hx:=h.here
  have hkn:=h.kidn
  have hlen:=h.len
  have hsz : Tr.sz (.mk x ks) = szL ks + 1:=by rw [Tr.sz]
  have hl0 : ks.length = 0:=by
    have : x.kids = 0:=by rw [hk] at h5;simpa [cntK] using h5
    omega
  match ks,hl0 with
  | [],_ =>
    rw [hsz,szL] at hF
    rw [hsz,szL]
    have hct:=zHT F x.text (by omega)
    have hcap : ((F.map str).length + [str x.text].length) * 16 ≤ 140737488355328 ∧ (F.map str).length + [str x.text].length ≤ 140737488355328:=by
      simp only [List.length_map,List.length_cons,List.length_nil];omega
    have he : Tr.free (.mk x []) S F = if lkB S x.text = 0 ∧ x.text ∉ F then F ++ [x.text] else F:=by rw [Tr.free,if_pos hk]
    rw [he]
    clear h1 h2 h3 h4 h5 hw h _hS _ih hsz hm hb2 hF he
    by_cases c1 : lkB S x.text = 0
    · have c1' : ((lkB S x.text : Nat) : Int) = 0:=by rw [c1];rfl
      by_cases c2 : x.text ∈ F
      · rw [if_neg (fun c=>c.2 c2)]
        rw [show F.contains x.text = true by simpa using c2] at hct
        refine zA1 Tryz.func106 rfl Tryz.ntmps106 Tryz.results106 rfl rfl rfl ?_
        intro wb St0 X fx
        repeat' first | apply en_n|apply zAH|apply zAB|apply zAF|apply w0|(apply zBD;exact rfl;exact rfl;first|assumption|omega)|(apply zA9;exact rfl;exact rfl;first|assumption|omega)|exact zAo rfl|(apply zHG;exact rfl;exact rfl;exact rfl;(with_reducible exact zIH);(with_reducible exact ustr);(with_reducible exact zGs))|(refine zAV zF5 hct (zC4 rfl rfl rfl (zAX rfl zAG)))|(apply aJ (hd:=rfl);(first|exact zAk rfl|exact Co_bb rfl rfl rfl|exact Co_nn rfl);exact rfl;(with_reducible exact zAW);assumption;omega;exact fun _=>rfl)|(apply zA4 (hd:=rfl) (hro:=rfl);(with_reducible exact zAp))|apply ay (hd:=rfl)|exact zAE rfl|exact zAC rfl|(apply zAf;exact rfl;(with_reducible exact zAY);exact rfl)|(apply zBC;exact rfl;exact rfl)|exact zBr rfl|exact zAi rfl rfl|exact zAh rfl rfl|exact zAZ rfl|(apply zAR;exact rfl;(with_reducible first|exact fd_0|exact fd_1|exact fd_2|exact fn_0|exact fn_1))|(apply zAU;exact rfl;(with_reducible first|exact zFC|exact zI0|exact zAn|exact zAe|exact zAv|exact zFC);exact rfl;exact rfl)|(apply w1;exact rfl;exact rfl)|(refine w0' ?_)|(apply zAx;exact rfl;exact rfl;exact rfl;(with_reducible exact zAY);exact rfl;exact rfl;exact rfl;exact rfl)|(apply zAK;exact rfl)|(apply zAQ;exact rfl)|apply zAI|apply zAP|apply zAM|refine zA6 (by kernel_rfl) (by kernel_rfl) ?_|apply eb_n
        all_goals try omega
        exact zAq (zAO (Le_d rfl (by congr 2) zAa) (zAD rfl rfl (zAD rfl rfl (zAu rfl rfl rfl zAN))) rfl rfl)
      · rw [if_pos ⟨c1,c2⟩]
        rw [show F.contains x.text = false by simpa using c2] at hct
        refine zA1 Tryz.func106 rfl Tryz.ntmps106 Tryz.results106 rfl rfl rfl ?_
        intro wb St0 X fx
        repeat' first | (refine zQU (rid:=6) [.ptr 0 0,.ptr 0 0,.ptr 0 0,.ptr 0 2,.buf 2 (F.map str).length,.ptr 3 1,.d (str x.text),.d (strs [x.text]),.top] 8 2 (by kernel_rfl) (by kernel_rfl) rfl rfl rfl (.inr (by kernel_rfl)) ⟨.inr ⟨⟨rfl,zAZ rfl⟩,rfl,rfl,.inr ⟨rfl,rfl,zAZ rfl⟩⟩,⟨.inr ⟨⟨rfl,zAZ rfl⟩,rfl,rfl,.inl (by kernel_rfl)⟩,⟨.inr ⟨⟨rfl,zAo rfl⟩,rfl,rfl,.inl (by kernel_rfl)⟩,⟨.inr ⟨⟨rfl,zAR rfl fd_2⟩,rfl,rfl,.inl (by kernel_rfl)⟩,⟨.inr ⟨⟨rfl,zAU rfl zFC rfl rfl⟩,rfl,rfl,.inl (by kernel_rfl)⟩,⟨.inr ⟨⟨rfl,zAR rfl fn_1⟩,rfl,rfl,.inl (by kernel_rfl)⟩,⟨.inr ⟨⟨rfl,zAU rfl zAv rfl rfl⟩,rfl,rfl,.inl (by kernel_rfl)⟩,⟨.inr ⟨⟨rfl,zCC zB1 zBW zDk rfl rfl (zAX rfl zAG) rfl⟩,rfl,rfl,.inl (by kernel_rfl)⟩,⟨.inl rfl,trivial⟩⟩⟩⟩⟩⟩⟩⟩⟩ rfl rfl rfl rfl rfl zB1 zBW zHx zF8 rfl rfl (zCF fun _=>rfl) hcap ?_)|apply en_n|apply zAH|apply zAB|apply zAF|apply w0|(refine zDC (by kernel_rfl) ?_;apply zAx;exact rfl;exact rfl;exact rfl;(with_reducible exact zFC);exact rfl;exact rfl;exact rfl;exact rfl)|(apply zBD;exact rfl;exact rfl;first|assumption|omega)|(apply zA9;exact rfl;exact rfl;first|assumption|omega)|exact zAo rfl|(apply zHG;exact rfl;exact rfl;exact rfl;(with_reducible exact zIH);(with_reducible exact ustr);(with_reducible exact zGs))|(refine zAV zF5 hct (zC4 rfl rfl rfl (zAX rfl zAG)))|(apply aJ (hd:=rfl);(first|exact zAk rfl|exact Co_bb rfl rfl rfl|exact Co_nn rfl);exact rfl;(with_reducible exact zAW);assumption;omega;exact fun _=>rfl)|(apply zA4 (hd:=rfl) (hro:=rfl);(with_reducible exact zAp))|apply ay (hd:=rfl)|exact zAE rfl|exact zAC rfl|(apply zAf;exact rfl;(with_reducible exact zAY);exact rfl)|(apply zBC;exact rfl;exact rfl)|exact zBr rfl|exact zAi rfl rfl|exact zAh rfl rfl|exact zAZ rfl|(apply zAR;exact rfl;(with_reducible first|exact fd_0|exact fd_1|exact fd_2|exact fn_0|exact fn_1))|(apply zAU;exact rfl;(with_reducible first|exact zFC|exact zI0|exact zAn|exact zAe|exact zAv|exact zFC);exact rfl;exact rfl)|(apply w1;exact rfl;exact rfl)|(refine w0' ?_)|(apply zAx;exact rfl;exact rfl;exact rfl;(with_reducible exact zAY);exact rfl;exact rfl;exact rfl;exact rfl)|(apply zAK;exact rfl)|(apply zAQ;exact rfl)|apply zAI|apply zAP|apply zAM|refine zA6 (by kernel_rfl) (by kernel_rfl) ?_|apply eb_n
        all_goals try omega
        exact zAq (zAO (Le_d rfl (by congr 2) zAa) (zAD rfl (by rw [show ((F ++ [x.text]).map str).length = (F.map str).length + [str x.text].length by simp];rfl) (zAD rfl rfl (zAu rfl rfl (by rw [List.map_append]) zAN))) rfl rfl)
    · have c1' : ¬ ((lkB S x.text : Nat) : Int) = 0:=by omega
      rw [if_neg (fun c=>c1 c.1)]
      refine zA1 Tryz.func106 rfl Tryz.ntmps106 Tryz.results106 rfl rfl rfl ?_
      intro wb St0 X fx
      repeat' first | apply en_n|apply zAH|apply zAB|apply zAF|apply w0|(apply zBD;exact rfl;exact rfl;first|assumption|omega)|(apply zA9;exact rfl;exact rfl;first|assumption|omega)|exact zAo rfl|(apply zHG;exact rfl;exact rfl;exact rfl;(with_reducible exact zIH);(with_reducible exact ustr);(with_reducible exact zGs))|(apply aJ (hd:=rfl);(first|exact zAk rfl|exact Co_bb rfl rfl rfl|exact Co_nn rfl);exact rfl;(with_reducible exact zAW);assumption;omega;exact fun _=>rfl)|(apply zA4 (hd:=rfl) (hro:=rfl);(with_reducible exact zAp))|apply ay (hd:=rfl)|exact zAE rfl|exact zAC rfl|(apply zAf;exact rfl;(with_reducible exact zAY);exact rfl)|(apply zBC;exact rfl;exact rfl)|exact zAh rfl rfl|exact zAZ rfl|(apply zAR;exact rfl;(with_reducible first|exact fd_0|exact fd_1|exact fn_0|exact fn_1))|(apply zAU;exact rfl;(with_reducible first|exact zI0|exact zAn|exact zAe|exact zAv);exact rfl;exact rfl)|(apply w1;exact rfl;exact rfl)|(apply k1 (hd:=rfl);exact rfl;exact rfl)|(refine w0' ?_)|(apply zAx;exact rfl;exact rfl;exact rfl;(with_reducible exact zAY);exact rfl;exact rfl;exact rfl;exact rfl)|(apply zAK;exact rfl)|(apply zAQ;exact rfl)|apply zAI|apply zAP|apply zAM|refine zA6 (by kernel_rfl) (by kernel_rfl) ?_|apply eb_n
      all_goals try omega
      exact zAq (zAO (Le_d rfl (by congr 2) zAa) (zAD rfl rfl (zAD rfl rfl (zAu rfl rfl rfl zAN))) rfl rfl)
end Go.Proofs.YtblomnkamngnbaaGreatDoor
namespace Go.Proofs.YtblomnkamngnbaaGreatDoor
open Go.Sx
attribute [local irreducible] zAT Program.underlying Ylds zBA alex zBe zBP awp zAj zBZ zBk zA2 zBH zBR zA8 zBV zBb zBf zBu zBO VCall
theorem zP4 (L : List Nd) (hL : L.length ≤ 2000000) : ∀ m,zHS L m
  | 0=>fun n t S F b hm=>by have:=zBS t;omega
  | m + 1=>fun n t S F b hm h hw hS hb hb2 hF=>by
    have ih:=zP4 L hL m
    match t,hm,h,hw,hb2,hF with
    | .mk x ks,hm,h,hw,hb2,hF =>
      have h3:=(zCO (zC7 hw).1).1
      have h4:=(zCO (zC7 hw).1).2.1
      have hk : (1 ≤ x.kind ∧ x.kind ≤ 12):=by
        have h5 : (1 ≤ x.kind ∧ x.kind ≤ 12) ∨ (21 ≤ x.kind ∧ x.kind ≤ 24):=by simpa [okK] using h3
        have h6 : ¬ (21 ≤ x.kind ∧ x.kind ≤ 24):=by simpa [patK] using h4
        omega
      have hc : (x.kind = 1 ∨ x.kind = 2 ∨ x.kind = 4) ∨ x.kind = 3 ∨ x.kind = 5 ∨ (x.kind = 6 ∨ x.kind = 9 ∨ x.kind = 11) ∨ (x.kind = 7 ∨ x.kind = 12) ∨ x.kind = 8 ∨ x.kind = 10:=by omega
      rcases hc with hc | hc | hc | hc | hc | hc | hc
      · exact zP6 hL ih n x ks S F b hc hm h hw hS hb hb2 hF
      · exact zP5 hL ih n x ks S F b hc hm h hw hS hb hb2 hF
      · exact zTU hL ih n x ks S F b hc hm h hw hS hb hb2 hF
      · exact zP7 hL ih n x ks S F b hc hm h hw hS hb hb2 hF
      · exact zRv hL ih n x ks S F b hc hm h hw hS hb hb2 hF
      · exact zRu hL ih n x ks S F b hc hm h hw hS hb hb2 hF
      · exact zOS hL ih n x ks S F b hc hm h hw hS hb hb2 hF
def zF6 (t : Tr) : List (List UInt8):=if chkT t false = 0 then t.free [] [] else []
theorem zQx (t : Tr) (hw : t.wf) (hL : t.fl.length ≤ 1000000) : zAj Tryz.prog 60 [zAc t.fl] (strs (zF6 t)):=by
  have hc:=zEY t hw hL
  refine zAd Tryz.func60 rfl Tryz.ntmps60 Tryz.results60 rfl ?_
  intro wb St0
  by_cases h0 : chkT t false = 0
  · have hch:=h0
    rw [zF6,if_pos h0]
    rw [h0] at hc
    have h1 : ¬ (4000 < t.sz ∨ 100 < zDu t.fl):=fun c=>by rw [chkT,if_pos c] at h0;omega
    have h2 : t.werr false = 0:=by
      rw [chkT,if_neg h1] at h0
      by_cases hq : t.werr false = 0
      · exact hq
      · rw [if_pos hq] at h0;exact absurd h0 hq
    have hf:=zP4 t.fl (by omega) t.sz 0 t [] [] 0 (Nat.le_refl _) (.top hw) h2 .nil (fun a=>Nat.le_refl _) (by omega) (by simp;omega)
    rw [Nat.zero_add] at hf
    generalize t.free [] [] = F at *
    clear h1 h2 hch
    skip
    repeat' first | (refine zHQ 1 2 false 9 1 rfl rfl rfl ?_)|(apply zGl;(with_reducible exact zPN);(with_reducible exact zOl);exact zEV rfl (zEV rfl zNk);exact rfl;exact rfl;exact rfl;exact rfl)|apply en_n|apply zAH|apply zAB|apply zAF|apply w0|(apply zBU;exact rfl;exact rfl;first|assumption|omega)|(refine zAV zCs hc (zAX rfl zAG))|(apply zOd (hd:=rfl) (hro:=rfl);(with_reducible exact zIH);(with_reducible exact ustr))|exact zAo rfl|(refine zA3 [1,0,2] zIW (hf) ?_ rfl rfl (by decide) rfl rfl rfl rfl rfl rfl ?_;(repeat (refine zAL rfl ?_));exact zAS)|apply ay (hd:=rfl)|exact zAE rfl|exact zAb rfl|exact zAm rfl|exact zAZ rfl|exact zEP rfl|(apply zAR;exact rfl;(with_reducible exact fd_2))|(apply zAU;exact rfl;(with_reducible first|exact zFC|exact zFC);exact rfl;exact rfl)|(apply zAQ;exact rfl)|apply zAP|apply zAM|apply zAJ|(apply zGx;exact rfl;exact rfl;(first|exact rfl|(simp;done)))
    all_goals rfl
  · rw [zF6,if_neg h0]
    repeat' first | apply en_n|apply zAH|apply zAB|apply zAF|apply w0|(apply zB7;exact rfl;exact rfl;first|assumption|omega)|(refine zAV zCs hc (zAX rfl zAG))|apply ay (hd:=rfl)|exact zAE rfl|exact zAb rfl|(apply zAK;exact rfl)|apply zAM|apply en_r|apply zAJ|(apply zRJ;exact rfl)
    all_goals rfl
end Go.Proofs.YtblomnkamngnbaaGreatDoor

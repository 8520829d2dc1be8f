/- Texts of this claim, merged: SynL. -/
import Derived.Test.YtblomnkamngnbaaGreatDoorMAZ
namespace Go.Proofs.YtblomnkamngnbaaGreatDoor
open Go.Sx
attribute [local irreducible] zAO Program.underlying Ylds zA3 alex zBY zBN awp zAm zBT zBe zAx zBA zBP zA2 zBR zBX zBa zBq zBI VCall
theorem zDe {ks : List Tr} {i : Nat} {k : Tr} (h : ks[i]? = some k) : szL (ks.drop i) = k.sz + szL (ks.drop (i + 1)):=by
  obtain ⟨hi,rfl⟩:=List.getElem?_eq_some_iff.1 h
  rw [List.drop_eq_getElem_cons hi,szL]
theorem zO3 {k : Int} {tx : List UInt8} {S : Bag} {pv : List (List UInt8)} {ks : List Tr} {i : Nat} {t : Tr} {F : List (List UInt8)} (h : ks[i]? = some t) (hk : k = 6 ∨ k = 9 ∨ k = 11) : zCX k tx S pv (ks.drop i) i F = zCX k tx S pv (ks.drop (i + 1)) (i + 1) (t.free S F):=by
  obtain ⟨hi,rfl⟩:=List.getElem?_eq_some_iff.1 h
  rw [List.drop_eq_getElem_cons hi,zCX,if_neg (by omega),bagK,if_neg (by omega),if_neg (by omega)]
set_option maxHeartbeats 4000000 in
theorem zQx {L : List Nd} (hL : L.length ≤ 2000000) {m : Nat} (ih : zHh L m) (n : Nat) (x : Nd) (ks : List Tr) (S : Bag) (F : List (List UInt8)) (b : Nat) (hk : x.kind = 6 ∨ x.kind = 9 ∨ x.kind = 11) (hm : Tr.sz (.mk x ks) ≤ m + 1) (h : At L n (.mk x ks)) (hw : Tr.werr (.mk x ks) false = 0) (hS : GoodB S) (hb : ∀ a,lkB S a ≤ b) (hb2 : b + Tr.sz (.mk x ks) ≤ 1000000) (hF : F.length + Tr.sz (.mk x ks) ≤ 1000000) :
    zAx Tryz.prog 106 [.ptr 0 0,.d (i64 (n : Int))] (fO L S F) (.d (i64 ((n + Tr.sz (.mk x ks) : Nat) : Int))) (fO L S (Tr.free (.mk x ks) S F)):=by
  obtain ⟨h1,h2⟩:=zDC hw
  obtain ⟨h3,h4,h5⟩:=zCv h1
  have hx:=h.here
  have hkn:=h.kidn
  have hlen:=h.len
  have hsz : Tr.sz (.mk x ks) = szL ks + 1:=by rw [Tr.sz]
  have hsl:=zFU ks
  have hke:=zIb n ks
  have he : Tr.free (.mk x ks) S F = zCX x.kind x.text S [] ks 0 F:=by rw [Tr.free,if_neg (by omega)]
  rw [he]
  have hkid : ∀ (i : Nat) (t : Tr) (F1 : List (List UInt8)),ks[i]? = some t → F1.length + szL (ks.drop i) ≤ 999999 → zAx Tryz.prog 106 [.ptr 0 0,.d (i64 ((kidAt n ks i : Nat) : Int))] (fO L S F1) (.d (i64 ((kidAt n ks (i + 1) : Nat) : Int))) (fO L S (t.free S F1)):=fun i t F1 hi hf=>by
    rw [zDA hi]
    have h6:=zCw (List.mem_of_getElem? hi)
    rw [zDe hi] at hf
    refine ih _ t S F1 b (by omega) (h.kid hi) ?_ hS hb (by omega) (by omega)
    have h7:=zBB (j:=i) h2 hi
    rcases hk with hk | hk | hk <;> simpa [hk] using h7
  have hF0 : F.length + szL ks ≤ 999999:=by omega
  have hN : n + 1 + szL ks = n + Tr.sz (.mk x ks):=by omega
  rw [← hN, ← hke]
  clear h1 h2 h3 h4 h5 hw h hS ih hsz hm hb2 hF he hN hke
  rcases hk with hk | hk | hk
  all_goals
    have hk' : x.kind = 6 ∨ x.kind = 9 ∨ x.kind = 11:=by omega
    refine zAw Tryz.func106 rfl Tryz.ntmps106 Tryz.results106 rfl rfl rfl ?_
    intro wb St0 X fx
    repeat' first | apply en_n|apply zAH|apply zAC|apply zAF|apply w0|(apply zBV;exact rfl;exact rfl;first|assumption|omega)|(apply zBW;exact rfl;exact rfl;first|assumption|omega)|(apply k0u (hd:=rfl);exact rfl;exact rfl)|exact zAe rfl|(apply aJ (hd:=rfl);(first|exact zAn rfl|exact Co_bb rfl rfl rfl|exact Co_nn rfl);exact rfl;(with_reducible exact zAa);assumption;omega;exact fun _=>rfl)|(apply zBE (hd:=rfl) (hro:=rfl);(with_reducible exact zAp))|apply ay (hd:=rfl)|exact zAE rfl|exact zAD rfl|(apply zAf;exact rfl;(with_reducible exact zAb);exact rfl)|(apply zBG;exact rfl;exact rfl)|exact zAq rfl rfl|exact zAo rfl rfl|exact zAR rfl|(apply zAS;exact rfl;(with_reducible first|exact fd_0|exact fn_0|exact fn_3))|(apply zAV;exact rfl;(with_reducible first|exact zAz|exact zAg|exact zAk);exact rfl;exact rfl)|(apply w1;exact rfl;exact rfl)|(refine w0' ?_)|(apply zA0;exact rfl;exact rfl;exact rfl;(with_reducible exact zAb);exact rfl;exact rfl;exact rfl;exact rfl)|(apply zAQ;exact rfl)|(apply zAU;exact rfl)|apply zAJ|apply zAT|apply eb_n
    all_goals try omega
    refine zAs (α:=Nat × List (List UInt8)) (fun p=>p.1 ≤ ks.length ∧ p.2.length + szL (ks.drop p.1) ≤ 999999 ∧ zCX x.kind x.text S [] (ks.drop p.1) p.1 p.2 = zCX x.kind x.text S [] ks 0 F) (fun p=>[(0,.ptr 0 0),(1,.d (i64 ((kidAt n ks p.1 : Nat) : Int))),(124,.d (i64 x.kids)),(125,.d (i64 (p.1 : Int)))])
      (fun p=>[.bx (fx 0) (some 120) [.d (zAc L),.mp 1,.buf 2 (p.2.map str).length],bagO (fx 1) S,.buf false 9 1 (p.2.map str)]) (fun p=>ks.length - p.1) (0,F) ⟨Nat.zero_le _,by rw [List.drop_zero];exact hF0,by rw [List.drop_zero]⟩
      (zAL (zAA rfl (Le_d rfl (by rw [zCM];rfl) (zAA rfl (zAA rfl zAW)))) (zAB rfl rfl (zAB rfl rfl (zAl rfl rfl rfl zAK))) rfl rfl) ?_
    rintro ⟨i,F1⟩ ⟨q1,q2,q3⟩
    dsimp only at q1 q2 q3 ⊢
    rcases Nat.lt_or_ge i ks.length with hlt | hge
    · obtain ⟨t,ht⟩ : ∃ t,ks[i]? = some t:=⟨_,List.getElem?_eq_getElem hlt⟩
      have hc:=hkid i t F1 ht q2
      rw [zO3 ht hk'] at q3
      have hfl:=zFE t S F1
      rw [zDe ht] at q2
      have hli : (i : Int) < x.kids:=by omega
      generalize t.free S F1 = F2 at *
      repeat' first | apply en_n|apply zAH|apply zAC|apply zAF|apply w0|(apply zBK;exact rfl;exact rfl;first|assumption|omega)|(refine zAy [0,1,2] zIj (hc) ?_ rfl rfl (by decide) rfl rfl rfl rfl rfl rfl ?_;(repeat (refine zAI rfl ?_));exact zAM)|apply ay (hd:=rfl)|exact zAE rfl|exact zAD rfl|(apply zBG;exact rfl;exact rfl)|exact zAR rfl|(apply zAQ;exact rfl)|apply zAJ|apply zAT|apply eb_n
      all_goals try omega
      exact ⟨(i + 1,F2),⟨by simp only;omega,by simp only;omega,q3⟩,by simp only;omega,zAL (zAA rfl (zAA rfl (zAA rfl (zAA rfl zAW)))) (zAB rfl rfl (zAB rfl rfl (zAl rfl rfl rfl zAK))) rfl rfl⟩
    · have hli : ¬ (i : Int) < x.kids:=by omega
      have e : i = ks.length:=by omega
      subst e
      rw [List.drop_length,zCX] at q3
      rw [← q3]
      repeat' first | apply en_n|apply zAH|apply zAC|apply zAF|apply w0|(apply zCJ;exact rfl;exact rfl;first|assumption|omega)|apply ay (hd:=rfl)|exact zAE rfl|exact zAD rfl|(apply zAU;exact rfl)|apply zAN|apply zAu|apply en_e|apply eb_e
      all_goals exact zAh (zAL (zAA rfl zAW) (zAB rfl rfl (zAB rfl rfl (zAl rfl rfl rfl zAK))) rfl rfl)
end Go.Proofs.YtblomnkamngnbaaGreatDoor

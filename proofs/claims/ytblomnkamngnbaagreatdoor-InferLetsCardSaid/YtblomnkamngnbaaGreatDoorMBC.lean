/- Texts of this claim, merged: SynM. -/
import Derived.Test.YtblomnkamngnbaaGreatDoorMAO
import Derived.Test.YtblomnkamngnbaaGreatDoorMBB
namespace Go.Proofs.YtblomnkamngnbaaGreatDoor
open Go.Sx
attribute [local irreducible] zAO Program.underlying Ylds zA3 alex zBY zBN awp zAm zBT zBe zAx zBA zBP zA2 zBR zBX zBa zBq zBI VCall
theorem zWB {P : Program} {η : List Ob} {σ : Sl} {dst : Option Nat} {ty : TypeId} {pos : String} {after : Array Edge} {gd : Option (Nat × Bool)} {t yt : TypeId} {p q : Operand} {k : Int} {c : Nat} (hk : k = 2 * (c : Int) + 1) (hc : c ≤ 1000000) (hp : oval σ p = .d (i64 k)) (hq : oval σ q = .d (i64 2)) :
    Ylds P η σ ⟨dst,.binOp .quo t p q yt,ty,pos,after,gd⟩ (.d (i64 (c : Int))):=by
  have h:=zWp (P:=P) (η:=η) (dst:=dst) (ty:=ty) (pos:=pos) (after:=after) (gd:=gd) (t:=t) (yt:=yt) hp hq (by decide)
  have e : IntKind.i64.wrap (k.tdiv 2) = (c : Int):=by
    rw [zGZ,Int.tdiv_eq_ediv_of_nonneg (by omega)];omega
  rw [e] at h;exact h
theorem zQo {k : Int} {tx : List UInt8} {S : Bag} (pv pv' : List (List UInt8)) {i : Nat} (hk : k = 10) (hi : i % 2 = 1) (F : List (List UInt8)) : ∀ ks : List Tr,zCX k tx S pv ks i F = zCX k tx S pv' ks i F
  | []=>by rw [zCX,zCX]
  | t :: r=>by rw [zCX,zCX,if_pos ⟨hk,hi⟩,if_pos ⟨hk,hi⟩]
theorem zQn {k : Int} {tx : List UInt8} {S : Bag} {ks : List Tr} {i : Nat} {p u : Tr} {F : List (List UInt8)} (hk : k = 10) (hi : i % 2 = 1) (hp : ks[i]? = some p) (hu : ks[i + 1]? = some u) :
    zCX k tx S [] (ks.drop i) i F = zCX k tx S [] (ks.drop (i + 2)) (i + 2) (u.free (upsB S (zBJ p.fl)) F):=by
  obtain ⟨h1,rfl⟩:=List.getElem?_eq_some_iff.1 hp
  obtain ⟨h2,rfl⟩:=List.getElem?_eq_some_iff.1 hu
  rw [List.drop_eq_getElem_cons h1,List.drop_eq_getElem_cons h2,zCX,if_pos ⟨hk,hi⟩,zCX,if_neg (by omega),bagK,if_neg (by omega),if_pos ⟨hk,by omega⟩]
  exact zQo _ _ hk (by omega) _ _
theorem At.cut {L : List Nd} {n : Nat} {t : Tr} (h : At L n t) : cutO L (n : Int) ((n + t.sz : Nat) : Int) = some t.fl:=by
  obtain ⟨R,hd⟩:=h.pre
  have hl:=h.len
  rw [cutO,if_pos (by omega),Int.toNat_natCast,Int.toNat_natCast,List.drop_take,hd,Nat.add_sub_cancel_left, ← Tr.fl_len,List.take_left]
set_option maxHeartbeats 4000000 in
theorem zO7 {L : List Nd} (hL : L.length ≤ 2000000) {m : Nat} (ih : zHh L m) (n : Nat) (x : Nd) (ks : List Tr) (S : Bag) (F : List (List UInt8)) (b : Nat) (hk : x.kind = 10) (hm : Tr.sz (.mk x ks) ≤ m + 1) (h : At L n (.mk x ks)) (hw : Tr.werr (.mk x ks) false = 0) (hS : GoodB S) (hb : ∀ a,lkB S a ≤ b) (hb2 : b + Tr.sz (.mk x ks) ≤ 1000000) (hF : F.length + Tr.sz (.mk x ks) ≤ 1000000) :
    zAx Tryz.prog 106 [.ptr 0 0,.d (i64 (n : Int))] (fO L S F) (.d (i64 ((n + Tr.sz (.mk x ks) : Nat) : Int))) (fO L S (Tr.free (.mk x ks) S F)):=by
  obtain ⟨h1,h2⟩:=zDC hw
  obtain ⟨h3,h4,h5⟩:=zCv h1
  have hx:=h.here
  have hkn:=h.kidn
  have hlen:=h.len
  have hsz : Tr.sz (.mk x ks) = szL ks + 1:=by rw [Tr.sz]
  have hsl:=zFU ks
  have hke:=zIb n ks
  have hcnt : ∃ c : Nat,ks.length = 2 * c + 1 ∧ 1 ≤ c:=by
    rw [hk] at h5
    have : 3 ≤ x.kids ∧ x.kids % 2 = 1:=by simpa [cntK] using h5
    exact ⟨ks.length / 2,by omega,by omega⟩
  obtain ⟨c,hcl,hc1⟩:=hcnt
  obtain ⟨t0,ht0⟩ : ∃ t,ks[0]? = some t:=⟨_,List.getElem?_eq_getElem (by omega)⟩
  have he : Tr.free (.mk x ks) S F = zCX x.kind x.text S [] (ks.drop 1) 1 (t0.free S F):=by
    obtain ⟨hi,rfl⟩:=List.getElem?_eq_some_iff.1 ht0
    rw [Tr.free,if_neg (by omega)]
    conv=>lhs;rw [show ks = ks.drop 0 by rw [List.drop_zero],List.drop_eq_getElem_cons hi]
    rw [zCX,if_neg (by omega),bagK,if_neg (by omega),if_neg (by omega)]
  rw [he]
  have hs0:=zCw (List.mem_of_getElem? ht0)
  have hd0:=zDe ht0
  rw [List.drop_zero,Nat.zero_add] at hd0
  have hfl0:=zFE t0 S F
  have hf:=ih (n + 1) t0 S F b (by omega) (by simpa [zCM] using h.kid ht0) (by simpa [hk] using zBB (j:=0) h2 ht0) hS hb (by omega) (by omega)
  have hk1 : n + 1 + t0.sz = kidAt n ks 1:=by rw [zDA ht0,zCM]
  rw [hk1] at hf
  have hpair : ∀ (i : Nat) (p u : Tr) (F1 : List (List UInt8)),i % 2 = 1 → ks[i]? = some p → ks[i + 1]? = some u → F1.length + szL (ks.drop i) ≤ 999999 →
      zAx Tryz.prog 129 [.ptr 0 0,.d (i64 ((kidAt n ks (i + 1) : Nat) : Int)),.d (strs (zBJ p.fl))] (fO L S F1) (.d (i64 ((kidAt n ks (i + 2) : Nat) : Int))) (fO L S (u.free (upsB S (zBJ p.fl)) F1)):=fun i p u F1 ho hp hu hf=>by
    have e2 : kidAt n ks (i + 2) = kidAt n ks (i + 1) + u.sz:=zDA hu
    rw [e2]
    have h6:=zCw (List.mem_of_getElem? hu)
    have h8:=zIV p.fl
    rw [Tr.fl_len] at h8
    have h9:=zDe hp
    have h10:=zDe hu
    have h11 : szL (ks.drop i) ≤ szL ks:=by
      have:=zHH (ks.take i) (ks.drop i)
      rw [List.take_append_drop] at this;omega
    refine zH9 L _ _ S F1 _ (zBJ p.fl) hS (by omega) (fun a=>by have:=hb a;omega) ?_
    refine ih _ u (upsB S (zBJ p.fl)) F1 (b + (zBJ p.fl).length) (by omega) (h.kid hu) ?_ (hS.ups _) (fun a=>by rw [zE9];have h6 : (zBJ p.fl).count a ≤ (zBJ p.fl).length:=List.count_le_length;have:=hb a;omega) (by omega) (by omega)
    have h7:=zBB (j:=i + 1) h2 hu
    simpa [hk,show ¬ (i + 1) % 2 = 1 by omega] using h7
  have hcut : ∀ (i : Nat) (p : Tr),ks[i]? = some p → cutO L (kidAt n ks i : Int) (kidAt n ks (i + 1) : Int) = some p.fl ∧ endF L (kidAt n ks i : Int) = (kidAt n ks (i + 1) : Int):=fun i p hp=>by
    rw [zDA hp]
    exact ⟨(h.kid hp).cut,(h.kid hp).endF⟩
  have hF0 : (t0.free S F).length + szL (ks.drop 1) ≤ 999999:=by omega
  have hN : n + 1 + szL ks = n + Tr.sz (.mk x ks):=by omega
  rw [← hN, ← hke]
  generalize t0.free S F = F0 at *
  have hkids : x.kids = 2 * (c : Int) + 1:=by omega
  have hcb : c ≤ 1000000:=by omega
  have hend : ∀ q : Int,zAm Tryz.prog 92 [zAc L,i64 q] (i64 (endF L q)):=fun q=>zGL L q hL
  have hnm : ∀ p : Tr,p ∈ ks → zAm Tryz.prog 100 [zAc p.fl] (strs (zBJ p.fl)):=fun p hp=>zK7 p.fl (by have:=zCw hp;rw [Tr.fl_len];omega)
  have hfall : ∀ i,i ≤ 2 * c + 1 → zCX x.kind x.text S [] (ks.drop i) i F0 = zCX x.kind x.text S [] (ks.drop i) i F0:=fun _ _=>rfl
  rw [show ((n + 1 : Nat) : Int) = (n : Int) + 1 from rfl] at hf
  clear h1 h2 h3 h4 h5 hw h hS ih hsz hm hb2 hF he hN hke hd0 hfl0 hs0 hk1 hfall hkn hsl
  refine zAw Tryz.func106 rfl Tryz.ntmps106 Tryz.results106 rfl rfl rfl ?_
  intro wb St0 X fx
  repeat' first | apply en_n|apply zAH|apply zAC|apply zAF|apply w0|(apply zBV;exact rfl;exact rfl;first|assumption|omega)|(apply zBW;exact rfl;exact rfl;first|assumption|omega)|exact zAe rfl|(refine zAy [0,1,2] zIj (hf) ?_ rfl rfl (by decide) rfl rfl rfl rfl rfl rfl ?_;(repeat (refine zAI rfl ?_));exact zAM)|(apply zWB;exact hkids;exact hcb;exact rfl;exact rfl)|(apply aJ (hd:=rfl);(first|exact zAn rfl|exact Co_bb rfl rfl rfl|exact Co_nn rfl);exact rfl;(with_reducible exact zAa);assumption;omega;exact fun _=>rfl)|(apply zBE (hd:=rfl) (hro:=rfl);(with_reducible exact zAp))|apply ay (hd:=rfl)|exact zAE rfl|exact zAD rfl|(apply zAf;exact rfl;(with_reducible exact zAb);exact rfl)|(apply zBG;exact rfl;exact rfl)|exact zAR rfl|(apply zAS;exact rfl;(with_reducible first|exact fd_0|exact fn_0|exact fn_3))|(apply zAV;exact rfl;(with_reducible first|exact zAz|exact zAg|exact zAk);exact rfl;exact rfl)|(refine w0' ?_)|(apply zA0;exact rfl;exact rfl;exact rfl;(with_reducible exact zAb);exact rfl;exact rfl;exact rfl;exact rfl)|(apply zAQ;exact rfl)|(apply zAU;exact rfl)|apply zAJ
  all_goals try omega
  refine zAs (α:=Nat × List (List UInt8)) (fun p=>p.1 ≤ c ∧ p.2.length + szL (ks.drop (2 * p.1 + 1)) ≤ 999999 ∧ zCX x.kind x.text S [] (ks.drop (2 * p.1 + 1)) (2 * p.1 + 1) p.2 = zCX x.kind x.text S [] (ks.drop 1) 1 F0) (fun p=>[(0,.ptr 0 0),(1,.d (i64 ((kidAt n ks (2 * p.1 + 1) : Nat) : Int))),(88,.d (i64 (c : Int))),(89,.d (i64 (p.1 : Int)))])
    (fun p=>[.bx (fx 0) (some 120) [.d (zAc L),.mp 1,.buf 2 (p.2.map str).length],bagO (fx 1) S,.buf false 9 1 (p.2.map str)]) (fun p=>c - p.1) (0,F0) ⟨Nat.zero_le _,hF0,rfl⟩
    (zAL (zAA rfl (zAA rfl (zAA rfl (zAA rfl zAW)))) (zAB rfl rfl (zAB rfl rfl (zAl rfl rfl rfl zAK))) rfl rfl) ?_
  rintro ⟨i,F1⟩ ⟨q1,q2,q3⟩
  dsimp only at q1 q2 q3 ⊢
  rcases Nat.lt_or_ge i c with hlt | hge
  · obtain ⟨p,hp⟩ : ∃ t,ks[2 * i + 1]? = some t:=⟨_,List.getElem?_eq_getElem (by omega)⟩
    obtain ⟨u,hu⟩ : ∃ t,ks[2 * i + 1 + 1]? = some t:=⟨_,List.getElem?_eq_getElem (by omega)⟩
    have hwi:=hpair (2 * i + 1) p u F1 (by omega) hp hu q2
    obtain ⟨hcu,hen⟩:=hcut _ p hp
    have hE:=hend (kidAt n ks (2 * i + 1) : Int)
    rw [hen] at hE
    have hn:=hnm p (List.mem_of_getElem? hp)
    rw [zQn hk (by omega) hp hu] at q3
    have hfl:=zFE u (upsB S (zBJ p.fl)) F1
    rw [zDe hp,zDe hu,show 2 * i + 1 + 1 + 1 = 2 * i + 1 + 2 from rfl] at q2
    have hli : (i : Int) < (c : Int):=by omega
    generalize u.free (upsB S (zBJ p.fl)) F1 = F2 at *
    generalize zBJ p.fl = N at *
    generalize p.fl = pf at *
    clear hpair hcut hend hnm
    repeat' first | (apply zRi;exact hcu;exact rfl;exact rfl;exact rfl;exact zAa)|apply en_n|apply zAH|apply zAC|apply zAF|apply w0|(apply zBK;exact rfl;exact rfl;first|assumption|omega)|exact zAe rfl|(refine zAX zGH hE (zAZ rfl (zAZ rfl zAG)))|(refine zAX zIi hn (zAZ rfl zAG))|(refine zAy [0,1,2] zIg (hwi) ?_ rfl rfl (by decide) rfl rfl rfl rfl rfl rfl ?_;(repeat (refine zAI rfl ?_));exact zAM)|apply ay (hd:=rfl)|exact zAE rfl|exact zAD rfl|(apply zBG;exact rfl;exact rfl)|exact zAR rfl|(apply zAS;exact rfl;(with_reducible exact fd_0))|(apply zAV;exact rfl;(with_reducible exact zAg);exact rfl;exact rfl)|(apply zAQ;exact rfl)|apply zAJ|apply zAT|apply eb_n
    all_goals try omega
    exact ⟨(i + 1,F2),⟨by simp only;omega,by simp only;rw [show 2 * (i + 1) + 1 = 2 * i + 1 + 2 by omega];omega,q3⟩,by simp only;omega,zAL (zAA rfl (zAA rfl (zAA rfl (zAA rfl zAW)))) (zAB rfl rfl (zAB rfl rfl (zAl rfl rfl rfl zAK))) rfl rfl⟩
  · have hli : ¬ (i : Int) < (c : Int):=by omega
    have e : 2 * i + 1 = ks.length:=by omega
    rw [e,List.drop_length,zCX] at q3
    rw [← q3,e]
    repeat' first | apply en_n|apply zAH|apply zAC|apply zAF|apply w0|(apply zCJ;exact rfl;exact rfl;first|assumption|omega)|apply ay (hd:=rfl)|exact zAE rfl|exact zAD rfl|(apply zAU;exact rfl)|apply zAN|apply zAu|apply en_r|apply en_e|apply eb_r|apply eb_e
    all_goals exact zAh (zAL (zAA rfl zAW) (zAB rfl rfl (zAB rfl rfl (zAl rfl rfl rfl zAK))) rfl rfl)
end Go.Proofs.YtblomnkamngnbaaGreatDoor

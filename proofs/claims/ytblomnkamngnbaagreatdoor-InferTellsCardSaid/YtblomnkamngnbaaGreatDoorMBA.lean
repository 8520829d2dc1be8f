/- Texts of this claim, merged: SynM, InfU. -/
import Derived.Test.YtblomnkamngnbaaGreatDoorMAN
import Derived.Test.YtblomnkamngnbaaGreatDoorMBG
import Derived.Test.YtblomnkamngnbaaGreatDoorMBJ
namespace Go.Proofs.YtblomnkamngnbaaGreatDoor
open Go.Sx
attribute [local irreducible] zAT Program.underlying Ylds zBA alex zBe zBP awp zAj zBZ zBk zA2 zBH zBR zA8 zBV zBb zBf zBu zBO VCall
theorem zVA {P : Program} {η : List Ob} {σ : Sl} {dst : Option Nat} {ty : TypeId} {pos : String} {after : Array Edge} {gd : Option (Nat × Bool)} {t yt : TypeId} {p q : Operand} {k : Int} {c : Nat} (hk : k = 2 * (c : Int) + 1) (hc : c ≤ 1000000) (hp : oval σ p = .d (i64 k)) (hq : oval σ q = .d (i64 2)) :
    Ylds P η σ ⟨dst,.binOp .quo t p q yt,ty,pos,after,gd⟩ (.d (i64 (c : Int))):=by
  have h:=zVn (P:=P) (η:=η) (dst:=dst) (ty:=ty) (pos:=pos) (after:=after) (gd:=gd) (t:=t) (yt:=yt) hp hq (by decide)
  have e : IntKind.i64.wrap (k.tdiv 2) = (c : Int):=by
    rw [zGC,Int.tdiv_eq_ediv_of_nonneg (by omega)];omega
  rw [e] at h;exact h
theorem zPz {k : Int} {tx : List UInt8} {S : Bag} (pv pv' : List (List UInt8)) {i : Nat} (hk : k = 10) (hi : i % 2 = 1) (F : List (List UInt8)) : ∀ ks : List Tr,zCa k tx S pv ks i F = zCa k tx S pv' ks i F
  | []=>by rw [zCa,zCa]
  | t :: r=>by rw [zCa,zCa,if_pos ⟨hk,hi⟩,if_pos ⟨hk,hi⟩]
theorem zPy {k : Int} {tx : List UInt8} {S : Bag} {ks : List Tr} {i : Nat} {p u : Tr} {F : List (List UInt8)} (hk : k = 10) (hi : i % 2 = 1) (hp : ks[i]? = some p) (hu : ks[i + 1]? = some u) :
    zCa k tx S [] (ks.drop i) i F = zCa k tx S [] (ks.drop (i + 2)) (i + 2) (u.free (upsB S (zBJ p.fl)) F):=by
  obtain ⟨h1,rfl⟩:=List.getElem?_eq_some_iff.1 hp
  obtain ⟨h2,rfl⟩:=List.getElem?_eq_some_iff.1 hu
  rw [List.drop_eq_getElem_cons h1,List.drop_eq_getElem_cons h2,zCa,if_pos ⟨hk,hi⟩,zCa,if_neg (by omega),bagK,if_neg (by omega),if_pos ⟨hk,by omega⟩]
  exact zPz _ _ hk (by omega) _ _
theorem At.cut {L : List Nd} {n : Nat} {t : Tr} (h : At L n t) : cutO L (n : Int) ((n + t.sz : Nat) : Int) = some t.fl:=by
  obtain ⟨R,hd⟩:=h.pre
  have hl:=h.len
  rw [cutO,if_pos (by omega),Int.toNat_natCast,Int.toNat_natCast,List.drop_take,hd,Nat.add_sub_cancel_left, ← Tr.fl_len,List.take_left]
set_option maxHeartbeats 4000000 in
theorem zOS {L : List Nd} (hL : L.length ≤ 2000000) {m : Nat} (ih : zHS L m) (n : Nat) (x : Nd) (ks : List Tr) (S : Bag) (F : List (List UInt8)) (b : Nat) (hk : x.kind = 10) (hm : Tr.sz (.mk x ks) ≤ m + 1) (h : At L n (.mk x ks)) (hw : Tr.werr (.mk x ks) false = 0) (hS : GoodB S) (hb : ∀ a,lkB S a ≤ b) (hb2 : b + Tr.sz (.mk x ks) ≤ 1000000) (hF : F.length + Tr.sz (.mk x ks) ≤ 1000000) :
    zA2 Tryz.prog 106 [.ptr 0 0,.d (i64 (n : Int))] (fO L S F) (.d (i64 ((n + Tr.sz (.mk x ks) : Nat) : Int))) (fO L S (Tr.free (.mk x ks) S F)):=by
  obtain ⟨h1,h2⟩:=zC7 hw
  obtain ⟨h3,h4,h5⟩:=zCO h1
  have hx:=h.here
  have hkn:=h.kidn
  have hlen:=h.len
  have hsz : Tr.sz (.mk x ks) = szL ks + 1:=by rw [Tr.sz]
  have hsl:=zD4 ks
  have hke:=zIM n ks
  have hcnt : ∃ c : Nat,ks.length = 2 * c + 1 ∧ 1 ≤ c:=by
    rw [hk] at h5
    have : 3 ≤ x.kids ∧ x.kids % 2 = 1:=by simpa [cntK] using h5
    exact ⟨ks.length / 2,by omega,by omega⟩
  obtain ⟨c,hcl,hc1⟩:=hcnt
  obtain ⟨t0,ht0⟩ : ∃ t,ks[0]? = some t:=⟨_,List.getElem?_eq_getElem (by omega)⟩
  have he : Tr.free (.mk x ks) S F = zCa x.kind x.text S [] (ks.drop 1) 1 (t0.free S F):=by
    obtain ⟨hi,rfl⟩:=List.getElem?_eq_some_iff.1 ht0
    rw [Tr.free,if_neg (by omega)]
    conv=>lhs;rw [show ks = ks.drop 0 by rw [List.drop_zero],List.drop_eq_getElem_cons hi]
    rw [zCa,if_neg (by omega),bagK,if_neg (by omega),if_neg (by omega)]
  rw [he]
  have hs0:=zCo (List.mem_of_getElem? ht0)
  have hd0:=zDZ ht0
  rw [List.drop_zero,Nat.zero_add] at hd0
  have hfl0:=zEy t0 S F
  have hf:=ih (n + 1) t0 S F b (by omega) (by simpa [zCH] using h.kid ht0) (by simpa [hk] using zBa (j:=0) h2 ht0) hS hb (by omega) (by omega)
  have hk1 : n + 1 + t0.sz = kidAt n ks 1:=by rw [zC0 ht0,zCH]
  rw [hk1] at hf
  have hpair : ∀ (i : Nat) (p u : Tr) (F1 : List (List UInt8)),i % 2 = 1 → ks[i]? = some p → ks[i + 1]? = some u → F1.length + szL (ks.drop i) ≤ 999999 →
      zA2 Tryz.prog 129 [.ptr 0 0,.d (i64 ((kidAt n ks (i + 1) : Nat) : Int)),.d (strs (zBJ p.fl))] (fO L S F1) (.d (i64 ((kidAt n ks (i + 2) : Nat) : Int))) (fO L S (u.free (upsB S (zBJ p.fl)) F1)):=fun i p u F1 ho hp hu hf=>by
    have e2 : kidAt n ks (i + 2) = kidAt n ks (i + 1) + u.sz:=zC0 hu
    rw [e2]
    have h6:=zCo (List.mem_of_getElem? hu)
    have h8:=zEb p.fl
    rw [Tr.fl_len] at h8
    have h9:=zDZ hp
    have h10:=zDZ hu
    have h11 : szL (ks.drop i) ≤ szL ks:=by
      have:=zGt (ks.take i) (ks.drop i)
      rw [List.take_append_drop] at this;omega
    refine zHy L _ _ S F1 _ (zBJ p.fl) hS (by omega) (fun a=>by have:=hb a;omega) ?_
    refine ih _ u (upsB S (zBJ p.fl)) F1 (b + (zBJ p.fl).length) (by omega) (h.kid hu) ?_ (hS.ups _) (fun a=>by rw [zF1];have h6 : (zBJ p.fl).count a ≤ (zBJ p.fl).length:=List.count_le_length;have:=hb a;omega) (by omega) (by omega)
    have h7:=zBa (j:=i + 1) h2 hu
    simpa [hk,show ¬ (i + 1) % 2 = 1 by omega] using h7
  have hcut : ∀ (i : Nat) (p : Tr),ks[i]? = some p → cutO L (kidAt n ks i : Int) (kidAt n ks (i + 1) : Int) = some p.fl ∧ endF L (kidAt n ks i : Int) = (kidAt n ks (i + 1) : Int):=fun i p hp=>by
    rw [zC0 hp]
    exact ⟨(h.kid hp).cut,(h.kid hp).endF⟩
  have hF0 : (t0.free S F).length + szL (ks.drop 1) ≤ 999999:=by omega
  have hN : n + 1 + szL ks = n + Tr.sz (.mk x ks):=by omega
  rw [← hN, ← hke]
  generalize t0.free S F = F0 at *
  have hkids : x.kids = 2 * (c : Int) + 1:=by omega
  have hcb : c ≤ 1000000:=by omega
  have hend : ∀ q : Int,zAj Tryz.prog 92 [zAc L,i64 q] (i64 (endF L q)):=fun q=>zFx L q hL
  have hnm : ∀ p : Tr,p ∈ ks → zAj Tryz.prog 100 [zAc p.fl] (strs (zBJ p.fl)):=fun p hp=>zKd p.fl (by have:=zCo hp;rw [Tr.fl_len];omega)
  have hfall : ∀ i,i ≤ 2 * c + 1 → zCa x.kind x.text S [] (ks.drop i) i F0 = zCa x.kind x.text S [] (ks.drop i) i F0:=fun _ _=>rfl
  rw [show ((n + 1 : Nat) : Int) = (n : Int) + 1 from rfl] at hf
  clear h1 h2 h3 h4 h5 hw h hS ih hsz hm hb2 hF he hN hke hd0 hfl0 hs0 hk1 hfall hkn hsl
  refine zA1 Tryz.func106 rfl Tryz.ntmps106 Tryz.results106 rfl rfl rfl ?_
  intro wb St0 X fx
  repeat' first | apply en_n|apply zAH|apply zAB|apply zAF|apply w0|(apply zBD;exact rfl;exact rfl;first|assumption|omega)|(apply zA9;exact rfl;exact rfl;first|assumption|omega)|exact zAo rfl|(refine zA3 [0,1,2] zIW (hf) ?_ rfl rfl (by decide) rfl rfl rfl rfl rfl rfl ?_;(repeat (refine zAL rfl ?_));exact zAS)|(apply zVA;exact hkids;exact hcb;exact rfl;exact rfl)|(apply aJ (hd:=rfl);(first|exact zAk rfl|exact Co_bb rfl rfl rfl|exact Co_nn rfl);exact rfl;(with_reducible exact zAW);assumption;omega;exact fun _=>rfl)|(apply zA4 (hd:=rfl) (hro:=rfl);(with_reducible exact zAp))|apply ay (hd:=rfl)|exact zAE rfl|exact zAC rfl|(apply zAf;exact rfl;(with_reducible exact zAY);exact rfl)|(apply zBC;exact rfl;exact rfl)|exact zAZ rfl|(apply zAR;exact rfl;(with_reducible first|exact fd_0|exact fn_0|exact fn_3))|(apply zAU;exact rfl;(with_reducible first|exact zAs|exact zAn|exact zAe);exact rfl;exact rfl)|(refine w0' ?_)|(apply zAx;exact rfl;exact rfl;exact rfl;(with_reducible exact zAY);exact rfl;exact rfl;exact rfl;exact rfl)|(apply zAK;exact rfl)|(apply zAQ;exact rfl)|apply zAI
  all_goals try omega
  refine zAr (α:=Nat × List (List UInt8)) (fun p=>p.1 ≤ c ∧ p.2.length + szL (ks.drop (2 * p.1 + 1)) ≤ 999999 ∧ zCa x.kind x.text S [] (ks.drop (2 * p.1 + 1)) (2 * p.1 + 1) p.2 = zCa x.kind x.text S [] (ks.drop 1) 1 F0) (fun p=>[(0,.ptr 0 0),(1,.d (i64 ((kidAt n ks (2 * p.1 + 1) : Nat) : Int))),(88,.d (i64 (c : Int))),(89,.d (i64 (p.1 : Int)))])
    (fun p=>[.bx (fx 0) (some 120) [.d (zAc L),.mp 1,.buf 2 (p.2.map str).length],bagO (fx 1) S,.buf false 9 1 (p.2.map str)]) (fun p=>c - p.1) (0,F0) ⟨Nat.zero_le _,hF0,rfl⟩
    (zAO (zAA rfl (zAA rfl (zAA rfl (zAA rfl zAa)))) (zAD rfl rfl (zAD rfl rfl (zAu rfl rfl rfl zAN))) rfl rfl) ?_
  rintro ⟨i,F1⟩ ⟨q1,q2,q3⟩
  dsimp only at q1 q2 q3 ⊢
  rcases Nat.lt_or_ge i c with hlt | hge
  · obtain ⟨p,hp⟩ : ∃ t,ks[2 * i + 1]? = some t:=⟨_,List.getElem?_eq_getElem (by omega)⟩
    obtain ⟨u,hu⟩ : ∃ t,ks[2 * i + 1 + 1]? = some t:=⟨_,List.getElem?_eq_getElem (by omega)⟩
    have hwi:=hpair (2 * i + 1) p u F1 (by omega) hp hu q2
    obtain ⟨hcu,hen⟩:=hcut _ p hp
    have hE:=hend (kidAt n ks (2 * i + 1) : Int)
    rw [hen] at hE
    have hn:=hnm p (List.mem_of_getElem? hp)
    rw [zPy hk (by omega) hp hu] at q3
    have hfl:=zEy u (upsB S (zBJ p.fl)) F1
    rw [zDZ hp,zDZ hu,show 2 * i + 1 + 1 + 1 = 2 * i + 1 + 2 from rfl] at q2
    have hli : (i : Int) < (c : Int):=by omega
    generalize u.free (upsB S (zBJ p.fl)) F1 = F2 at *
    generalize zBJ p.fl = N at *
    generalize p.fl = pf at *
    clear hpair hcut hend hnm
    repeat' first | (apply zQn;exact hcu;exact rfl;exact rfl;exact rfl;exact zAW)|apply en_n|apply zAH|apply zAB|apply zAF|apply w0|(apply zA5;exact rfl;exact rfl;first|assumption|omega)|exact zAo rfl|(refine zAV zFs hE (zAX rfl (zAX rfl zAG)))|(refine zAV zIS hn (zAX rfl zAG))|(refine zA3 [0,1,2] zIQ (hwi) ?_ rfl rfl (by decide) rfl rfl rfl rfl rfl rfl ?_;(repeat (refine zAL rfl ?_));exact zAS)|apply ay (hd:=rfl)|exact zAE rfl|exact zAC rfl|(apply zBC;exact rfl;exact rfl)|exact zAZ rfl|(apply zAR;exact rfl;(with_reducible exact fd_0))|(apply zAU;exact rfl;(with_reducible exact zAn);exact rfl;exact rfl)|(apply zAK;exact rfl)|apply zAI|apply zAP|apply eb_n
    all_goals try omega
    exact ⟨(i + 1,F2),⟨by simp only;omega,by simp only;rw [show 2 * (i + 1) + 1 = 2 * i + 1 + 2 by omega];omega,q3⟩,by simp only;omega,zAO (zAA rfl (zAA rfl (zAA rfl (zAA rfl zAa)))) (zAD rfl rfl (zAD rfl rfl (zAu rfl rfl rfl zAN))) rfl rfl⟩
  · have hli : ¬ (i : Int) < (c : Int):=by omega
    have e : 2 * i + 1 = ks.length:=by omega
    rw [e,List.drop_length,zCa] at q3
    rw [← q3,e]
    repeat' first | apply en_n|apply zAH|apply zAB|apply zAF|apply w0|(apply zBq;exact rfl;exact rfl;first|assumption|omega)|apply ay (hd:=rfl)|exact zAE rfl|exact zAC rfl|(apply zAQ;exact rfl)|apply zAM|apply zAt|apply en_r|apply en_e|apply eb_r|apply eb_e
    all_goals exact zAq (zAO (zAA rfl zAa) (zAD rfl rfl (zAD rfl rfl (zAu rfl rfl rfl zAN))) rfl rfl)
end Go.Proofs.YtblomnkamngnbaaGreatDoor
namespace Go.Proofs.YtblomnkamngnbaaGreatDoor
open Go.Sx
attribute [local irreducible] zAT Program.underlying Ylds zBA alex zBe zBP awp zAj zBZ zBk zA2 zBH zBR zA8 zBV zBb zBf zBu zBO zEL VCall segC
set_option maxHeartbeats 4000000 in
theorem zTZ {L : List Nd} {E : List Sg} {q m : Nat} (hL : L.length ≤ 2000000) (ih : zGr L E q m) (n : Nat) (x : Nd) (ks : List Tr) (N : List Lc) (S S' : TS) (r : List Nd) (hk : x.kind = 8) (hm : (Tr.mk x ks).sz ≤ m + 1) (h : At L n (.mk x ks)) (hw : (Tr.mk x ks).werr false = 0) (hz : (Tr.mk x ks).sz ≤ 4500) (hA : Ask E N S (Tr.mk x ks).sz) (h0 : S.er = 0) (hp : (Tr.mk x ks).expS q E N S = some (r,S')) :
    zA2 Tryz.prog 39 [.ptr 0 0,.d (i64 (n : Int)),.d (locs N)] (tyO L E S) (.d (zAc r)) (tyO L E S'):=by
  have hx:=h.here
  have hlen : n < L.length:=(List.getElem?_eq_some_iff.1 hx).1
  have hkid:=zCd L (n : Int) hL
  obtain ⟨a,b,rfl⟩:=zHO h.wf (by have:=(zDA hw).2;rw [hk] at this;simpa [cntK] using this)
  have hwk:=(zC7 hw).2
  have hwf:=h.wf
  rw [Tr.wf] at hwf
  have hwf2:=zCW.1 hwf.2
  have hsz : (Tr.mk x [a,b]).sz = a.sz + b.sz + 1:=by simp only [Tr.sz,szL,Nat.add_zero] <;> omega
  have hk0:=h.kids_get (i:=0) (by simp)
  have hat0:=h.kid (i:=0) (k:=a) rfl
  have hw0 : a.werr false = 0:=by simpa [hk] using zBa (j:=0) hwk (k:=a) rfl
  have hf0:=hwf2 a (by simp)
  have hk1:=h.kids_get (i:=1) (by simp)
  have hat1:=h.kid (i:=1) (k:=b) rfl
  have hw1 : b.werr false = 0:=by simpa [hk] using zBa (j:=1) hwk (k:=b) rfl
  have hf1:=hwf2 b (by simp)
  generalize kidAt n [a,b] 0 = p0 at *
  generalize kidAt n [a,b] 1 = p1 at *
  obtain ⟨t,S1,S2,y,S3,h1,h2,h3,h4⟩:=zUn h0 hk hp
  have hpa:=zBS a
  have hpb:=zBS b
  have hlk : LcOk ⟨x.text,varN S.nx,[]⟩:=⟨by simp [varN],by simp⟩
  obtain ⟨b01,b02⟩:=zBj hA.t a.sz a (Nat.le_refl _) hf0 hw0 (by omega) (hA.ok.app hlk) h1
  obtain ⟨d1,hly⟩:=zKM (by simp [varN]) h3
  obtain ⟨b11,b12⟩:=zBj hA.t b.sz b (Nat.le_refl _) hf1 hw1 (by omega) (hA.ok.app hly) h4
  have hA0:=hA.go (zCP S) (hA.ok.app hlk) (k1:=a.sz) (by simp;omega) (by omega)
  have hA8:=hA.go ((zCP S).trans b01) hA.ok (k1:=1) (by omega) (by omega)
  have hA9:=hA.go (((zCP S).trans b01).trans (zCD h2)) hA.ok (k1:=1) (by omega) (by omega)
  have hA1:=hA.go ((((zCP S).trans b01).trans (zCD h2)).trans d1) (hA.ok.app hly) (k1:=b.sz) (by simp;omega) (by omega)
  have hnx:=zFG L E S (by have:=hA.nx;omega)
  have hsm:=zDD L E S1 S2 q (varN S.nx) t (by simp [varN]) (by omega) hA8.st h2
  have hay:=zSi L E S2 S3 q x.text (varN S.nx) N y (by simp [varN]) (by have:=hA.n;omega) (fun l hl=>⟨(hA.ok l hl).1,by have:=(hA.ok l hl).2;omega⟩) hA9.st h3
  have hce0:=ih p0 a (N ++ [⟨x.text,varN S.nx,[]⟩]) (zCq S) S1 t (by omega) hat0 hw0 (by omega) hA0 h1
  rw [show locs (N ++ [⟨x.text,varN S.nx,[]⟩]) = .slice (N.map Lc.av ++ [Lc.av ⟨x.text,varN S.nx,[]⟩]) by simp [locs]] at hce0
  have hce1:=ih p1 b (N ++ [y]) S3 S' r (by omega) hat1 hw1 (by omega) hA1 h4
  rw [show locs (N ++ [y]) = .slice (N.map Lc.av ++ [Lc.av y]) by simp [locs]] at hce1
  have hcap : ((N.map Lc.av).length + 1) * 64 ≤ 140737488355328 ∧ (N.map Lc.av).length + 1 ≤ 140737488355328:=by have:=hA.n;rw [List.length_map];omega
  clear hp h1 h2 h3 h4 hwk hwf2 hwf
  generalize zBX L (n : Int) = KK at *
  refine zA1 Tryz.func39 rfl Tryz.ntmps39 Tryz.results39 rfl rfl rfl ?_
  intro wb St0 X fx
  repeat' first | (refine zBv (id:=32) (s:=[(0,.ptr 0 0),(2,.d (tslN N)),(7,.ptr 3 0),(8,.d (zBm KK)),(16,.d (zAc (varN S.nx)))]) (h:=anch fx 0 (tyO L E S) (tyO L E (zCq S)) ++ [ndB x]) (zAO (zAA rfl (zAA rfl (zAA rfl (zAA rfl (zAA rfl zAa))))) (zAD rfl rfl (zAD rfl rfl (zAD rfl rfl (zAD rfl rfl zAN)))) rfl rfl) ?_)|(refine zBv (id:=33) (s:=[(0,.ptr 0 0),(2,.d (tslN N)),(7,.ptr 3 0),(8,.d (zBm KK)),(16,.d (zAc (varN S.nx)))]) (h:=anch fx 0 (tyO L E S) (tyO L E S2) ++ [ndB x]) (zAO (zAA rfl (zAA rfl (zAA rfl (zAA rfl (zAA rfl zAa))))) (zAD rfl rfl (zAD rfl rfl (zAD rfl rfl (zAD rfl rfl zAN)))) rfl rfl) ?_)|exact zCg rfl|(refine zBv (id:=5) (s:=[(0,.ptr 0 0),(2,.d (tslN N)),(7,.ptr 3 0),(8,.d (zBm KK))]) (h:=anch fx 0 (tyO L E S) (tyO L E S) ++ [ndB x]) (zAO (zAA rfl (zAA rfl (zAA rfl (zAA rfl zAa)))) (zAD rfl rfl (zAD rfl rfl (zAD rfl rfl (zGq rfl zEQ zAN)))) rfl rfl) ?_)|(refine zB2 (id:=4) [.y (.ptr 0 0),.y (.ptr 0 0),.y (.ptr 0 1),.y (.d (zAc L)),.y (.d (i64 (n : Int))),.y (.rptr x.av.flat),.y (.d (.agg (x.av.flat.take 4))),.y (.ptr 0 0),.y (.ptr 0 0),.y (.ptr 0 1),.y (.d (zAc L)),.y (.d (i64 (n : Int))),.y (.d (zBm KK)),.mk ⟨7,zsN,40,zsN.map cst⟩ none] (by kernel_rfl) (by kernel_rfl) (.inr (by kernel_rfl)) ⟨⟨rfl,zAZ rfl⟩,rfl,⟨rfl,zAo rfl⟩,rfl,⟨rfl,zAR rfl fy_1⟩,rfl,⟨rfl,zAU rfl zAn rfl rfl⟩,rfl,⟨rfl,zAE rfl⟩,rfl,⟨rfl,zE8 hx rfl rfl zAW⟩,rfl,⟨rfl,zAf rfl zAY rfl⟩,rfl,⟨rfl,zAZ rfl⟩,rfl,⟨rfl,zAo rfl⟩,rfl,⟨rfl,zAR rfl fy_1⟩,rfl,⟨rfl,zAU rfl zAn rfl rfl⟩,rfl,⟨rfl,zAE rfl⟩,rfl,⟨rfl,zAV zCY hkid (zAX rfl (zAX rfl zAG))⟩,rfl,⟨rfl,rfl,rfl,zAp,by kernel_rfl,rfl⟩,rfl,trivial⟩ ?_)|(apply zHD (id:=32) (ids:=[0,1,2]) (ss:=[.ptr 0 0,.d (zAc (varN S.nx)),.ptr 0 0,.d (zBm KK),.rptr (ival (p0 : Int)).flat,.d (ival (p0 : Int)),.d (tslN N),.ptr 3 (0 + 1),.d (str x.text),.d (zAc (varN S.nx)),.d (Lc.av ⟨x.text,varN S.nx,[]⟩),.d (.slice [Lc.av ⟨x.text,varN S.nx,[]⟩]),.d (.slice (N.map Lc.av ++ [Lc.av ⟨x.text,varN S.nx,[]⟩])),.d (zAc t),.top]) (e:=13) (f:=14);kernel_rfl;kernel_rfl;exact rfl;exact .inl rfl;exact rfl;exact rfl;exact rfl;kernel_rfl)|(apply zHD (id:=33) (ids:=[0,1,2]) (ss:=[.ptr 0 0,.d (zBm KK),.rptr (ival (p1 : Int)).flat,.d (ival (p1 : Int)),.d (tslN N),.ptr 0 0,.ptr 3 (0 + 1),.d (str x.text),.d (zAc (varN S.nx)),.d (locs N),.d (Lc.av y),.d (.slice [Lc.av y]),.d (.slice (N.map Lc.av ++ [Lc.av y])),.d (zAc r)]) (e:=10) (f:=13);kernel_rfl;kernel_rfl;exact rfl;exact .inr (by kernel_rfl);exact rfl;exact rfl;exact rfl;kernel_rfl)|apply en_n|apply zAH|apply zAB|apply zAF|apply w0|(apply zHa;exact zAk rfl;(with_reducible exact zBz);exact rfl;exact rfl;exact (by simp);exact zDL N)|(refine zDC (by kernel_rfl) ?_;apply zAx;exact rfl;exact rfl;exact rfl;(with_reducible exact zAY);exact rfl;exact rfl;exact rfl;exact rfl)|(apply zBD;exact rfl;exact rfl;first|assumption|omega)|(apply zA9;exact rfl;exact rfl;first|assumption|omega)|(apply zBU;exact rfl;exact rfl;first|assumption|omega)|exact zAo rfl|(refine zA3 [0,1,2] zEA (hnx) ?_ rfl rfl (by decide) rfl rfl rfl rfl rfl rfl ?_;(repeat (refine zAL rfl ?_));exact zAS)|exact zGK|(apply zGw (hb:=zDJ) (hc:=hce0);exact rfl;((repeat (refine zAL rfl ?_));exact zAS);exact rfl;exact rfl;exact (by decide);exact rfl;exact rfl;exact rfl;exact rfl;exact rfl;exact rfl;exact rfl;exact rfl;exact rfl;exact rfl)|(apply zL4 (hb:=zCQ) (hc:=hsm);exact rfl;((repeat (refine zAL rfl ?_));exact zAS);exact rfl;exact rfl;exact (by decide);exact rfl;exact rfl;exact rfl;exact rfl;exact rfl;exact rfl;exact rfl;exact rfl;exact rfl;exact rfl)|(apply zGw (hb:=zSZ) (hc:=hay);exact rfl;((repeat (refine zAL rfl ?_));exact zAS);exact rfl;exact rfl;exact (by decide);exact rfl;exact rfl;exact rfl;exact rfl;exact rfl;exact rfl;exact rfl;exact rfl;exact rfl;exact rfl)|(apply zL4 (hb:=zDJ) (hc:=hce1);exact rfl;((repeat (refine zAL rfl ?_));exact zAS);exact rfl;exact rfl;exact (by decide);exact rfl;exact rfl;exact rfl;exact rfl;exact rfl;exact rfl;exact rfl;exact rfl;exact rfl;exact rfl)|(refine zKh rfl rfl rfl rfl ?_ ?_)|apply zFV|exact zGp|(apply zHI;exact hk0;exact rfl;exact rfl;exact zA7)|(apply zHI;exact hk1;exact rfl;exact rfl;exact zA7)|(apply zJa (ys:=[Lc.av ⟨x.text,varN S.nx,[]⟩]);exact rfl;exact zAk rfl;exact rfl;(with_reducible exact zCb);(with_reducible exact zBz);(with_reducible exact zHK);(with_reducible exact zFQ);exact zDL N;exact zCE rfl;exact hcap)|(apply zJa (ys:=[Lc.av y]);exact rfl;exact zAk rfl;exact rfl;(with_reducible exact zCb);(with_reducible exact zBz);(with_reducible exact zHK);(with_reducible exact zFQ);exact zDL N;exact zCE rfl;exact hcap)|(apply zBE (cs:=Lc.cells ⟨x.text,varN S.nx,[]⟩);exact zHN;exact zE4;exact PD_d rfl rfl (PD_d rfl rfl (PD_n rfl zB0));exact rfl)|apply ay (hd:=rfl)|exact zAE rfl|exact zAC rfl|(apply zAg;exact rfl;(with_reducible exact zAs))|(apply zAl;exact rfl;(with_reducible exact zDO))|exact zAb rfl|exact zAZ rfl|(apply zAR;exact rfl;(with_reducible first|exact fy_3|exact fn_0|exact fn_1))|(apply zAU;exact rfl;(with_reducible first|exact zAe|exact zAv|exact zCj);exact rfl;exact rfl)|(apply zCC;(with_reducible exact zCb);(with_reducible exact zBz);(with_reducible exact zHw);exact rfl;exact rfl;(first|exact zAX rfl zAG|exact zC4 rfl rfl rfl zAG|exact zDG rfl zAG);exact rfl)|(refine w0' ?_)|(apply zAK;exact rfl)|(apply zAQ;exact rfl)|apply zAI|apply zAP|apply zAM|apply en_r|apply eb_r
  exact zAq (zAO (zAA rfl zAa) (zAD rfl rfl (zAD rfl rfl (zAD rfl rfl zAN))) rfl rfl)
end Go.Proofs.YtblomnkamngnbaaGreatDoor

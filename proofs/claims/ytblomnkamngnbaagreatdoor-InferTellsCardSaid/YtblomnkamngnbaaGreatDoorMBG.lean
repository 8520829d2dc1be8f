/- Texts of this claim, merged: SynL, InfJ, InfK, InfL, InfXA, InfXB, InfXC, InfXD, InfXE. -/
import Derived.Test.YtblomnkamngnbaaGreatDoorMAH
import Derived.Test.YtblomnkamngnbaaGreatDoorMAN
import Derived.Test.YtblomnkamngnbaaGreatDoorMAY
import Derived.Test.YtblomnkamngnbaaGreatDoorMBF
namespace Go.Proofs.YtblomnkamngnbaaGreatDoor
open Go.Sx
attribute [local irreducible] zAT Program.underlying Ylds zBA alex zBe zBP awp zAj zBZ zBk zA2 zBH zBR zA8 zBV zBb zBf zBu zBO VCall
theorem zDZ {ks : List Tr} {i : Nat} {k : Tr} (h : ks[i]? = some k) : szL (ks.drop i) = k.sz + szL (ks.drop (i + 1)):=by
  obtain ⟨hi,rfl⟩:=List.getElem?_eq_some_iff.1 h
  rw [List.drop_eq_getElem_cons hi,szL]
theorem zOO {k : Int} {tx : List UInt8} {S : Bag} {pv : List (List UInt8)} {ks : List Tr} {i : Nat} {t : Tr} {F : List (List UInt8)} (h : ks[i]? = some t) (hk : k = 6 ∨ k = 9 ∨ k = 11) : zCa k tx S pv (ks.drop i) i F = zCa k tx S pv (ks.drop (i + 1)) (i + 1) (t.free S F):=by
  obtain ⟨hi,rfl⟩:=List.getElem?_eq_some_iff.1 h
  rw [List.drop_eq_getElem_cons hi,zCa,if_neg (by omega),bagK,if_neg (by omega),if_neg (by omega)]
set_option maxHeartbeats 4000000 in
theorem zP7 {L : List Nd} (hL : L.length ≤ 2000000) {m : Nat} (ih : zHS L m) (n : Nat) (x : Nd) (ks : List Tr) (S : Bag) (F : List (List UInt8)) (b : Nat) (hk : x.kind = 6 ∨ x.kind = 9 ∨ x.kind = 11) (hm : Tr.sz (.mk x ks) ≤ m + 1) (h : At L n (.mk x ks)) (hw : Tr.werr (.mk x ks) false = 0) (hS : GoodB S) (hb : ∀ a,lkB S a ≤ b) (hb2 : b + Tr.sz (.mk x ks) ≤ 1000000) (hF : F.length + Tr.sz (.mk x ks) ≤ 1000000) :
    zA2 Tryz.prog 106 [.ptr 0 0,.d (i64 (n : Int))] (fO L S F) (.d (i64 ((n + Tr.sz (.mk x ks) : Nat) : Int))) (fO L S (Tr.free (.mk x ks) S F)):=by
  obtain ⟨h1,h2⟩:=zC7 hw
  obtain ⟨h3,h4,h5⟩:=zCO h1
  have hx:=h.here
  have hkn:=h.kidn
  have hlen:=h.len
  have hsz : Tr.sz (.mk x ks) = szL ks + 1:=by rw [Tr.sz]
  have hsl:=zD4 ks
  have hke:=zIM n ks
  have he : Tr.free (.mk x ks) S F = zCa x.kind x.text S [] ks 0 F:=by rw [Tr.free,if_neg (by omega)]
  rw [he]
  have hkid : ∀ (i : Nat) (t : Tr) (F1 : List (List UInt8)),ks[i]? = some t → F1.length + szL (ks.drop i) ≤ 999999 → zA2 Tryz.prog 106 [.ptr 0 0,.d (i64 ((kidAt n ks i : Nat) : Int))] (fO L S F1) (.d (i64 ((kidAt n ks (i + 1) : Nat) : Int))) (fO L S (t.free S F1)):=fun i t F1 hi hf=>by
    rw [zC0 hi]
    have h6:=zCo (List.mem_of_getElem? hi)
    rw [zDZ hi] at hf
    refine ih _ t S F1 b (by omega) (h.kid hi) ?_ hS hb (by omega) (by omega)
    have h7:=zBa (j:=i) h2 hi
    rcases hk with hk | hk | hk <;> simpa [hk] using h7
  have hF0 : F.length + szL ks ≤ 999999:=by omega
  have hN : n + 1 + szL ks = n + Tr.sz (.mk x ks):=by omega
  rw [← hN, ← hke]
  clear h1 h2 h3 h4 h5 hw h hS ih hsz hm hb2 hF he hN hke
  rcases hk with hk | hk | hk
  all_goals
    have hk' : x.kind = 6 ∨ x.kind = 9 ∨ x.kind = 11:=by omega
    refine zA1 Tryz.func106 rfl Tryz.ntmps106 Tryz.results106 rfl rfl rfl ?_
    intro wb St0 X fx
    repeat' first | apply en_n|apply zAH|apply zAB|apply zAF|apply w0|(apply zBD;exact rfl;exact rfl;first|assumption|omega)|(apply zA9;exact rfl;exact rfl;first|assumption|omega)|(apply k0u (hd:=rfl);exact rfl;exact rfl)|exact zAo rfl|(apply aJ (hd:=rfl);(first|exact zAk rfl|exact Co_bb rfl rfl rfl|exact Co_nn rfl);exact rfl;(with_reducible exact zAW);assumption;omega;exact fun _=>rfl)|(apply zA4 (hd:=rfl) (hro:=rfl);(with_reducible exact zAp))|apply ay (hd:=rfl)|exact zAE rfl|exact zAC rfl|(apply zAf;exact rfl;(with_reducible exact zAY);exact rfl)|(apply zBC;exact rfl;exact rfl)|exact zAi rfl rfl|exact zAh rfl rfl|exact zAZ rfl|(apply zAR;exact rfl;(with_reducible first|exact fd_0|exact fn_0|exact fn_3))|(apply zAU;exact rfl;(with_reducible first|exact zAs|exact zAn|exact zAe);exact rfl;exact rfl)|(apply w1;exact rfl;exact rfl)|(refine w0' ?_)|(apply zAx;exact rfl;exact rfl;exact rfl;(with_reducible exact zAY);exact rfl;exact rfl;exact rfl;exact rfl)|(apply zAK;exact rfl)|(apply zAQ;exact rfl)|apply zAI|apply zAP|apply eb_n
    all_goals try omega
    refine zAr (α:=Nat × List (List UInt8)) (fun p=>p.1 ≤ ks.length ∧ p.2.length + szL (ks.drop p.1) ≤ 999999 ∧ zCa x.kind x.text S [] (ks.drop p.1) p.1 p.2 = zCa x.kind x.text S [] ks 0 F) (fun p=>[(0,.ptr 0 0),(1,.d (i64 ((kidAt n ks p.1 : Nat) : Int))),(124,.d (i64 x.kids)),(125,.d (i64 (p.1 : Int)))])
      (fun p=>[.bx (fx 0) (some 120) [.d (zAc L),.mp 1,.buf 2 (p.2.map str).length],bagO (fx 1) S,.buf false 9 1 (p.2.map str)]) (fun p=>ks.length - p.1) (0,F) ⟨Nat.zero_le _,by rw [List.drop_zero];exact hF0,by rw [List.drop_zero]⟩
      (zAO (zAA rfl (Le_d rfl (by rw [zCH];rfl) (zAA rfl (zAA rfl zAa)))) (zAD rfl rfl (zAD rfl rfl (zAu rfl rfl rfl zAN))) rfl rfl) ?_
    rintro ⟨i,F1⟩ ⟨q1,q2,q3⟩
    dsimp only at q1 q2 q3 ⊢
    rcases Nat.lt_or_ge i ks.length with hlt | hge
    · obtain ⟨t,ht⟩ : ∃ t,ks[i]? = some t:=⟨_,List.getElem?_eq_getElem hlt⟩
      have hc:=hkid i t F1 ht q2
      rw [zOO ht hk'] at q3
      have hfl:=zEy t S F1
      rw [zDZ ht] at q2
      have hli : (i : Int) < x.kids:=by omega
      generalize t.free S F1 = F2 at *
      repeat' first | apply en_n|apply zAH|apply zAB|apply zAF|apply w0|(apply zA5;exact rfl;exact rfl;first|assumption|omega)|(refine zA3 [0,1,2] zIW (hc) ?_ rfl rfl (by decide) rfl rfl rfl rfl rfl rfl ?_;(repeat (refine zAL rfl ?_));exact zAS)|apply ay (hd:=rfl)|exact zAE rfl|exact zAC rfl|(apply zBC;exact rfl;exact rfl)|exact zAZ rfl|(apply zAK;exact rfl)|apply zAI|apply zAP|apply eb_n
      all_goals try omega
      exact ⟨(i + 1,F2),⟨by simp only;omega,by simp only;omega,q3⟩,by simp only;omega,zAO (zAA rfl (zAA rfl (zAA rfl (zAA rfl zAa)))) (zAD rfl rfl (zAD rfl rfl (zAu rfl rfl rfl zAN))) rfl rfl⟩
    · have hli : ¬ (i : Int) < x.kids:=by omega
      have e : i = ks.length:=by omega
      subst e
      rw [List.drop_length,zCa] at q3
      rw [← q3]
      repeat' first | apply en_n|apply zAH|apply zAB|apply zAF|apply w0|(apply zBq;exact rfl;exact rfl;first|assumption|omega)|apply ay (hd:=rfl)|exact zAE rfl|exact zAC rfl|(apply zAQ;exact rfl)|apply zAM|apply zAt|apply en_e|apply eb_e
      all_goals exact zAq (zAO (zAA rfl zAa) (zAD rfl rfl (zAD rfl rfl (zAu rfl rfl rfl zAN))) rfl rfl)
end Go.Proofs.YtblomnkamngnbaaGreatDoor
namespace Go.Proofs.YtblomnkamngnbaaGreatDoor
open Go.Sx
attribute [local irreducible] zAT Program.underlying Ylds zBA alex zBe zBP awp zAj zBZ zBk zA2 zBH zBR zA8 zBV zBb zBf zBu zBO zEL VCall
theorem zVp {η : List Ob} {σ : Sl} {i : Nat} {x : Operand} {r : List (Nat × Operand)} {s : List (Nat × D)} {id n e sz : Nat} {ys : List D} (h : oval σ x = .buf id n) (ho : η[id]? = some (.buf false e sz ys)) (hn : n ≤ ys.length) (k : zE7 η σ r s) : zE7 η σ ((i,x) :: r) ((i,.slice (ys.take n)) :: s):=⟨by simp,by rw [h];exact ⟨e,sz,ys,ho,hn,rfl⟩,rfl,k⟩
theorem zIj {q : Nat} : ∀ (N : List Lc) {S S' : TS} {b : List Int},zCn q N S = some (b,S') → ∀ i : Nat,∃ bi Si,zCn q (N.take i) S = some (bi,Si) ∧ ∃ br,zCn q (N.drop i) Si = some (br,S') ∧ b = bi ++ br
  | N,S,S',b,h,0=>⟨[],S,by simp [zCn],b,by simpa using h,rfl⟩
  | [],S,S',b,h,i + 1=>⟨b,S',by simpa using h,[],by simp [zCn],by simp⟩
  | l :: r,S,S',b,h,i + 1=>by
    rw [zCn] at h
    split at h
    · rename_i u S1 h1
      split at h
      · rename_i b2 S2 h2
        injection h with h;injection h with e1 e2;subst e1;subst e2
        obtain ⟨bi,Si,h3,br,h4,rfl⟩:=zIj r h2 i
        exact ⟨zCh u ++ bi,Si,by rw [List.take_succ_cons,zCn,h1];dsimp only;rw [h3],br,by rw [List.drop_succ_cons];exact h4,by simp⟩
      · cases h
    · cases h
theorem zOV {q : Nat} {N : List Lc} {i : Nat} {l : Lc} (hl : N[i]? = some l) {S Si S2 : TS} {bi b2 : List Int} (h1 : zCn q (N.take i) S = some (bi,Si)) (h2 : zCn q (N.take (i + 1)) S = some (b2,S2)) : ∃ u,zEd q Si (zFt (zDM l.any) l.t) = some (u,S2) ∧ b2 = bi ++ zCh u:=by
  induction N generalizing S bi b2 i with
  | nil=>simp at hl
  | cons m r ih =>
    cases i with
    | zero =>
      simp at hl;subst hl
      simp only [List.take_zero,zCn,Option.some.injEq,Prod.mk.injEq] at h1
      obtain ⟨rfl,rfl⟩:=h1
      simp only [Nat.zero_add,List.take_succ_cons,List.take_zero,zCn] at h2
      split at h2
      · rename_i u S1 hu
        simp at h2
        obtain ⟨rfl,rfl⟩:=h2
        exact ⟨u,hu,rfl⟩
      · cases h2
    | succ i =>
      rw [List.take_succ_cons,zCn] at h1 h2
      split at h1
      · rename_i u S1 hu
        rw [hu] at h2
        dsimp only at h2
        split at h1
        · rename_i b3 S3 h3
          split at h2
          · rename_i b4 S4 h4
            injection h1 with h1;injection h1 with e1 e2;subst e1;subst e2
            injection h2 with h2;injection h2 with e1 e2;subst e1;subst e2
            obtain ⟨w,h5,h6⟩:=ih (by simpa using hl) h3 h4
            exact ⟨w,h5,by rw [h6,List.append_assoc]⟩
          · cases h2
        · cases h1
      · cases h1
theorem zFg {q : Nat} {S S' : TS} {t r : List Nd} (h : zEd q S t = some (r,S')) (ht : t.length ≤ 10000) : r.length ≤ 10000:=by
  unfold zEd at h
  repeat' split at h
  all_goals first
    | (injection h with h;injection h with h1 h2;subst h1;assumption)
    | cases h
theorem zGD {t : List Nd} : (zCh t).length ≤ 4000:=by
  unfold zCh;split
  · rename_i h1
    have h2:=(zD7 h1).1
    have:=zFB t []
    unfold zB3;simp only [List.length_nil] at this;omega
  · simp
theorem zGU {q : Nat} {S S' : TS} {t r : List Nd} (h : zEd q S t = some (r,S')) : S'.st = S.st ∧ S'.nx = S.nx:=by
  unfold zEd zHZ at h
  repeat' split at h
  all_goals first
    | (injection h with h;injection h with h1 h2;subst h2;exact ⟨rfl,rfl⟩)
    | cases h
theorem zIk {q : Nat} : ∀ (N : List Lc) {S S' : TS} {b : List Int},zCn q N S = some (b,S') → S'.st = S.st ∧ S'.nx = S.nx
  | [],S,S',b,h=>by simp [zCn] at h;obtain ⟨_,rfl⟩:=h;exact ⟨rfl,rfl⟩
  | l :: r,S,S',b,h=>by
    rw [zCn] at h
    split at h
    · rename_i u S1 h1
      split at h
      · rename_i b2 S2 h2
        injection h with h;injection h with e1 e2;subst e1;subst e2
        have h3:=zIk r h2
        have h4:=zGU h1
        exact ⟨h3.1.trans h4.1,h3.2.trans h4.2⟩
      · cases h
    · cases h
set_option maxHeartbeats 4000000 in
theorem zSi (L : List Nd) (E : List Sg) (S S' : TS) (q : Nat) (x : List UInt8) (t : List Nd) (N : List Lc) (l : Lc) (ht : t.length ≤ 10000) (hN : N.length ≤ 100000) (hNt : ∀ l ∈ N,l.t.length ≤ 10000 ∧ l.any.length ≤ 1000000) (hL : StoB S.st)
    (h : anyS q N S x t = some (l,S')) :
    zA2 Tryz.prog 69 [.ptr 0 0,.d (str x),.d (zAc t),.d (locs N)] (tyO L E S) (.d l.av) (tyO L E S'):=by
  unfold anyS at h
  split at h
  · rename_i u S1 h1
    split at h
    · rename_i b S2 h2
      injection h with h;injection h with e1 e2;subst e1;subst e2
      have hul:=zFg h1 ht
      have hst:=zGU h1
      have hk:=zJz L E S S1 q t u (by omega) hL h1
      refine zPW Tryz.func69 rfl Tryz.ntmps69 Tryz.results69 rfl rfl rfl ?_
      intro wb St0 X fx
      repeat' first | (refine zHQ 4 0 false 3 1 rfl rfl rfl ?_)|apply en_n|apply zAH|apply zAB|apply zAF|apply w0|(refine zA3 [0,1,2] zHk (hk) ?_ rfl rfl (by decide) rfl rfl rfl rfl rfl rfl ?_;(repeat (refine zAL rfl ?_));exact zAS)|(apply zA4 (hd:=rfl) (hro:=rfl);(with_reducible first|exact zE4|exact zT3))|apply ay (hd:=rfl)|exact zAE rfl|exact zAC rfl|(apply zAl;exact rfl;(with_reducible exact zDO))|exact zAZ rfl|apply zAI
      have hb0:=zIj N h2
      have hbl : ∀ (i : Nat) bi Si,zCn q (N.take i) S1 = some (bi,Si) → bi.length ≤ 4000 * i ∧ Si.st = S1.st:=fun i bi Si hbi=>⟨by
        have key : ∀ (M : List Lc) (T T' : TS) (c : List Int),zCn q M T = some (c,T') → (∀ l ∈ M,l ∈ N) → T.st = S.st → c.length ≤ 4000 * M.length:=by
          intro M
          induction M with
          | nil=>intro T T' c hc _ _;simp [zCn] at hc;simp [hc.1.symm]
          | cons m M ih =>
            intro T T' c hc hm hT
            rw [zCn] at hc
            split at hc
            · rename_i w T1 hw
              split at hc
              · rename_i c2 T2 hc2
                injection hc with hc;injection hc with e1 e2;subst e1;subst e2
                have h5:=ih T1 _ c2 hc2 (fun l hl=>hm l (List.mem_cons_of_mem _ hl)) ((zGU hw).1.trans hT)
                have h6:=(hNt m (hm m List.mem_cons_self))
                have h8:=zGD (t:=w)
                rw [List.length_append,List.length_cons];omega
              · cases hc
            · cases hc
        have:=key (N.take i) S1 Si bi hbi (fun l hl=>List.mem_of_mem_take hl) hst.1
        rw [List.length_take] at this
        have : min i N.length ≤ i:=Nat.min_le_left _ _
        omega,(zIk _ hbi).1⟩
      refine zAr (α:=Nat × List Int × TS) (fun p=>p.1 ≤ N.length ∧ zCn q (N.take p.1) S1 = some (p.2.1,p.2.2)) (fun p=>[(0,.ptr 0 0),(1,.d (str x)),(2,.d (zAc u)),(8,.ptr 3 0),(9,.ptr 4 0),(17,.d (locs N)),(18,.d (i64 (N.length : Int))),(19,.d (i64 (p.1 : Int)))]) (fun p=>anch fx 0 (tyO L E S) (tyO L E p.2.2) ++ [.bx none none [.d (.val (.string ByteArray.empty)),.nil,.nil],.bx none none [.buf 5 (p.2.1.map ival).length],.buf false 3 1 (p.2.1.map ival)]) (fun p=>N.length - p.1) (0,[],S1) ⟨Nat.zero_le _,by simp [zCn]⟩
        (zAO (zAA rfl (zAA rfl (zAA rfl (zAA rfl (zAA rfl (zAA rfl (Le_d rfl rfl (zAA rfl zAa)))))))) (zAD rfl rfl (zAD rfl rfl (zAD rfl rfl (zAD rfl rfl (zAD rfl rfl (zAu rfl rfl rfl zAN)))))) rfl rfl) ?_
      rintro ⟨i,bi,Si⟩ ⟨hi,hbi⟩
      dsimp only at hi hbi ⊢
      obtain ⟨hbil,hSi⟩:=hbl i bi Si hbi
      have hLi : StoB Si.st:=by rw [hSi,hst.1];exact hL
      rcases Nat.lt_or_ge i N.length with hlt | hge
      · have hl : N[i]? = some N[i]:=List.getElem?_eq_getElem hlt
        have hm:=hNt _ (List.getElem_mem hlt)
        generalize N[i] = m at *
        obtain ⟨b2,Sn,hb2,_⟩:=hb0 (i + 1)
        obtain ⟨w,hkw,rfl⟩:=zOV hl hbi hb2
        have hal : (zFt (zDM m.any) m.t).length ≤ 10000:=by
          have h7:=zKG (l:=zDM m.any) 1 (fun b hb=>by
            obtain ⟨v,_,rfl⟩:=List.mem_map.1 hb;exact Nat.le_refl _) (Nat.le_refl _) m.t
          unfold zFt;omega
        have hwl:=zFg hkw hal
        have hkc:=zJz L E Si Sn q _ w (by omega) hLi hkw
        have hhd:=zPi m.any (by omega)
        have hap:=zNp (zDM m.any) m.t (by simp [zDM];omega) hm.1 (fun b hb=>by
          obtain ⟨v,_,rfl⟩:=List.mem_map.1 hb;show (zBp intT).length ≤ _;simp [zBp])
        have hvs:=zKT w (by omega)
        have hvl:=zGD (t:=w)
        clear hb0 hbl hkw hk h1 h2 hNt
        skip
        repeat' first | apply en_n|apply zAH|apply zAB|apply zAF|apply w0|(apply zA5;exact rfl;exact rfl;first|assumption|omega)|(refine zAV zPq hhd (zAX rfl zAG))|(refine zAV zNT hap (zAX rfl (zAX rfl zAG)))|(refine zAV zIX hvs (zAX rfl zAG))|(refine zDC (by kernel_rfl) ?_;refine zA3 [0,1,2] zHk (hkc) ?_ rfl rfl (by decide) rfl rfl rfl rfl rfl rfl ?_;(repeat (refine zAL rfl ?_));exact zAS)|(apply aApp (id:=5) (hd:=rfl) (hro:=rfl);exact rfl;exact rfl;(first|exact zAk rfl|exact Co_bb rfl rfl rfl|exact Co_nn rfl);(first|exact rfl|exact (by simp));exact rfl;(with_reducible exact zC2);(with_reducible exact zA7);(with_reducible exact zIv);(with_reducible exact zHC);(first|exact zCF (fun _=>rfl)|exact zCE rfl))|(apply aJ (hd:=rfl);(first|exact zAk rfl|exact Co_bb rfl rfl rfl|exact Co_nn rfl);exact rfl;(with_reducible exact zBz);assumption;omega;exact fun _=>rfl)|(apply zA4 (hd:=rfl) (hro:=rfl);(with_reducible exact zE4))|apply ay (hd:=rfl)|exact zAE rfl|exact zAC rfl|(apply zAf;exact rfl;(with_reducible exact zHL);exact rfl)|(apply zBC;exact rfl;exact rfl)|exact zAZ rfl|(apply zAR;exact rfl;(with_reducible first|exact fl_1|exact fl_2))|(apply zAU;exact rfl;(with_reducible first|exact zAn|exact zJh);exact rfl;exact rfl)|(refine w0' ?_)|(apply zAx;exact rfl;exact rfl;exact rfl;(with_reducible first|exact zHL|exact zJh);exact rfl;exact rfl;exact rfl;exact rfl)|(apply zAK;exact rfl)|apply zAI|apply zAP|refine zA6 (by kernel_rfl) (by kernel_rfl) ?_|apply eb_n
        all_goals first | omega | skip
        · simp only [List.length_map];omega
        · exact ⟨(i + 1,bi ++ zCh w,Sn),⟨hlt,hb2⟩,by show N.length - (i + 1) < _;omega,zAO (zAA rfl (zAA rfl (zAA rfl (zAA rfl (zAA rfl (zAA rfl (zAA rfl (zAA rfl zAa)))))))) (zAD rfl rfl (zAD rfl rfl (zAD rfl rfl (zAD rfl rfl (zAD rfl (congrArg (fun k=>Ob.bx none none [SV.buf 5 k]) (show ((bi ++ zCh w).map ival).length = (bi.map ival).length + ((zCh w).map ival).length by rw [List.map_append,List.length_append])) (zAu rfl rfl (by rw [List.map_append]) zAN)))))) rfl rfl⟩
      · have e1 : N.take i = N:=List.take_of_length_le hge
        rw [e1,h2] at hbi
        injection hbi with hbi;injection hbi with e2 e3;subst e2;subst e3
        have hvf:=zSF u (by omega)
        have hvl:=zGD (t:=u)
        have hdl:=zTz (zCh u) b (by omega) (by omega)
        have hkl:=zNF (zCh u) b
        generalize zCh u = vs at *
        have hkt : (kept vs b).length ≤ ((kept vs b).map ival ++ List.replicate (vs.length - (kept vs b).length) (ival 0)).length:=by simp
        clear hb0 hbl hk h1 h2 hNt
        skip
        repeat' first | (refine zF9 13 6 rfl rfl rfl ?_)|apply en_n|apply zAH|apply zAB|apply zAF|apply w0|(apply zBq;exact rfl;exact rfl;first|assumption|omega)|(refine zQd zIX hvf (zAX rfl zAG) rfl rfl ?_)|(refine zA3 [6,4,5] zTS (hdl) ?_ rfl rfl (by decide) rfl rfl rfl rfl rfl rfl ?_;(repeat (refine zAL rfl ?_));exact zAS)|(apply zBE (cs:=[str x,zAc u,.slice (((kept vs b).map ival ++ List.replicate (vs.length - (kept vs b).length) (ival 0)).take (kept vs b).length)]);exact zHN;exact zE4;exact PD_d rfl rfl (PD_d rfl rfl (zVp rfl rfl hkt zB0));exact rfl)|apply ay (hd:=rfl)|exact zAE rfl|exact zAw rfl|exact zAm rfl|exact zGA rfl|(refine w0' ?_)|(apply zAx;exact rfl;exact rfl;exact rfl;(with_reducible exact zHL);exact rfl;exact rfl;exact rfl;exact rfl)|(apply zAQ;exact rfl)|apply zAM|apply zAt|apply en_e|apply eb_e
        have hkf : kept vs b = vs.filter fun v=>!b.contains v:=by
          unfold kept
          refine List.filter_congr fun v _=>?_
          by_cases hvb : v ∈ b <;> simp [hvb]
        have htk : ((kept vs b).map ival ++ List.replicate (vs.length - (kept vs b).length) (ival 0)).take (kept vs b).length = (kept vs b).map ival:=by
          rw [show (kept vs b).length = ((kept vs b).map ival).length by rw [List.length_map],List.take_left]
        refine zOB (zJq (RV_c rfl rfl zHL rfl rfl zFw ?_)) (zAO zAa (zAD rfl rfl (zAD rfl rfl (zAD rfl rfl zAN))) rfl rfl)
        rw [← hkf,htk];rfl
    · cases h
  · cases h
end Go.Proofs.YtblomnkamngnbaaGreatDoor
namespace Go.Proofs.YtblomnkamngnbaaGreatDoor
open Go.Sx
def LcOk (l : Lc) : Prop:=l.t.length ≤ 10000 ∧ l.any.length ≤ 4000
def LcsOk (N : List Lc) : Prop:=∀ l ∈ N,LcOk l
theorem LcsOk.app {N : List Lc} {l : Lc} (h : LcsOk N) (hl : LcOk l) : LcsOk (N ++ [l]):=fun m hm=>by
  rcases List.mem_append.1 hm with h1 | h1
  · exact h m h1
  · rw [List.mem_singleton] at h1;subst h1;exact hl
structure Up (S S' : TS) (k : Nat) : Prop where
  lo : S.nx ≤ S'.nx
  hi : S'.nx ≤ S.nx + k
  st : StoB S.st → StoB S'.st
theorem Up.refl (S : TS) : Up S S 0:=⟨Int.le_refl _,by omega,id⟩
theorem Up.trans {A B D : TS} {a b : Nat} (h : Up A B a) (k : Up B D b) : Up A D (a + b):=⟨Int.le_trans h.lo k.lo,by have:=h.hi;have:=k.hi;omega,fun hs=>k.st (h.st hs)⟩
theorem Up.mono {A B : TS} {a b : Nat} (h : Up A B a) (hab : a ≤ b) : Up A B b:=⟨h.lo,by have:=h.hi;omega,h.st⟩
theorem zCP (S : TS) : Up S (zCq S) 1:=⟨by rw [zJw];omega,by rw [zJw];omega,fun h=>by rw [zM9];exact h⟩
theorem zCD {q : Nat} {S S' : TS} {a b : List Nd} (h : zDT q S a b = some S') : Up S S' 0:=by
  unfold zDT at h
  split at h
  · injection h with h;subst h;exact Up.refl S
  · split at h
    · rename_i e L hu
      injection h with h
      have hb : StoB S.st → StoB L:=fun hs=>by
        unfold uniF at hu
        split at hu
        · injection hu with hu;injection hu with h1 h2;subst h2;exact hs
        · rename_i hc
          exact zJn _ _ _ _ _ hs hu
      subst h
      split
      · exact ⟨by unfold zHZ;split <;> simp,by unfold zHZ;split <;> simp,fun hs=>by unfold zHZ;split <;> exact hb hs⟩
      · exact ⟨Int.le_refl _,by simp,hb⟩
    · cases h
theorem zPb {q : Nat} {S S' : TS} {t r : List Nd} (h : zEd q S t = some (r,S')) : Up S S' 0:=by
  have:=zGU h
  exact ⟨by omega,by omega,fun hs=>by rw [this.1];exact hs⟩
theorem zPx (vs : List Int) (S : TS) : Up S (zCk vs S).2 vs.length:=by
  rw [zHm]
  exact ⟨by rw [zM7];omega,by rw [zM7];omega,fun h=>by rw [zSW];exact h⟩
theorem zLn {l : List Bd} (h : ∀ b ∈ l,b.ty.length = 1) : ∀ t : List Nd,(zFt l t).length = t.length
  | []=>rfl
  | n :: t=>by
    have ih:=zLn h t
    unfold zFt at ih ⊢
    rw [List.flatMap_cons,List.length_append,ih,List.length_cons]
    have : (app1 l n).length = 1:=by
      unfold app1
      split
      · split
        · rename_i b hb;exact h b (List.mem_of_find?_eq_some hb)
        · rfl
      · rfl
    omega
theorem zJL (S : TS) (t : List Nd) (vs : List Int) : (zGc S t vs).1.length = t.length:=zLn (fun _ hb=>zLN hb) t
theorem zLM (S : TS) (t : List Nd) (vs : List Int) : Up S (zGc S t vs).2 vs.length:=zPx vs S
theorem zIy (t : List Nd) : (zCh t).length ≤ 4000:=zGD
theorem zJf {E : List Sg} {S S' : TS} {x : List UInt8} {r : List Nd} (hT : ∀ s ∈ E,s.ty.length ≤ 10000) (h : zKZ E S x = some (r,S')) : Up S S' 4000 ∧ r.length ≤ 10000:=by
  unfold zKZ at h
  split at h
  · rename_i s hs
    have h1:=zLM S s.ty (zCh s.ty)
    have h2:=zJL S s.ty (zCh s.ty)
    injection h with h
    rw [h] at h1 h2
    exact ⟨h1.mono (zIy _),by dsimp only at h2;rw [h2];exact hT s (List.mem_of_find?_eq_some hs)⟩
  · cases h
theorem zKx {E : List Sg} {N : List Lc} {S S' : TS} {x : List UInt8} {r : List Nd} (hT : ∀ s ∈ E,s.ty.length ≤ 10000) (hN : LcsOk N) (h : zJD E N S x = some (r,S')) : Up S S' 4000 ∧ r.length ≤ 10000:=by
  unfold zJD at h
  split at h
  · rename_i l hl
    have h0:=hN l (List.mem_reverse.1 (List.mem_of_find?_eq_some hl))
    have h1:=zLM S l.t l.any
    have h2:=zJL S l.t l.any
    injection h with h
    rw [h] at h1 h2
    exact ⟨h1.mono h0.2,by dsimp only at h2;rw [h2];exact h0.1⟩
  · exact zJf hT h
theorem zQN {q : Nat} {N : List Lc} {S S' : TS} {b : List Int} (h : zCn q N S = some (b,S')) : Up S S' 0:=by
  have:=zIk N h
  exact ⟨by omega,by omega,fun hs=>by rw [this.1];exact hs⟩
theorem zKM {q : Nat} {N : List Lc} {S S' : TS} {x : List UInt8} {t : List Nd} {l : Lc} (ht : t.length ≤ 10000) (h : anyS q N S x t = some (l,S')) : Up S S' 0 ∧ LcOk l:=by
  unfold anyS at h
  split at h
  · rename_i u S1 h1
    split at h
    · rename_i b S2 h2
      injection h with h;injection h with e1 e2;subst e1;subst e2
      exact ⟨(zPb h1).trans (zQN h2),zFg h1 ht,Nat.le_trans (List.length_filter_le _ _) (zIy _)⟩
    · cases h
  · cases h
theorem zFe (t : List Nd) : (∀ a ∈ (zCG t).1,a.length ≤ 4000) ∧ (zCG t).2.length ≤ 4000 ∧ (zCG t).1.length ≤ 4000:=by
  by_cases hc : ckT t = 0
  · obtain ⟨T,rfl,hw,hr,hs⟩:=zIf hc
    rw [zD6 hw hc]
    obtain ⟨h1,h2,_⟩:=zFd _ T (Nat.le_refl _)
    exact ⟨fun a ha=>Nat.le_trans (h2 a ha) hs,by omega,by omega⟩
  · rw [zCG,if_neg hc];simp
mutual
def Tr.pv : Tr → Nat
  | .mk x ks=>if x.kind = 22 then 1 else if x.kind = 24 then pvL ks else 0
def pvL : List Tr → Nat
  | []=>0
  | t :: r=>t.pv + pvL r
end
theorem zJv {q : Nat} {E : List Sg} (hT : ∀ s ∈ E,s.ty.length ≤ 10000) : ∀ (m : Nat) (t : Tr),t.sz ≤ m → t.werr true = 0 → ∀ {N N' : List Lc} {S S' : TS} {r : List Nd},LcsOk N → t.patS q E N S = some (r,N',S') → Up S S' (4001 * t.sz) ∧ r.length ≤ 10000 ∧ LcsOk N' ∧ ∃ M,N' = N ++ M ∧ M.length = t.pv
  | 0,t,h=>by have:=zBS t;omega
  | m + 1,.mk x ks,hm=>by
    intro hw N N' S S' r hN h
    have hsz : (Tr.mk x ks).sz = szL ks + 1:=by rw [Tr.sz]
    rw [Tr.patS] at h
    by_cases h23 : x.kind = 23
    · rw [if_pos h23] at h
      injection h with h;injection h with e1 e2;injection e2 with e2 e3;subst e1;subst e2;subst e3
      exact ⟨(Up.refl S).mono (by omega),by simp [zBp],hN,[],by simp,by rw [Tr.pv,if_neg (by omega),if_neg (by omega)];rfl⟩
    · rw [if_neg h23] at h
      by_cases h21 : x.kind = 21
      · rw [if_pos h21] at h
        injection h with h;injection h with e1 e2;injection e2 with e2 e3;subst e1;subst e2;subst e3
        exact ⟨(zCP S).mono (by omega),by simp [varN],hN,[],by simp,by rw [Tr.pv,if_neg (by omega),if_neg (by omega)];rfl⟩
      · rw [if_neg h21] at h
        by_cases h22 : x.kind = 22
        · rw [if_pos h22] at h
          injection h with h;injection h with e1 e2;injection e2 with e2 e3;subst e1;subst e2;subst e3
          exact ⟨(zCP S).mono (by omega),by simp [varN],hN.app ⟨by simp [varN],by simp⟩,[_],rfl,by rw [Tr.pv,if_pos h22];rfl⟩
        · rw [if_neg h22] at h
          have h24 : x.kind = 24:=by
            have h1:=zCO (zC7 hw).1
            have h3:=h1.2.1
            have h4 : 21 ≤ x.kind ∧ x.kind ≤ 24:=by simpa [patK] using h3
            omega
          split at h
          · rename_i c S1 h1
            split at h
            · rename_i N2 S2 h2
              injection h with h;injection h with e1 e2;injection e2 with e2 e3;subst e1;subst e2;subst e3
              obtain ⟨b1,b2⟩:=zJf hT h1
              have hwk:=(zC7 hw).2
              have key : ∀ (ks : List Tr) (i : Nat) (A : List (List Nd)) {N N2 : List Lc} {S S2 : TS},szL ks ≤ m → zDc (decide (x.kind = 10)) true ks i = 0 → LcsOk N → patL q E A ks N S = some (N2,S2) → Up S S2 (4001 * szL ks) ∧ LcsOk N2 ∧ ∃ M,N2 = N ++ M ∧ M.length = pvL ks:=by
                intro ks
                induction ks with
                | nil =>
                  intro i A N N2 S S2 _ _ hN h
                  rw [patL.eq_1] at h
                  injection h with h;injection h with e1 e2;subst e1;subst e2
                  exact ⟨(Up.refl S).mono (by omega),hN,[],by simp,by simp [pvL]⟩
                | cons k ks ihk =>
                  intro i A N N2 S S2 hs hw hN h
                  rw [szL] at hs
                  have hkp:=zBS k
                  rw [zDc] at hw
                  split at hw
                  · contradiction
                  rename_i hw1
                  cases A with
                  | nil=>rw [patL] at h;cases h
                  | cons a A =>
                    rw [patL] at h
                    split at h
                    · rename_i t N1 S1 h1
                      split at h
                      · rename_i S3 h3
                        obtain ⟨c1,c2,c3,M1,c4,c5⟩:=zJv hT m k (by omega) (by simpa using hw1) hN h1
                        obtain ⟨d1,d2,M2,d3,d4⟩:=ihk (i + 1) A (by omega) hw c3 h
                        refine ⟨((c1.trans (zCD h3)).trans d1).mono (by rw [szL,Nat.mul_add];omega),d2,M1 ++ M2,by rw [d3,c4,List.append_assoc],by rw [List.length_append,c5,d4,pvL]⟩
                      · cases h
                    · cases h
              obtain ⟨d1,d2,d3⟩:=key ks 0 _ (by omega) hwk hN h2
              exact ⟨(b1.trans d1).mono (by rw [hsz,Nat.mul_add];omega),Nat.le_trans (zFe c).2.1 (by omega),d2,by rw [Tr.pv,if_neg h22,if_pos h24];exact d3⟩
            · cases h
          · cases h
end Go.Proofs.YtblomnkamngnbaaGreatDoor
namespace Go.Proofs.YtblomnkamngnbaaGreatDoor
open Go.Sx
section
variable {q : Nat} {E : List Sg} {x : Nd} {N : List Lc} {S S' : TS} {r : List Nd} {a b c k : Tr} {ks : List Tr}
theorem zQC (t : Tr) (h0 : S.er ≠ 0) : t.expS q E N S = some (zBp intT,S):=by
  cases t;rw [Tr.expS,if_pos h0]
theorem zUs (h0 : S.er = 0) (hk : x.kind = 1) (h : (Tr.mk x ks).expS q E N S = some (r,S')) : r = zBp intT ∧ S' = S:=by
  rw [Tr.expS,if_neg (by omega),if_pos hk] at h
  injection h with h;injection h with h1 h2;exact ⟨h1.symm,h2.symm⟩
theorem zUr (h0 : S.er = 0) (hk : x.kind = 2) (h : (Tr.mk x ks).expS q E N S = some (r,S')) : r = zBp texT ∧ S' = S:=by
  rw [Tr.expS,if_neg (by omega),if_neg (by omega),if_pos hk] at h
  injection h with h;injection h with h1 h2;exact ⟨h1.symm,h2.symm⟩
theorem zUq (h0 : S.er = 0) (hk : x.kind = 3 ∨ x.kind = 4) (h : (Tr.mk x ks).expS q E N S = some (r,S')) : ∃ u S1,zJD E N (zCq S) x.text = some (u,S1) ∧ zDT q S1 (varN S.nx) u = some S' ∧ r = varN S.nx:=by
  rw [Tr.expS,if_neg (by omega),if_neg (by omega),if_neg (by omega),if_pos hk] at h
  split at h
  · rename_i u S1 h1
    split at h
    · rename_i S2 h2
      injection h with h;injection h with e1 e2;subst e1;subst e2;exact ⟨u,S1,h1,h2,rfl⟩
    · cases h
  · cases h
theorem zLU (h0 : S.er = 0) (hk : 5 ≤ x.kind) (h : (Tr.mk x ks).expS q E N S = some (r,S')) : expK q E x ks.length ks N S = some (r,S'):=by
  rwa [Tr.expS,if_neg (by omega),if_neg (by omega),if_neg (by omega),if_neg (by omega)] at h
theorem zUp (h0 : S.er = 0) (hk : x.kind = 5) (h : (Tr.mk x (k :: ks)).expS q E N S = some (r,S')) : ∃ b,k.expS q E (N ++ [⟨x.text,varN S.nx,[]⟩]) (zCq S) = some (b,S') ∧ r = zGh (varN S.nx) b:=by
  have h:=zLU h0 (by omega) h
  rw [expK,if_pos hk] at h
  split at h
  · rename_i b S1 h1;injection h with h;injection h with e1 e2;subst e1;subst e2;exact ⟨b,h1,rfl⟩
  · cases h
theorem zUn (h0 : S.er = 0) (hk : x.kind = 8) (h : (Tr.mk x (a :: b :: ks)).expS q E N S = some (r,S')) : ∃ t S1 S2 y S3,a.expS q E (N ++ [⟨x.text,varN S.nx,[]⟩]) (zCq S) = some (t,S1) ∧ zDT q S1 (varN S.nx) t = some S2 ∧ anyS q N S2 x.text (varN S.nx) = some (y,S3) ∧ b.expS q E (N ++ [y]) S3 = some (r,S'):=by
  have h:=zLU h0 (by omega) h
  rw [expK,if_neg (by omega),if_pos hk] at h
  split at h
  · rename_i t S1 h1
    split at h
    · rename_i S2 h2
      split at h
      · rename_i y S3 h3
        rw [exp1] at h
        exact ⟨t,S1,S2,y,S3,h1,h2,h3,h⟩
      · cases h
    · cases h
  · cases h
theorem zTd (h0 : S.er = 0) (hk : x.kind = 7) (h : (Tr.mk x (a :: b :: ks)).expS q E N S = some (r,S')) : ∃ t S1,a.expS q E N S = some (t,S1) ∧
    ((a.val = true ∧ ∃ y S2,anyS q N S1 x.text t = some (y,S2) ∧ b.expS q E (N ++ [y]) S2 = some (r,S')) ∨ (a.val = false ∧ b.expS q E (N ++ [⟨x.text,t,[]⟩]) S1 = some (r,S'))):=by
  have h:=zLU h0 (by omega) h
  rw [expK,if_neg (by omega),if_neg (by omega)] at h
  split at h
  · rename_i t S1 h1
    rw [if_pos hk] at h
    refine ⟨t,S1,h1,?_⟩
    split at h
    · rename_i hv
      split at h
      · rename_i y S2 h2
        rw [exp1] at h
        exact .inl ⟨hv,y,S2,h2,h⟩
      · cases h
    · rename_i hv
      rw [exp1] at h
      exact .inr ⟨by simpa using hv,h⟩
  · cases h
theorem zUo (h0 : S.er = 0) (hk : x.kind = 6) (h : (Tr.mk x (a :: b :: ks)).expS q E N S = some (r,S')) : ∃ t S1 u S2,a.expS q E N S = some (t,S1) ∧ b.expS q E N S1 = some (u,S2) ∧ zDT q (zCq S2) t (zGh u (varN S2.nx)) = some S' ∧ r = varN S2.nx:=by
  have h:=zLU h0 (by omega) h
  rw [expK,if_neg (by omega),if_neg (by omega)] at h
  split at h
  · rename_i t S1 h1
    rw [if_neg (by omega),if_pos hk,exp1] at h
    split at h
    · rename_i u S2 h2
      split at h
      · rename_i S3 h3;injection h with h;injection h with e1 e2;subst e1;subst e2;exact ⟨t,S1,u,S2,h1,h2,h3,rfl⟩
      · cases h
    · cases h
  · cases h
theorem zUm (h0 : S.er = 0) (hk : x.kind = 9) (h : (Tr.mk x (a :: b :: c :: ks)).expS q E N S = some (r,S')) : ∃ t S1 S2 S3 u S4,a.expS q E N S = some (t,S1) ∧ zDT q S1 t (zBp intT) = some S2 ∧ b.expS q E N S2 = some (r,S3) ∧ c.expS q E N S3 = some (u,S4) ∧ zDT q S4 r u = some S':=by
  have h:=zLU h0 (by omega) h
  rw [expK,if_neg (by omega),if_neg (by omega)] at h
  split at h
  · rename_i t S1 h1
    rw [if_neg (by omega),if_neg (by omega),if_pos hk] at h
    split at h
    · rename_i S2 h2
      rw [expI] at h
      split at h
      · rename_i w S3 h3
        rw [exp1] at h
        split at h
        · rename_i u S4 h4
          split at h
          · rename_i S5 h5;injection h with h;injection h with e1 e2;subst e1;subst e2;exact ⟨t,S1,S2,S3,u,S4,h1,h2,h3,h4,h5⟩
          · cases h
        · cases h
      · cases h
    · cases h
  · cases h
theorem zSf (h0 : S.er = 0) (hk : x.kind = 11) (h : (Tr.mk x (a :: ks)).expS q E N S = some (r,S')) : ∃ t S1 S2,a.expS q E N S = some (t,S1) ∧ zDT q S1 t (zBp intT) = some S2 ∧ r = varN S2.nx ∧ S' = zCq S2:=by
  have h:=zLU h0 (by omega) h
  rw [expK,if_neg (by omega),if_neg (by omega)] at h
  split at h
  · rename_i t S1 h1
    rw [if_neg (by omega),if_neg (by omega),if_neg (by omega),if_pos hk] at h
    split at h
    · rename_i S2 h2;injection h with h;injection h with e1 e2;exact ⟨t,S1,S2,h1,h2,e1.symm,e2.symm⟩
    · cases h
  · cases h
theorem zSe (h0 : S.er = 0) (hk : x.kind = 12) (h : (Tr.mk x (a :: b :: ks)).expS q E N S = some (r,S')) : ∃ S1 u S2,a.expS q E N S = some (r,S1) ∧ b.expS q E (N ++ [⟨x.text,zBp intT,[]⟩]) S1 = some (u,S2) ∧ zDT q S2 r u = some S':=by
  have h:=zLU h0 (by omega) h
  rw [expK,if_neg (by omega),if_neg (by omega)] at h
  split at h
  · rename_i t S1 h1
    rw [if_neg (by omega),if_neg (by omega),if_neg (by omega),if_neg (by omega),if_pos hk,exp1] at h
    split at h
    · rename_i u S2 h2
      split at h
      · rename_i S3 h3;injection h with h;injection h with e1 e2;subst e1;subst e2;exact ⟨S1,u,S2,h1,h2,h3⟩
      · cases h
    · cases h
  · cases h
theorem zSg (h0 : S.er = 0) (hk : x.kind = 10) (h : (Tr.mk x (a :: ks)).expS q E N S = some (r,S')) : ∃ t S1,a.expS q E N S = some (t,S1) ∧ expM q E t (varN S1.nx) ks N (zCq S1) = some S' ∧ r = varN S1.nx:=by
  have h:=zLU h0 (by omega) h
  rw [expK,if_neg (by omega),if_neg (by omega)] at h
  split at h
  · rename_i t S1 h1
    rw [if_neg (by omega),if_neg (by omega),if_neg (by omega),if_neg (by omega),if_neg (by omega)] at h
    split at h
    · rename_i S2 h2;injection h with h;injection h with e1 e2;subst e1;subst e2;exact ⟨t,S1,h1,h2,rfl⟩
    · cases h
  · cases h
theorem zUl {of' to' : List Nd} {p : Tr} (h : expM q E of' to' (p :: k :: ks) N S = some S') : ∃ t N1 S1 S2 u S3 S4,p.patS q E N S = some (t,N1,S1) ∧ zDT q S1 t of' = some S2 ∧ k.expS q E N1 S2 = some (u,S3) ∧ zDT q S3 u to' = some S4 ∧ expM q E of' to' ks N S4 = some S':=by
  rw [expM] at h
  split at h
  · rename_i t N1 S1 h1
    split at h
    · rename_i S2 h2
      rw [expN] at h
      split at h
      · rename_i u S3 h3
        split at h
        · rename_i S4 h4;exact ⟨t,N1,S1,S2,u,S3,S4,h1,h2,h3,h4,h⟩
        · cases h
      · cases h
    · cases h
  · cases h
end
theorem zNE {x : Nd} {ks : List Tr} (hw : (Tr.mk x ks).wf) (h : x.kids = 1) : ∃ a,ks = [a]:=by
  rw [Tr.wf] at hw
  match ks,hw with
  | [a],_=>exact ⟨a,rfl⟩
  | [],hw=>simp at hw;omega
  | _ :: _ :: _,hw=>simp at hw;omega
theorem zHO {x : Nd} {ks : List Tr} (hw : (Tr.mk x ks).wf) (h : x.kids = 2) : ∃ a b,ks = [a,b]:=by
  rw [Tr.wf] at hw
  match ks,hw with
  | [a,b],_=>exact ⟨a,b,rfl⟩
  | [],hw=>simp at hw;omega
  | [_],hw=>simp at hw;omega
  | _ :: _ :: _ :: _,hw=>simp at hw;omega
theorem zSY {x : Nd} {ks : List Tr} (hw : (Tr.mk x ks).wf) (h : x.kids = 3) : ∃ a b c,ks = [a,b,c]:=by
  rw [Tr.wf] at hw
  match ks,hw with
  | [a,b,c],_=>exact ⟨a,b,c,rfl⟩
  | [],hw=>simp at hw;omega
  | [_],hw=>simp at hw;omega
  | [_,_],hw=>simp at hw;omega
  | _ :: _ :: _ :: _ :: _,hw=>simp at hw;omega
theorem zDA {x : Nd} {ks : List Tr} (hw : (Tr.mk x ks).werr false = 0) : (1 ≤ x.kind ∧ x.kind ≤ 12) ∧ cntK x.kind x.kids = true:=by
  have h1:=zCO (zC7 hw).1
  have h3 : okK x.kind = true:=h1.1
  have h4 : ¬ (21 ≤ x.kind ∧ x.kind ≤ 24):=by simpa [patK] using h1.2.1
  have h5 : (1 ≤ x.kind ∧ x.kind ≤ 12) ∨ (21 ≤ x.kind ∧ x.kind ≤ 24):=by simpa [okK] using h3
  exact ⟨by omega,h1.2.2⟩
theorem zJY (a b : List Nd) : (zGh a b).length = a.length + b.length + 1:=by simp [zGh]
theorem zBj {q : Nat} {E : List Sg} (hT : ∀ s ∈ E,s.ty.length ≤ 10000) : ∀ (m : Nat) (t : Tr),t.sz ≤ m → t.wf → t.werr false = 0 → t.sz ≤ 4500 → ∀ {N : List Lc} {S S' : TS} {r : List Nd},LcsOk N → t.expS q E N S = some (r,S') → Up S S' (4002 * t.sz) ∧ r.length ≤ 2 * t.sz + 1
  | 0,t,h=>by have:=zBS t;omega
  | m + 1,.mk x ks,hm=>by
    intro hwf hw hb N S S' r hN h
    have hsz : (Tr.mk x ks).sz = szL ks + 1:=by rw [Tr.sz]
    by_cases h0 : S.er = 0
    case neg =>
      rw [zQC _ h0] at h
      injection h with h;injection h with e1 e2;subst e1;subst e2
      exact ⟨(Up.refl S).mono (by omega),by simp [zBp] <;> omega⟩
    obtain ⟨hkk,hcn⟩:=zDA hw
    have hwk:=(zC7 hw).2
    have hwf2:=zCW.1 (by rw [Tr.wf] at hwf;exact hwf.2)
    have hc : x.kind = 1 ∨ x.kind = 2 ∨ (x.kind = 3 ∨ x.kind = 4) ∨ x.kind = 5 ∨ x.kind = 6 ∨ x.kind = 7 ∨ x.kind = 8 ∨ x.kind = 9 ∨ x.kind = 10 ∨ x.kind = 11 ∨ x.kind = 12:=by omega
    rcases hc with hk | hk | hk | hk | hk | hk | hk | hk | hk | hk | hk
    · obtain ⟨rfl,rfl⟩:=zUs h0 hk h
      exact ⟨(Up.refl _).mono (by omega),by simp [zBp] <;> omega⟩
    · obtain ⟨rfl,rfl⟩:=zUr h0 hk h
      exact ⟨(Up.refl _).mono (by omega),by simp [zBp] <;> omega⟩
    · obtain ⟨u,S1,h1,h2,rfl⟩:=zUq h0 hk h
      exact ⟨(((zCP S).trans (zKx hT hN h1).1).trans (zCD h2)).mono (by omega),by simp [varN] <;> omega⟩
    all_goals rw [hk] at hcn
    · obtain ⟨k,rfl⟩:=zNE hwf (by simpa [cntK] using hcn)
      rw [szL,szL] at hsz
      obtain ⟨b,h1,rfl⟩:=zUp h0 hk h
      have w1:=zBa (j:=0) hwk rfl
      obtain ⟨b1,b2⟩:=zBj hT m k (by omega) (hwf2 k (by simp)) (by simpa [hk] using w1) (by omega) (hN.app ⟨by simp [varN],by simp⟩) h1
      exact ⟨((zCP S).trans b1).mono (by omega),by rw [zJY];simp [varN];omega⟩
    · obtain ⟨a,b,rfl⟩:=zHO hwf (by simpa [cntK] using hcn)
      rw [szL,szL,szL] at hsz
      obtain ⟨t,S1,u,S2,h1,h2,h3,rfl⟩:=zUo h0 hk h
      have w1:=zBa (j:=0) hwk rfl
      have w2:=zBa (j:=1) hwk rfl
      obtain ⟨b1,b2⟩:=zBj hT m a (by omega) (hwf2 a (by simp)) (by simpa [hk] using w1) (by omega) hN h1
      obtain ⟨c1,c2⟩:=zBj hT m b (by omega) (hwf2 b (by simp)) (by simpa [hk] using w2) (by omega) hN h2
      exact ⟨(((b1.trans c1).trans (zCP S2)).trans (zCD h3)).mono (by omega),by simp [varN] <;> omega⟩
    · obtain ⟨a,b,rfl⟩:=zHO hwf (by simpa [cntK] using hcn)
      rw [szL,szL,szL] at hsz
      have w1:=zBa (j:=0) hwk rfl
      have w2:=zBa (j:=1) hwk rfl
      obtain ⟨t,S1,h1,h2⟩:=zTd h0 hk h
      obtain ⟨b1,b2⟩:=zBj hT m a (by omega) (hwf2 a (by simp)) (by simpa [hk] using w1) (by omega) hN h1
      rcases h2 with ⟨_,y,S2,h3,h4⟩ | ⟨_,h4⟩
      · obtain ⟨d1,d2⟩:=zKM (by omega) h3
        obtain ⟨c1,c2⟩:=zBj hT m b (by omega) (hwf2 b (by simp)) (by simpa [hk] using w2) (by omega) (hN.app d2) h4
        exact ⟨((b1.trans d1).trans c1).mono (by omega),by omega⟩
      · obtain ⟨c1,c2⟩:=zBj hT m b (by omega) (hwf2 b (by simp)) (by simpa [hk] using w2) (by omega) (hN.app ⟨by show t.length ≤ _;omega,by simp⟩) h4
        exact ⟨(b1.trans c1).mono (by omega),by omega⟩
    · obtain ⟨a,b,rfl⟩:=zHO hwf (by simpa [cntK] using hcn)
      rw [szL,szL,szL] at hsz
      have w1:=zBa (j:=0) hwk rfl
      have w2:=zBa (j:=1) hwk rfl
      obtain ⟨t,S1,S2,y,S3,h1,h2,h3,h4⟩:=zUn h0 hk h
      obtain ⟨b1,b2⟩:=zBj hT m a (by omega) (hwf2 a (by simp)) (by simpa [hk] using w1) (by omega) (hN.app ⟨by simp [varN],by simp⟩) h1
      obtain ⟨d1,d2⟩:=zKM (by simp [varN]) h3
      obtain ⟨c1,c2⟩:=zBj hT m b (by omega) (hwf2 b (by simp)) (by simpa [hk] using w2) (by omega) (hN.app d2) h4
      exact ⟨(((((zCP S).trans b1).trans (zCD h2)).trans d1).trans c1).mono (by omega),by omega⟩
    · obtain ⟨a,b,c,rfl⟩:=zSY hwf (by simpa [cntK] using hcn)
      rw [szL,szL,szL,szL] at hsz
      have w1:=zBa (j:=0) hwk rfl
      have w2:=zBa (j:=1) hwk rfl
      have w3:=zBa (j:=2) hwk rfl
      obtain ⟨t,S1,S2,S3,u,S4,h1,h2,h3,h4,h5⟩:=zUm h0 hk h
      obtain ⟨b1,b2⟩:=zBj hT m a (by omega) (hwf2 a (by simp)) (by simpa [hk] using w1) (by omega) hN h1
      obtain ⟨c1,c2⟩:=zBj hT m b (by omega) (hwf2 b (by simp)) (by simpa [hk] using w2) (by omega) hN h3
      obtain ⟨d1,d2⟩:=zBj hT m c (by omega) (hwf2 c (by simp)) (by simpa [hk] using w3) (by omega) hN h4
      exact ⟨((((b1.trans (zCD h2)).trans c1).trans d1).trans (zCD h5)).mono (by omega),by omega⟩
    · have hcn2 : 3 ≤ x.kids ∧ x.kids % 2 = 1:=by simpa [cntK] using hcn
      obtain ⟨a,ks,rfl⟩ : ∃ a r,ks = a :: r:=by
        cases ks with
        | nil=>rw [Tr.wf] at hwf;simp at hwf;omega
        | cons a r=>exact ⟨a,r,rfl⟩
      rw [szL] at hsz
      have w1:=zBa (j:=0) hwk rfl
      obtain ⟨t,S1,h1,h2,rfl⟩:=zSg h0 hk h
      obtain ⟨b1,b2⟩:=zBj hT m a (by omega) (hwf2 a (by simp)) (by simpa [hk] using w1) (by omega) hN h1
      have key : ∀ (l : Nat) (ks : List Tr) (i : Nat),ks.length ≤ l → i % 2 = 1 → szL ks ≤ m → szL ks ≤ 4500 → (∀ k ∈ ks,k.wf) → zDc (decide (x.kind = 10)) false ks i = 0 → ∀ {of' to' : List Nd} {S S' : TS},expM q E of' to' ks N S = some S' → Up S S' (4002 * szL ks):=by
        intro l
        induction l with
        | zero =>
          intro ks i hl _ _ _ _ _ of' to' S S' h
          have : ks = []:=List.eq_nil_of_length_eq_zero (by omega)
          subst this
          rw [expM.eq_1] at h
          injection h with h;subst h;exact (Up.refl _).mono (by omega)
        | succ l ihl =>
          intro ks i hl hi hs hs2 hwf hw of' to' S S' h
          match ks,hl,hs,hs2,hwf,hw,h with
          | [],_,_,_,_,_,h =>
            rw [expM.eq_1] at h
            injection h with h;subst h;exact (Up.refl _).mono (by omega)
          | [p],_,_,_,_,_,h =>
            rw [expM] at h
            split at h
            · split at h
              · rw [expN.eq_1] at h;cases h
              · cases h
            · cases h
          | p :: k :: ks,hl,hs,hs2,hwf,hw,h =>
            obtain ⟨t,N1,S1,S2,u,S3,S4,g1,g2,g3,g4,g5⟩:=zUl h
            rw [szL,szL] at hs hs2
            have v1:=zBa (j:=0) hw rfl
            have v2:=zBa (j:=1) hw rfl
            have v3 : zDc (decide (x.kind = 10)) false ks (i + 1 + 1) = 0:=by
              rw [zDc] at hw
              split at hw
              · contradiction
              rw [zDc] at hw
              split at hw
              · contradiction
              exact hw
            have e1 : (false || (decide (x.kind = 10) && decide ((i + 0) % 2 = 1))) = true:=by simp [hk];omega
            have e2 : (false || (decide (x.kind = 10) && decide ((i + 1) % 2 = 1))) = false:=by simp [hk];omega
            rw [e1] at v1
            rw [e2] at v2
            have hpp:=zBS p
            have hkp:=zBS k
            obtain ⟨a1,_,a3,_⟩:=zJv hT p.sz p (Nat.le_refl _) v1 hN g1
            obtain ⟨c1,_⟩:=zBj hT m k (by omega) (hwf k (by simp)) v2 (by omega) a3 g3
            have d1:=ihl ks (i + 1 + 1) (by simp at hl;omega) (by omega) (by omega) (by omega) (fun z hz=>hwf z (by simp [hz])) v3 g5
            exact ((((a1.trans (zCD g2)).trans c1).trans (zCD g4)).trans d1).mono (by rw [szL,szL,Nat.mul_add,Nat.mul_add];omega)
      have hwk2 : zDc (decide (x.kind = 10)) false ks 1 = 0:=by
        rw [zDc] at hwk
        split at hwk
        · contradiction
        exact hwk
      have d1:=key _ ks 1 (Nat.le_refl _) rfl (by omega) (by omega) (fun k hk=>hwf2 k (by simp [hk])) hwk2 h2
      exact ⟨((b1.trans (zCP S1)).trans d1).mono (by omega),by simp [varN] <;> omega⟩
    · obtain ⟨a,rfl⟩:=zNE hwf (by simpa [cntK] using hcn)
      rw [szL,szL] at hsz
      have w1:=zBa (j:=0) hwk rfl
      obtain ⟨t,S1,S2,h1,h2,rfl,rfl⟩:=zSf h0 hk h
      obtain ⟨b1,b2⟩:=zBj hT m a (by omega) (hwf2 a (by simp)) (by simpa [hk] using w1) (by omega) hN h1
      exact ⟨((b1.trans (zCD h2)).trans (zCP S2)).mono (by omega),by simp [varN] <;> omega⟩
    · obtain ⟨a,b,rfl⟩:=zHO hwf (by simpa [cntK] using hcn)
      rw [szL,szL,szL] at hsz
      have w1:=zBa (j:=0) hwk rfl
      have w2:=zBa (j:=1) hwk rfl
      obtain ⟨S1,u,S2,h1,h2,h3⟩:=zSe h0 hk h
      obtain ⟨b1,b2⟩:=zBj hT m a (by omega) (hwf2 a (by simp)) (by simpa [hk] using w1) (by omega) hN h1
      obtain ⟨c1,c2⟩:=zBj hT m b (by omega) (hwf2 b (by simp)) (by simpa [hk] using w2) (by omega) (hN.app ⟨by simp [zBp],by simp⟩) h2
      exact ⟨((b1.trans c1).trans (zCD h3)).mono (by omega),by omega⟩
end Go.Proofs.YtblomnkamngnbaaGreatDoor
namespace Go.Proofs.YtblomnkamngnbaaGreatDoor
theorem zTA {f : Int → Int} {n : Nd} (h : n.kind ≠ 31) : ren f n = n:=by rw [ren,if_neg h]
theorem zPH {f : Int → Int} {n : Nd} (h : n.kind = 31) : (ren f n).num = f n.num:=by rw [ren,if_pos h]
theorem zUF (f : Int → Int) (x : Int) : ren f (vN x) = vN (f x):=by rw [ren,if_pos (show (vN x).kind = 31 from rfl)];rfl
theorem zS9 {f : Int → Int} {L : List Nd} (h : Lf L) : L.map (ren f) = sub (fun x=>[vN (f x)]) L:=by
  induction L with
  | nil=>rfl
  | cons n r ih =>
    rw [List.map_cons,zCX, ← ih fun m hm=>h m (List.mem_cons_of_mem _ hm)]
    unfold sub1
    split
    · rename_i hk
      have e:=(h n List.mem_cons_self hk).1
      rw [show ren f n = vN (f n.num) by rw [e];exact zUF f _];rfl
    · rename_i hk;rw [zTA hk];rfl
theorem Ty.ren {f : Int → Int} {L : List Nd} (h : Ty L) (hr : ∀ x,Vin x L → Rng (f x)) : Ty (L.map (ren f)):=by
  rw [zS9 h.lf];exact h.sub fun x hx=>zNj (hr x hx)
theorem zTu {f : Int → Int} {L : List Nd} {y : Int} : Vin y (L.map (ren f)) ↔ ∃ x,Vin x L ∧ f x = y:=by
  induction L with
  | nil=>simp [zHJ]
  | cons n r ih =>
    rw [List.map_cons,zBy,ih,zHf]
    constructor
    · rintro (⟨h1,h2⟩ | ⟨x,h1,h2⟩)
      · exact ⟨n.num,zBy.2 (.inl ⟨h1,rfl⟩),by rw [← h2,zPH h1]⟩
      · exact ⟨x,zBy.2 (.inr h1),h2⟩
    · rintro ⟨x,h1,h2⟩
      rcases zBy.1 h1 with ⟨h3,h4⟩ | h1
      · exact .inl ⟨h3,by rw [zPH h3,h4,h2]⟩
      · exact .inr ⟨x,h1,h2⟩
def sh (k : Int) (L : List Nd) : List Nd:=L.map (ren (· + k))
theorem zUE (k : Int) (L : List Nd) : (sh k L).length = L.length:=List.length_map ..
def SSim (k : Int) (A B : Sto) : Prop:=∀ j,0 ≤ j → zBI A (j + k) = (zBI B j).map (sh k)
def Nn (t : List Nd) : Prop:=∀ x,Vin x t → 0 ≤ x
theorem Nn.cons {x : Nd} {r : List Nd} (h : Nn (x :: r)) : Nn r:=fun y hy=>h y (zBy.2 (.inr hy))
theorem Nn.sub {t u : List Nd} (h : Nn t) (hs : ∀ n ∈ u,n ∈ t) : Nn u:=fun x ⟨n,hn,hk,e⟩=>h x ⟨n,hs n hn,hk,e⟩
section
variable {k : Int} {A B : Sto}
end
end Go.Proofs.YtblomnkamngnbaaGreatDoor
namespace Go.Proofs.YtblomnkamngnbaaGreatDoor
def Vn (n : Int) : List Int:=upto n.toNat
theorem zSr {n x : Int} : x ∈ Vn n ↔ 0 ≤ x ∧ x < n:=by
  unfold Vn upto
  rw [List.mem_map]
  constructor
  · rintro ⟨i,hi,rfl⟩;rw [List.mem_range] at hi;omega
  · rintro ⟨h1,h2⟩;exact ⟨x.toNat,List.mem_range.2 (by omega),by omega⟩
theorem Gd.mono {V W : List Int} {t : List Nd} (h : Gd V t) (hs : ∀ x ∈ V,x ∈ W) : Gd W t:=⟨h.ty,h.len,fun x hx=>hs x (h.vs x hx)⟩
theorem Gd.ok {V : List Int} {t : List Nd} (h : Gd V t) : okT t = true:=zUL h.ty h.len
structure SI (S : TS) : Prop where
  nx : 0 ≤ S.nx
  inv : S.er = 0 → ∃ ρ,Inv (Vn S.nx) S.st ρ
theorem SI.zero : SI ⟨0,[],0⟩:=⟨Int.le_refl _,fun _=>⟨_,Inv.nil _⟩⟩
theorem zVE : Ty (zBp intT):=zUA (by decide)
theorem zUM {s : List UInt8} {x : Int} : ¬ Vin x (zBp s):=fun ⟨n,hn,hk,_⟩=>by
  rw [zBp,List.mem_singleton] at hn;subst hn;revert hk;show ¬ (32 : Int) = 31;decide
theorem Gd.sh {n k : Int} {t : List Nd} (h : Gd (Vn n) t) (h0 : 0 ≤ k) (hk : n + k ≤ 1048577) : Gd (Vn (n + k)) (sh k t):=by
  have hv : ∀ x,Vin x t → 0 ≤ x ∧ x < n:=fun x hx=>zSr.1 (h.vs x hx)
  refine ⟨h.ty.ren fun x hx=>?_,by rw [zUE];exact h.len,fun y hy=>?_⟩
  · have:=hv x hx;unfold Rng;omega
  · obtain ⟨x,hx,rfl⟩:=zTu.1 hy
    have:=hv x hx;rw [zSr];omega
structure Tw (k : Int) (A B : TS) : Prop where
  k0 : 0 ≤ k
  nx : A.nx = B.nx + k
  er : A.er = B.er
  st : B.er = 0 → SSim k A.st B.st
  sa : SI A
  sb : SI B
end Go.Proofs.YtblomnkamngnbaaGreatDoor
namespace Go.Proofs.YtblomnkamngnbaaGreatDoor
def shL (k : Int) (l : Lc) : Lc:=⟨l.name,sh k l.t,l.any.map (· + k)⟩
abbrev zNw (E : List Sg) (z : List UInt8) : Option Sg:=E.find? fun s=>decide (s.name = z)
abbrev zUB (N : List Lc) (z : List UInt8) : Option Lc:=N.reverse.find? fun l=>decide (l.name = z)
structure Env2 (E1 : List Sg) (pre : List Lc) (E2 : List Sg) : Prop where
  ok : ∀ s ∈ E2,okT s.ty = true
  con : ∀ c,conF c = true → zNw E1 c = zNw E2 c
  shut : ∀ l ∈ pre,okT l.t = true ∧ ∀ x,Vin x l.t → x ∈ l.any
  low : ∀ z s,zNw E2 z = some s → (zUB pre z = none ∧ zNw E1 z = some s) ∨ ∃ l,zUB pre z = some l ∧ l.any = zCh l.t ∧ s.ty = zCm l.t
def NOk (n : Int) (N : List Lc) : Prop:=∀ l ∈ N,Gd (Vn n) l.t ∧ l.any.length ≤ 4000
def hid (l : List Int) (x : Int) : List Nd:=if x ∈ l then zBp intT else [vN x]
theorem zUZ {l : List Int} {x : Int} (h : Rng x) : Ty (hid l x):=by
  unfold hid;split
  · exact zVE
  · exact zNj h
theorem zPj {l : List Int} : ∀ {t : List Nd},(sub (hid l) t).length = t.length
  | []=>rfl
  | n :: r=>by
    rw [zCX,List.length_append,zPj,List.length_cons]
    have : (sub1 (hid l) n).length = 1:=by
      unfold sub1 hid;split
      · split <;> rfl
      · rfl
    omega
theorem Gd.hid {n : Int} {t : List Nd} (h : Gd (Vn n) t) (l : List Int) : Gd (Vn n) (sub (hid l) t):=by
  refine ⟨h.ty.sub fun x hx=>zUZ (h.ty.rng hx),by rw [zPj];exact h.len,fun x hx=>?_⟩
  obtain ⟨y,hy,hx⟩:=zQo.1 hx
  unfold Go.Proofs.YtblomnkamngnbaaGreatDoor.hid at hx
  split at hx
  · exact absurd hx zUM
  · rw [zIp] at hx;subst hx;exact h.vs _ hy
end Go.Proofs.YtblomnkamngnbaaGreatDoor
namespace Go.Proofs.YtblomnkamngnbaaGreatDoor
def Cons (E : List Sg) (L : List Nd) : Prop:=∀ n ∈ L,(n.kind = 4 → (zNw E n.text).isSome = true) ∧ (n.kind = 24 → ∃ s,zNw E n.text = some s ∧ ((zCG s.ty).1.length : Int) = n.kids)
theorem Cons.fst {E : List Sg} {k : Tr} {ks : List Tr} (h : Cons E (flL (k :: ks))) : Cons E k.fl ∧ Cons E (flL ks):=by
  rw [flL] at h
  exact ⟨fun n hn=>h n (List.mem_append_left _ hn),fun n hn=>h n (List.mem_append_right _ hn)⟩
end Go.Proofs.YtblomnkamngnbaaGreatDoor
namespace Go.Proofs.YtblomnkamngnbaaGreatDoor
def bndK (k : Int) (tx : List UInt8) (pv : List (List UInt8)) (i : Nat) : List (List UInt8) :=
  if k = 5 ∨ k = 8 ∨ ((k = 7 ∨ k = 12) ∧ i = 1) then [tx] else if k = 10 ∧ 0 < i then pv else []
mutual
def Tr.fr (z : List UInt8) : Tr → Prop
  | .mk x ks=>if x.kind = 3 then x.text = z else frL z x.kind x.text [] ks 0
def frL (z : List UInt8) (k : Int) (tx : List UInt8) : List (List UInt8) → List Tr → Nat → Prop
  | _,[],_=>False
  | pv,t :: r,i=>if k = 10 ∧ i % 2 = 1 then frL z k tx (zBJ t.fl) r (i + 1) else (t.fr z ∧ z ∉ bndK k tx pv i) ∨ frL z k tx pv r (i + 1)
end
theorem NOk.lcs {n : Int} {N : List Lc} (h : NOk n N) : LcsOk N:=fun l hl=>⟨by have:=(h l hl).1.len;omega,(h l hl).2⟩
def EB (E1 E2 : List Sg) (pre : List Lc) (t : Tr) (k : Int) (A B : TS) (N : List Lc) : Prop :=
  ∃ u A' B',(Ev fun q=>t.expS q E2 N B = some (u,B') ∧ t.expS q E1 (pre ++ N.map (shL k)) A = some (sh k u,A')) ∧ Tw k A' B' ∧ Gd (Vn B'.nx) u ∧ B.nx ≤ B'.nx ∧ B'.nx ≤ B.nx + 4002 * t.sz ∧ u.length ≤ 2 * t.sz + 1
theorem EB.mk {E1 E2 : List Sg} {pre : List Lc} {t : Tr} {k : Int} {A B : TS} {N : List Lc} (hE : Env2 E1 pre E2) (hN : NOk B.nx N) (hwf : t.wf) (hw : t.werr false = 0) (hz : t.sz ≤ 100)
    (h : ∃ u A' B',(Ev fun q=>t.expS q E2 N B = some (u,B') ∧ t.expS q E1 (pre ++ N.map (shL k)) A = some (sh k u,A')) ∧ Tw k A' B' ∧ (B.nx ≤ B'.nx → Gd (Vn B'.nx) u)) : EB E1 E2 pre t k A B N:=by
  obtain ⟨u,A',B',e,h1,h2⟩:=h
  obtain ⟨q,p1,_⟩:=e.get
  obtain ⟨b1,b2⟩:=zBj (fun s hs=>by have:=(zD7 (hE.ok s hs)).1;omega) t.sz t (Nat.le_refl _) hwf hw (by omega) hN.lcs p1
  exact ⟨u,A',B',e,h1,h2 b1.lo,b1.lo,by have:=b1.hi;omega,b2⟩
end Go.Proofs.YtblomnkamngnbaaGreatDoor

/- Texts of this claim, merged: SynI, SynJ, RefC. -/
import Derived.Test.YtblomnkamngnbaaGreatDoorMAB
import Derived.Test.YtblomnkamngnbaaGreatDoorMAD
import Derived.Test.YtblomnkamngnbaaGreatDoorMAO
import Derived.Test.YtblomnkamngnbaaGreatDoorMAT
import Derived.Test.YtblomnkamngnbaaGreatDoorMAV
import Derived.Test.YtblomnkamngnbaaGreatDoorMAY
namespace Go.Proofs.YtblomnkamngnbaaGreatDoor
open Go.Sx
mutual
theorem zFE : ∀ (t : Tr) (S : Bag) (F : List (List UInt8)),(t.free S F).length ≤ F.length + t.sz
  | .mk x ks,S,F=>by
    rw [Tr.free,Tr.sz]
    split
    · split
      · rw [List.length_append];simp only [List.length_cons,List.length_nil];omega
      · omega
    · have:=zIp x.kind x.text S [] ks 0 F;omega
theorem zIp (k : Int) (tx : List UInt8) (S : Bag) : ∀ (pv : List (List UInt8)) (ks : List Tr) (i : Nat) (F : List (List UInt8)),(zCX k tx S pv ks i F).length ≤ F.length + szL ks
  | _,[],_,F=>by rw [zCX];omega
  | pv,t :: r,i,F=>by
    rw [zCX,szL]
    split
    · have:=zIp k tx S (zBJ t.fl) r (i + 1) F;omega
    · have h1:=zIp k tx S pv r (i + 1) (t.free (bagK k tx pv i S) F)
      have h2:=zFE t (bagK k tx pv i S) F
      omega
end
def zHh (L : List Nd) (m : Nat) : Prop:=∀ (n : Nat) (t : Tr) (S : Bag) (F : List (List UInt8)) (b : Nat),t.sz ≤ m → At L n t → t.werr false = 0 → GoodB S → (∀ a,lkB S a ≤ b) → b + t.sz ≤ 1000000 → F.length + t.sz ≤ 1000000 →
  zAx Tryz.prog 106 [.ptr 0 0,.d (i64 (n : Int))] (fO L S F) (.d (i64 ((n + t.sz : Nat) : Int))) (fO L S (t.free S F))
attribute [local irreducible] zAO Program.underlying Ylds zA3 alex zBY zBN awp zAm zBT zBe zAx zBA zBP zA2 zBR zBX zBa zBq zBI VCall
theorem zCv {x : Nd} {k1 : Int} {pat : Bool} (h : zE7 x k1 pat = 0) : okK x.kind = true ∧ patK x.kind = pat ∧ cntK x.kind x.kids = true:=by
  unfold zE7 at h
  split at h
  · cases h
  · rename_i hc
    refine ⟨?_,?_,?_⟩
    · cases hq : okK x.kind with
      | true=>rfl
      | false=>exact absurd (.inl hq) hc
    · by_cases hq : patK x.kind = pat
      · exact hq
      · exact absurd (.inr (.inl hq)) hc
    · cases hq : cntK x.kind x.kids with
      | true=>rfl
      | false=>exact absurd (.inr (.inr hq)) hc
theorem zDC {x : Nd} {ks : List Tr} {pat : Bool} (h : Tr.werr (.mk x ks) pat = 0) : zE7 x (Tr.kind1 (.mk x ks)) pat = 0 ∧ zC6 (decide (x.kind = 10)) pat ks 0 = 0:=by
  rw [zPZ] at h
  by_cases he : zE7 x (Tr.kind1 (.mk x ks)) pat = 0
  · rw [if_neg (by rw [he];decide)] at h;exact ⟨he,h⟩
  · rw [if_pos he] at h;exact absurd h he
theorem zBB {m pat : Bool} : ∀ {ks : List Tr} {i j : Nat} {k : Tr},zC6 m pat ks i = 0 → ks[j]? = some k → k.werr (pat || (m && decide ((i + j) % 2 = 1))) = 0
  | t :: r,i,0,k,h,hk=>by
    simp at hk;subst hk
    rw [zC6] at h
    by_cases he : t.werr (pat || (m && decide (i % 2 = 1))) = 0
    · exact he
    · rw [if_pos he] at h;exact absurd h he
  | t :: r,i,j + 1,k,h,hk=>by
    rw [zC6] at h
    by_cases he : t.werr (pat || (m && decide (i % 2 = 1))) = 0
    · rw [if_neg (by rw [he];decide)] at h
      have:=zBB (j:=j) h (by simpa using hk)
      rw [show i + (j + 1) = i + 1 + j by omega];exact this
    · rw [if_pos he] at h;exact absurd h he
theorem zUc {L : List Nd} (hL : L.length ≤ 2000000) {m : Nat} (ih : zHh L m) (n : Nat) (x : Nd) (ks : List Tr) (S : Bag) (F : List (List UInt8)) (b : Nat) (hk : x.kind = 5) (hm : Tr.sz (.mk x ks) ≤ m + 1) (h : At L n (.mk x ks)) (hw : Tr.werr (.mk x ks) false = 0) (hS : GoodB S) (hb : ∀ a,lkB S a ≤ b) (hb2 : b + Tr.sz (.mk x ks) ≤ 1000000) (hF : F.length + Tr.sz (.mk x ks) ≤ 1000000) :
    zAx Tryz.prog 106 [.ptr 0 0,.d (i64 (n : Int))] (fO L S F) (.d (i64 ((n + Tr.sz (.mk x ks) : Nat) : Int))) (fO L S (Tr.free (.mk x ks) S F)):=by
  obtain ⟨h1,h2⟩:=zDC hw
  obtain ⟨h3,h4,h5⟩:=zCv h1
  have hx:=h.here
  have hkn:=h.kidn
  have hlen:=h.len
  have hsz : Tr.sz (.mk x ks) = szL ks + 1:=by rw [Tr.sz]
  rw [hk] at h5
  have hl1 : ks.length = 1:=by
    have : x.kids = 1:=by simpa [cntK] using h5
    omega
  match ks,hl1 with
  | [t],_ =>
    have hc:=ih (n + 1) t (upsB S [x.text]) F (b + 1) (by rw [hsz,szL,szL] at hm;omega) (by simpa [zCM] using h.kid (i:=0) rfl) (by simpa [hk] using zBB (j:=0) h2 rfl) (hS.ups _) (fun a=>by rw [zE9];have h6 : ([x.text] : List (List UInt8)).count a ≤ 1:=List.count_le_length;have:=hb a;omega)
      (by rw [hsz,szL,szL] at hb2;omega) (by rw [hsz,szL,szL] at hF;omega)
    have hr : n + 1 + t.sz = n + Tr.sz (.mk x [t]):=by rw [hsz,szL,szL];omega
    rw [hr] at hc
    have he : Tr.free (.mk x [t]) S F = t.free (upsB S [x.text]) F:=by rw [Tr.free,if_neg (by rw [hk];decide),zCX,zCX,bagK,hk];rfl
    rw [he]
    generalize t.free (upsB S [x.text]) F = F' at *
    generalize Tr.sz (.mk x [t]) = s at *
    have hwi:=zH9 L ((n : Int) + 1) ((n + s : Nat) : Int) S F F' [x.text] hS (by simp) (fun a=>by have:=hb a;omega) hc
    refine zAw Tryz.func106 rfl Tryz.ntmps106 Tryz.results106 rfl rfl rfl ?_
    intro wb St0 X fx
    repeat' first | apply en_n|apply zAH|apply zAC|apply zAF|apply w0|(apply zBV;exact rfl;exact rfl;first|assumption|omega)|(apply zBW;exact rfl;exact rfl;first|assumption|omega)|exact zAe rfl|(refine zAy [0,1,2] zIg (hwi) ?_ rfl rfl (by decide) rfl rfl rfl rfl rfl rfl ?_;(repeat (refine zAI rfl ?_));exact zAM)|(apply aJ (hd:=rfl);(first|exact zAn rfl|exact Co_bb rfl rfl rfl|exact Co_nn rfl);exact rfl;(with_reducible exact zAa);assumption;omega;exact fun _=>rfl)|(apply zBE (hd:=rfl) (hro:=rfl);(with_reducible exact zAp))|apply ay (hd:=rfl)|exact zAE rfl|exact zAD rfl|(apply zAf;exact rfl;(with_reducible exact zAb);exact rfl)|(apply zBG;exact rfl;exact rfl)|exact zAR rfl|(apply zAS;exact rfl;(with_reducible first|exact fd_0|exact fn_0|exact fn_1))|(apply zAV;exact rfl;(with_reducible first|exact zAg|exact zAk|exact zA4);exact rfl;exact rfl)|(apply zCD;(with_reducible first|exact zCG|exact zCG);(with_reducible first|exact zBx|exact zBx);(with_reducible first|exact zEg|exact zEg);exact rfl;exact rfl;(first|exact zAZ rfl zAG|exact zCo rfl rfl rfl zAG|exact zCs rfl zAG);exact rfl)|(refine w0' ?_)|(apply zA0;exact rfl;exact rfl;exact rfl;(with_reducible exact zAb);exact rfl;exact rfl;exact rfl;exact rfl)|(apply zAQ;exact rfl)|(apply zAU;exact rfl)|apply zAJ|apply zAN|apply en_r|apply eb_r
    all_goals try omega
    exact zAh (zAL (zAA rfl zAW) (zAB rfl rfl (zAB rfl rfl (zAl rfl rfl rfl zAK))) rfl rfl)
set_option maxHeartbeats 4000000 in
theorem zSx {L : List Nd} (hL : L.length ≤ 2000000) {m : Nat} (ih : zHh L m) (n : Nat) (x : Nd) (ks : List Tr) (S : Bag) (F : List (List UInt8)) (b : Nat) (hk : x.kind = 7 ∨ x.kind = 12) (hm : Tr.sz (.mk x ks) ≤ m + 1) (h : At L n (.mk x ks)) (hw : Tr.werr (.mk x ks) false = 0) (hS : GoodB S) (hb : ∀ a,lkB S a ≤ b) (hb2 : b + Tr.sz (.mk x ks) ≤ 1000000) (hF : F.length + Tr.sz (.mk x ks) ≤ 1000000) :
    zAx Tryz.prog 106 [.ptr 0 0,.d (i64 (n : Int))] (fO L S F) (.d (i64 ((n + Tr.sz (.mk x ks) : Nat) : Int))) (fO L S (Tr.free (.mk x ks) S F)):=by
  obtain ⟨h1,h2⟩:=zDC hw
  obtain ⟨h3,h4,h5⟩:=zCv h1
  have hx:=h.here
  have hkn:=h.kidn
  have hlen:=h.len
  have hsz : Tr.sz (.mk x ks) = szL ks + 1:=by rw [Tr.sz]
  have hl2 : ks.length = 2:=by
    have : x.kids = 2:=by rcases hk with hk | hk <;> (rw [hk] at h5;simpa [cntK] using h5)
    omega
  match ks,hl2 with
  | [t,u],_ =>
    rw [hsz,szL,szL,szL] at hm hb2 hF
    have hc1:=ih (n + 1) t S F b (by omega) (by simpa [zCM] using h.kid (i:=0) rfl) (by rcases hk with hk | hk <;> simpa [hk] using zBB (j:=0) h2 rfl) hS hb (by omega) (by omega)
    have hfl:=zFE t S F
    have hat : At L (n + 1 + t.sz) u:=by
      have h6:=h.kid (i:=1) (k:=u) rfl
      rw [zDA (i:=0) (k:=t) rfl,zCM] at h6;exact h6
    have hc:=ih (n + 1 + t.sz) u (upsB S [x.text]) (t.free S F) (b + 1) (by omega) hat (by rcases hk with hk | hk <;> simpa [hk] using zBB (j:=1) h2 rfl) (hS.ups _) (fun a=>by rw [zE9];have h6 : ([x.text] : List (List UInt8)).count a ≤ 1:=List.count_le_length;have:=hb a;omega) (by omega) (by omega)
    have hr : n + 1 + t.sz + u.sz = n + Tr.sz (.mk x [t,u]):=by rw [hsz,szL,szL,szL];omega
    rw [hr] at hc
    have he : Tr.free (.mk x [t,u]) S F = u.free (upsB S [x.text]) (t.free S F):=by
      have e0 : bagK x.kind x.text [] 0 S = S:=by rw [bagK,if_neg (by omega),if_neg (by omega)]
      have e1 : bagK x.kind x.text [] (0 + 1) S = upsB S [x.text]:=by rw [bagK,if_pos (by omega)]
      rw [Tr.free,if_neg (by omega),zCX,if_neg (by omega),zCX,if_neg (by omega),zCX,e0,e1]
    rw [he]
    clear he
    generalize u.free (upsB S [x.text]) (t.free S F) = F' at *
    generalize t.free S F = F1 at *
    generalize Tr.sz (.mk x [t,u]) = s at *
    generalize n + 1 + t.sz = q at *
    have hwi:=zH9 L (q : Int) ((n + s : Nat) : Int) S F1 F' [x.text] hS (by simp) (fun a=>by have:=hb a;omega) hc
    clear h1 h2 h3 h4 h5 hw h hat hfl hS ih hsz
    rcases hk with hk | hk
    all_goals
      refine zAw Tryz.func106 rfl Tryz.ntmps106 Tryz.results106 rfl rfl rfl ?_
      intro wb St0 X fx
      repeat' first | (refine zME (id:=11) [.ptr 0 0,.ptr 0 0,.d (i64 ((n : Int) + 1)),.top,.ptr 3 1,.d (str x.text),.d (strs [x.text])] 3 [0,1,2] (by kernel_rfl) (by kernel_rfl) rfl rfl rfl (.inr (by kernel_rfl)) ⟨.inr ⟨⟨rfl,zAR rfl⟩,rfl,rfl,.inr ⟨rfl,rfl,zAR rfl⟩⟩,⟨.inr ⟨⟨rfl,zAR rfl⟩,rfl,rfl,.inl (by kernel_rfl)⟩,⟨.inr ⟨⟨rfl,zAE rfl⟩,rfl,rfl,.inl (by kernel_rfl)⟩,⟨.inl rfl,⟨.inr ⟨⟨rfl,zAS rfl fn_1⟩,rfl,rfl,.inr ⟨rfl,rfl,zAS rfl fn_1⟩⟩,⟨.inr ⟨⟨rfl,zAV rfl zA4 rfl rfl⟩,rfl,rfl,.inr ⟨rfl,rfl,zAV rfl zA4 rfl rfl⟩⟩,⟨.inr ⟨⟨rfl,zCD zCG zBx zEg rfl rfl (zAZ rfl zAG) rfl⟩,rfl,rfl,.inr ⟨rfl,rfl,zCD zCG zBx zEg rfl rfl (zAZ rfl zAG) rfl⟩⟩,trivial⟩⟩⟩⟩⟩⟩⟩ zIj hc1 ⟨rfl,rfl,trivial⟩ rfl rfl (by decide) rfl rfl rfl rfl rfl rfl ?_)|apply en_n|apply zAH|apply zAC|apply zAF|apply w0|(apply zBV;exact rfl;exact rfl;first|assumption|omega)|(apply zBW;exact rfl;exact rfl;first|assumption|omega)|exact zAe rfl|(refine zDF (by kernel_rfl) ?_;refine zAy [0,1,2] zIg (hwi) ?_ rfl rfl (by decide) rfl rfl rfl rfl rfl rfl ?_;(repeat (refine zAI rfl ?_));exact zAM)|(apply aJ (hd:=rfl);(first|exact zAn rfl|exact Co_bb rfl rfl rfl|exact Co_nn rfl);exact rfl;(with_reducible exact zAa);assumption;omega;exact fun _=>rfl)|(apply zBE (hd:=rfl) (hro:=rfl);(with_reducible exact zAp))|apply ay (hd:=rfl)|exact zAE rfl|exact zAD rfl|(apply zAf;exact rfl;(with_reducible exact zAb);exact rfl)|(apply zBG;exact rfl;exact rfl)|exact zAR rfl|(apply zAS;exact rfl;(with_reducible first|exact fd_0|exact fn_0))|(apply zAV;exact rfl;(with_reducible first|exact zAg|exact zAk);exact rfl;exact rfl)|(refine w0' ?_)|(apply zA0;exact rfl;exact rfl;exact rfl;(with_reducible exact zAb);exact rfl;exact rfl;exact rfl;exact rfl)|(apply zAQ;exact rfl)|(apply zAU;exact rfl)|apply zAJ|apply zAT|apply zAN|apply en_r|apply eb_r
      all_goals try omega
      exact zAh (zAL (zAA rfl zAW) (zAB rfl rfl (zAB rfl rfl (zAl rfl rfl rfl zAK))) rfl rfl)
set_option maxHeartbeats 4000000 in
theorem zSw {L : List Nd} (hL : L.length ≤ 2000000) {m : Nat} (ih : zHh L m) (n : Nat) (x : Nd) (ks : List Tr) (S : Bag) (F : List (List UInt8)) (b : Nat) (hk : x.kind = 8) (hm : Tr.sz (.mk x ks) ≤ m + 1) (h : At L n (.mk x ks)) (hw : Tr.werr (.mk x ks) false = 0) (hS : GoodB S) (hb : ∀ a,lkB S a ≤ b) (hb2 : b + Tr.sz (.mk x ks) ≤ 1000000) (hF : F.length + Tr.sz (.mk x ks) ≤ 1000000) :
    zAx Tryz.prog 106 [.ptr 0 0,.d (i64 (n : Int))] (fO L S F) (.d (i64 ((n + Tr.sz (.mk x ks) : Nat) : Int))) (fO L S (Tr.free (.mk x ks) S F)):=by
  obtain ⟨h1,h2⟩:=zDC hw
  obtain ⟨h3,h4,h5⟩:=zCv h1
  have hx:=h.here
  have hkn:=h.kidn
  have hlen:=h.len
  have hsz : Tr.sz (.mk x ks) = szL ks + 1:=by rw [Tr.sz]
  have hl2 : ks.length = 2:=by
    have : x.kids = 2:=by rw [hk] at h5;simpa [cntK] using h5
    omega
  match ks,hl2 with
  | [t,u],_ =>
    rw [hsz,szL,szL,szL] at hm hb2 hF
    have hc1:=ih (n + 1) t (upsB S [x.text]) F (b + 1) (by omega) (by simpa [zCM] using h.kid (i:=0) rfl) (by simpa [hk] using zBB (j:=0) h2 rfl) (hS.ups _) (fun a=>by rw [zE9];have h6 : ([x.text] : List (List UInt8)).count a ≤ 1:=List.count_le_length;have:=hb a;omega) (by omega) (by omega)
    have hfl:=zFE t (upsB S [x.text]) F
    have hat : At L (n + 1 + t.sz) u:=by
      have h6:=h.kid (i:=1) (k:=u) rfl
      rw [zDA (i:=0) (k:=t) rfl,zCM] at h6;exact h6
    have hc:=ih (n + 1 + t.sz) u (upsB S [x.text]) (t.free (upsB S [x.text]) F) (b + 1) (by omega) hat (by simpa [hk] using zBB (j:=1) h2 rfl) (hS.ups _) (fun a=>by rw [zE9];have h6 : ([x.text] : List (List UInt8)).count a ≤ 1:=List.count_le_length;have:=hb a;omega) (by omega) (by omega)
    have hr : n + 1 + t.sz + u.sz = n + Tr.sz (.mk x [t,u]):=by rw [hsz,szL,szL,szL];omega
    rw [hr] at hc
    have he : Tr.free (.mk x [t,u]) S F = u.free (upsB S [x.text]) (t.free (upsB S [x.text]) F):=by
      rw [Tr.free,if_neg (by omega),zCX,if_neg (by omega),zCX,if_neg (by omega),zCX,bagK,if_pos (by omega),bagK,if_pos (by omega)]
    rw [he]
    clear he
    generalize u.free (upsB S [x.text]) (t.free (upsB S [x.text]) F) = F' at *
    generalize t.free (upsB S [x.text]) F = F1 at *
    generalize Tr.sz (.mk x [t,u]) = s at *
    generalize n + 1 + t.sz = q at *
    rw [show ((n + 1 : Nat) : Int) = (n : Int) + 1 from rfl] at hc1
    have hw1:=zH9 L ((n : Int) + 1) (q : Int) S F F1 [x.text] hS (by simp) (fun a=>by have:=hb a;omega) hc1
    have hwi:=zH9 L (q : Int) ((n + s : Nat) : Int) S F1 F' [x.text] hS (by simp) (fun a=>by have:=hb a;omega) hc
    clear h1 h2 h3 h4 h5 hw h hat hfl hS ih hsz
    refine zAw Tryz.func106 rfl Tryz.ntmps106 Tryz.results106 rfl rfl rfl ?_
    intro wb St0 X fx
    repeat' first | (refine zME (id:=13) [.ptr 0 0,.ptr 0 0,.d (i64 ((n : Int) + 1)),.ptr 3 1,.d (str x.text),.d (strs [x.text]),.top,.ptr 3 1,.d (str x.text),.d (strs [x.text])] 6 [0,1,2] (by kernel_rfl) (by kernel_rfl) rfl rfl rfl (.inr (by kernel_rfl)) ⟨.inr ⟨⟨rfl,zAR rfl⟩,rfl,rfl,.inr ⟨rfl,rfl,zAR rfl⟩⟩,⟨.inr ⟨⟨rfl,zAR rfl⟩,rfl,rfl,.inl (by kernel_rfl)⟩,⟨.inr ⟨⟨rfl,zAE rfl⟩,rfl,rfl,.inl (by kernel_rfl)⟩,⟨.inr ⟨⟨rfl,zAS rfl fn_1⟩,rfl,rfl,.inl (by kernel_rfl)⟩,⟨.inr ⟨⟨rfl,zAV rfl zA4 rfl rfl⟩,rfl,rfl,.inl (by kernel_rfl)⟩,⟨.inr ⟨⟨rfl,zCD zCG zBx zEg rfl rfl (zAZ rfl zAG) rfl⟩,rfl,rfl,.inl (by kernel_rfl)⟩,⟨.inl rfl,⟨.inr ⟨⟨rfl,zAS rfl fn_1⟩,rfl,rfl,.inr ⟨rfl,rfl,zAS rfl fn_1⟩⟩,⟨.inr ⟨⟨rfl,zAV rfl zA4 rfl rfl⟩,rfl,rfl,.inr ⟨rfl,rfl,zAV rfl zA4 rfl rfl⟩⟩,⟨.inr ⟨⟨rfl,zCD zCG zBx zEg rfl rfl (zAZ rfl zAG) rfl⟩,rfl,rfl,.inr ⟨rfl,rfl,zCD zCG zBx zEg rfl rfl (zAZ rfl zAG) rfl⟩⟩,trivial⟩⟩⟩⟩⟩⟩⟩⟩⟩⟩ zIg hw1 ⟨rfl,rfl,rfl,trivial⟩ rfl rfl (by decide) rfl rfl rfl rfl rfl rfl ?_)|apply en_n|apply zAH|apply zAC|apply zAF|apply w0|(apply zBV;exact rfl;exact rfl;first|assumption|omega)|(apply zBW;exact rfl;exact rfl;first|assumption|omega)|exact zAe rfl|(refine zDF (by kernel_rfl) ?_;refine zAy [0,1,2] zIg (hwi) ?_ rfl rfl (by decide) rfl rfl rfl rfl rfl rfl ?_;(repeat (refine zAI rfl ?_));exact zAM)|(apply aJ (hd:=rfl);(first|exact zAn rfl|exact Co_bb rfl rfl rfl|exact Co_nn rfl);exact rfl;(with_reducible exact zAa);assumption;omega;exact fun _=>rfl)|(apply zBE (hd:=rfl) (hro:=rfl);(with_reducible exact zAp))|apply ay (hd:=rfl)|exact zAE rfl|exact zAD rfl|(apply zAf;exact rfl;(with_reducible exact zAb);exact rfl)|(apply zBG;exact rfl;exact rfl)|exact zAR rfl|(apply zAS;exact rfl;(with_reducible first|exact fd_0|exact fn_0))|(apply zAV;exact rfl;(with_reducible first|exact zAg|exact zAk);exact rfl;exact rfl)|(refine w0' ?_)|(apply zA0;exact rfl;exact rfl;exact rfl;(with_reducible exact zAb);exact rfl;exact rfl;exact rfl;exact rfl)|(apply zAQ;exact rfl)|(apply zAU;exact rfl)|apply zAJ|apply zAN|apply en_r|apply eb_r
    all_goals try omega
    exact zAh (zAL (zAA rfl zAW) (zAB rfl rfl (zAB rfl rfl (zAl rfl rfl rfl zAK))) rfl rfl)
end Go.Proofs.YtblomnkamngnbaaGreatDoor
namespace Go.Proofs.YtblomnkamngnbaaGreatDoor
open Go.Sx
attribute [local irreducible] zAO Program.underlying Ylds zA3 alex zBY zBN awp zAm zBT zBe zAx zBA zBP zA2 zBR zBX zBa zBq zBI VCall
set_option maxHeartbeats 4000000 in
theorem zQw {L : List Nd} (hL : L.length ≤ 2000000) {m : Nat} (_ih : zHh L m) (n : Nat) (x : Nd) (ks : List Tr) (S : Bag) (F : List (List UInt8)) (b : Nat) (hk : x.kind = 1 ∨ x.kind = 2 ∨ x.kind = 4) (hm : Tr.sz (.mk x ks) ≤ m + 1) (h : At L n (.mk x ks)) (hw : Tr.werr (.mk x ks) false = 0) (_hS : GoodB S) (_hb : ∀ a,lkB S a ≤ b) (hb2 : b + Tr.sz (.mk x ks) ≤ 1000000) (hF : F.length + Tr.sz (.mk x ks) ≤ 1000000) :
    zAx Tryz.prog 106 [.ptr 0 0,.d (i64 (n : Int))] (fO L S F) (.d (i64 ((n + Tr.sz (.mk x ks) : Nat) : Int))) (fO L S (Tr.free (.mk x ks) S F)):=by
  obtain ⟨h1,h2⟩:=zDC hw
  obtain ⟨h3,h4,h5⟩:=zCv h1
  have hx:=h.here
  have hkn:=h.kidn
  have hlen:=h.len
  have hsz : Tr.sz (.mk x ks) = szL ks + 1:=by rw [Tr.sz]
  have hl0 : ks.length = 0:=by
    have : x.kids = 0:=by rcases hk with hk | hk | hk <;> (rw [hk] at h5;simpa [cntK] using h5)
    omega
  match ks,hl0 with
  | [],_ =>
    rw [hsz,szL]
    have he : Tr.free (.mk x []) S F = F:=by rw [Tr.free,if_neg (by omega),zCX]
    rw [he]
    clear h1 h2 h3 h4 h5 hw h _hS _ih hsz hm hb2 hF he
    rcases hk with hk | hk | hk
    all_goals
      refine zAw Tryz.func106 rfl Tryz.ntmps106 Tryz.results106 rfl rfl rfl ?_
      intro wb St0 X fx
      repeat' first | apply en_n|apply zAH|apply zAC|apply zAF|apply w0|(apply zBW;exact rfl;exact rfl;first|assumption|omega)|exact zAe rfl|(apply aJ (hd:=rfl);(first|exact zAn rfl|exact Co_bb rfl rfl rfl|exact Co_nn rfl);exact rfl;(with_reducible exact zAa);assumption;omega;exact fun _=>rfl)|(apply zBE (hd:=rfl) (hro:=rfl);(with_reducible exact zAp))|apply ay (hd:=rfl)|exact zAE rfl|exact zAD rfl|(apply zAf;exact rfl;(with_reducible exact zAb);exact rfl)|(apply zBG;exact rfl;exact rfl)|exact zAo rfl rfl|exact zAR rfl|(apply zAS;exact rfl;(with_reducible first|exact fd_0|exact fn_0))|(apply zAV;exact rfl;(with_reducible first|exact zAg|exact zAk);exact rfl;exact rfl)|(apply w1;exact rfl;exact rfl)|(refine w0' ?_)|(apply zA0;exact rfl;exact rfl;exact rfl;(with_reducible exact zAb);exact rfl;exact rfl;exact rfl;exact rfl)|(apply zAU;exact rfl)|apply zAJ|apply zAT|apply zAN|apply eb_n
      all_goals try omega
      exact zAh (zAL (Le_d rfl (by congr 2) zAW) (zAB rfl rfl (zAB rfl rfl (zAl rfl rfl rfl zAK))) rfl rfl)
end Go.Proofs.YtblomnkamngnbaaGreatDoor
namespace Go.Proofs.YtblomnkamngnbaaGreatDoor
open Go.Sx
attribute [local irreducible] zAO Program.underlying Ylds zA3 alex zBY zBN awp zAm zBT zBe zAx zBA zBP zA2 zBR zBX zBa zBq zBI
end Go.Proofs.YtblomnkamngnbaaGreatDoor

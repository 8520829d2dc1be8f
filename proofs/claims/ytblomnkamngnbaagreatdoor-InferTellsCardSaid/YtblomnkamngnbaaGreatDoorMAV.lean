/- Texts of this claim, merged: NodI, NodJ. -/
import Derived.Test.YtblomnkamngnbaaGreatDoorMAH
namespace Go.Proofs.YtblomnkamngnbaaGreatDoor
open Go.Sx Go.RowKit
attribute [local irreducible] Ylds zBA alex zBe zBP awp zAj zBZ zBk zBR zA8 zBV zBb zBf
def popF : List Int → List Int
  | 0 :: y :: r=>popF ((y - 1) :: r)
  | [0]=>[]
  | s=>s
termination_by s=>s.length
def zEm : List Nd → Int → List Int → Int
  | [],m,_=>m
  | x :: r,m,s=>zEm r (max m (s.length + 1)) (popF (x.kids :: s))
def zDu (L : List Nd) : Int:=if zCA L then zEm L 0 [] else 0
theorem zIN : (zBG Tryz.prog 52).isSome = true:=by rw [zA7];rfl
theorem zIC (y : Int) (r : List Int) : popF (0 :: y :: r) = popF ((y - 1) :: r):=by rw [popF]
theorem zM0 : popF [0] = []:=by rw [popF]
theorem zM1 : popF [] = []:=by rw [popF] <;> simp
theorem zG0 {y : Int} {r : List Int} (h : ¬ y = 0) : popF (y :: r) = y :: r:=by
  rw [popF]
  · rintro y' r' h1;injection h1 with h1;exact h h1
  · rintro h1;injection h1 with h1;exact h h1
def stk (s : List Int) (tl : List D) : List D:=s.reverse.map ival ++ tl
theorem zSS (y : Int) (r : List Int) (tl : List D) : (stk (y :: r) tl)[r.length]? = some (ival y):=by
  simp [stk]
theorem zS4 (y z : Int) (r : List Int) (tl : List D) : (stk (y :: r) tl).set r.length (ival z) = stk (z :: r) tl:=by
  simp [stk]
theorem zLz (y : Int) (r : List Int) (tl : List D) : stk (y :: r) tl = stk r (ival y :: tl):=by
  simp [stk]
theorem zO0 (y : Int) (r : List Int) (tl : List D) : (stk (y :: r) tl)[(((y :: r).length : Int) - 1).toNat]? = some (ival y):=by
  rw [show ((((y :: r).length : Nat) : Int) - 1).toNat = r.length by simp];exact zSS y r tl
theorem zS5 (y z : Int) (r : List Int) (tl : List D) : (stk (y :: z :: r) tl)[((((((y :: z :: r).length : Int) - 1).toNat : Nat) : Int) - 1).toNat]? = some (ival z):=by
  rw [show ((((((y :: z :: r).length : Int) - 1).toNat : Nat) : Int) - 1).toNat = r.length by simp,zLz];exact zSS z r _
theorem zQ8 (y z c : Int) (r : List Int) (tl : List D) : (stk (y :: z :: r) tl).set ((((((y :: z :: r).length : Int) - 1).toNat : Nat) : Int) - 1).toNat (ival c) = stk (c :: r) (ival y :: tl):=by
  rw [show ((((((y :: z :: r).length : Int) - 1).toNat : Nat) : Int) - 1).toNat = r.length by simp,zLz,zS4]
theorem zQ9 (y : Int) (r : List Int) (tl : List D) : (stk r tl).take r.length ++ [ival y] = stk (y :: r) []:=by
  have : (r.reverse.map ival ++ tl).take r.length = r.reverse.map ival:=by
    rw [List.take_append_of_le_length (by simp),List.take_of_length_le (by simp)]
  rw [stk,this];simp [stk]
theorem zL0 (r : List Int) (tl : List D) : r.length ≤ (stk r tl).length:=by simp [stk]
theorem zLY {n : Nat} : ∀ {l : List Nd} {o a : Int},0 ≤ a → zEH n l o a = a + l.length → l ≠ [] → ∀ x ∈ l,0 ≤ x.kids ∧ x.kids ≤ n
  | [],_,_,_,_,h=>absurd rfl h
  | y :: r,o,a,ha,h,_=>by
    unfold zEH at h
    intro x hx
    split at h
    · simp only [List.length_cons] at h;omega
    · rename_i hk
      split at h
      · rcases List.mem_cons.1 hx with rfl | hx
        · omega
        · refine zLY (o:=o + (y.kids - 1)) (a:=a + 1) (by omega) ?_ (List.ne_nil_of_mem hx) x hx
          rw [h];simp only [List.length_cons];omega
      · simp only [List.length_cons] at h
        have : r = []:=List.length_eq_zero_iff.1 (by omega)
        subst this
        rcases List.mem_cons.1 hx with rfl | hx
        · omega
        · cases hx
theorem zNs {L : List Nd} (hw : zCA L = true) (i : Nat) (v : Nd) (hv : L[i]? = some v) : 0 ≤ v.kids ∧ v.kids ≤ (L.length : Int):=by
  simp [zCA] at hw
  have h1 : zEH L.length L 1 0 = 0 + L.length:=by
    have:=hw.2;rw [endF,if_neg (by omega)] at this;simpa using this
  exact zLY (by omega) h1 (by rintro rfl;simp at hw) v (List.mem_of_getElem? hv)
set_option maxHeartbeats 4000000 in
theorem zT0 (L : List Nd) (hL : L.length ≤ 1000000) : zAj Tryz.prog 94 [zAc L] (i64 (zDu L)):=by
  refine zAd Tryz.func94 rfl Tryz.ntmps94 Tryz.results94 rfl ?_
  intro wb St0
  repeat' first | apply en_n|apply zAH|apply zAB|apply zAF|apply w0|(apply zAV (hb:=zFk) (hc:=zHu L (by omega)))|apply ay (hd:=rfl)|exact zAE rfl|exact zAC rfl|(apply zAl;exact rfl;(with_reducible exact zA0))|exact zBr rfl|exact zAb rfl|(apply zCc;exact rfl;(intro hb);rotate_left;(intro hb);rotate_right)|apply zAI|apply zAP|apply zAM|apply en_r|apply zAJ|(apply res1;exact rfl)|exact zAG|refine zAX rfl ?_
  · rw [zDu,if_neg (by simpa using hb)]
  · have hw : zCA L = true:=by simpa using hb
    have hkb:=zNs hw
    refine zCI 3 true 3 1 rfl rfl ?_
    refine zAr (α:=Nat × Int × List Int × List D) (fun p=>p.1 ≤ L.length ∧ zEm (L.drop p.1) p.2.1 p.2.2.1 = zDu L ∧ p.2.2.1.length ≤ p.1 ∧ (0 ≤ p.2.1 ∧ p.2.1 ≤ 1000001) ∧ ∀ e ∈ p.2.2.1, -(p.1 : Int) + p.2.2.1.length ≤ e ∧ e ≤ 1000000)
      (fun p=>[(3,.buf 0 p.2.2.1.length),(4,.d (i64 p.2.1)),(10,.d (zAc L)),(11,.d (i64 (L.length : Int))),(12,.d (i64 (p.1 : Int)))]) (fun p=>[.buf true 3 1 (stk p.2.2.1 p.2.2.2)]) (fun p=>L.length - p.1) (0,0,[],[]) ⟨Nat.zero_le _,by rw [zDu,if_pos hw];rfl,Nat.le_refl _,⟨Int.le_refl 0,by decide⟩,by simp⟩
      (zAO (zAA rfl (zAA rfl (zAA rfl (zAA rfl (zAA rfl zAa))))) (zAD rfl rfl zAN) rfl rfl) ?_
    rintro ⟨i,m,st,tl⟩ ⟨hi,hd,hs,hm,he⟩
    simp only at hi hd hs hm he ⊢
    repeat' first | apply en_n|apply zAH|apply zAB|apply zAF|apply w0|(apply zU4 (sz:=1) (mu:=true) (hd:=rfl) (hro:=rfl);exact rfl;exact rfl;rotate_left;exact (fun h=>nomatch h);exact zAk rfl;exact rfl;(with_reducible exact zC2);(with_reducible exact zA7);(with_reducible exact zIv);(with_reducible exact zHC);exact zCE rfl;rotate_right)|(apply aI (hd:=rfl);(first|exact zAk rfl|exact Co_bb rfl rfl rfl|exact Co_nn rfl);exact rfl;(with_reducible exact zAW);exact fun _=>rfl;rotate_left;intro v hv;rotate_right)|(apply zA4 (hd:=rfl) (hro:=rfl);(with_reducible exact zAp))|apply ay (hd:=rfl)|exact zAE rfl|exact zAC rfl|(apply zAf;exact rfl;(with_reducible exact zAY);exact rfl)|exact zCT rfl rfl|(apply zBC;exact rfl;exact rfl)|exact zU7 rfl rfl|exact zAw rfl|exact zAm rfl|(apply zCu;exact rfl;(with_reducible exact zBw))|(apply zAR;exact rfl;(with_reducible exact fn_3))|(apply zAU;exact rfl;(with_reducible exact zAs);exact rfl;exact rfl)|(apply zCC;(with_reducible exact zC2);(with_reducible exact zA7);(with_reducible exact zIu);exact rfl;exact rfl;(first|exact zAX rfl zAG|exact zC4 rfl rfl rfl zAG|exact zDG rfl zAG);exact rfl)|(refine w0' ?_)|(apply zAx;exact rfl;exact rfl;exact rfl;(with_reducible exact zAY);exact rfl;exact rfl;exact rfl;exact rfl)|(apply zAz;exact rfl;(intro hb);rotate_left;(intro hb);rotate_right)|apply zAI|apply zAP|apply zAM|apply zAt|apply en_e|apply eb_e|apply zAJ|(apply res1;exact rfl)
    · omega
    · omega
    · exact zL0 _ _
    · simp only [List.length_singleton];omega
    · simp only [List.length_singleton];omega
    · have hk:=hkb i v hv
      have hvi : L[i]? = some v:=hv
      have hout : ∀ s,popF s = popF (v.kids :: st) → popF s = s → zEm (L.drop (i + 1)) (max m ((st.length : Int) + 1)) s = zDu L:=by
        intro s h1 h2
        obtain ⟨hil,hev⟩:=List.getElem?_eq_some_iff.1 hvi
        rw [← hd,List.drop_eq_getElem_cons hil,hev,zEm, ← h1,h2]
      refine zAr (α:=List Int × List D) (fun p=>popF p.1 = popF (v.kids :: st) ∧ p.1.length ≤ i + 1 ∧ ∀ e ∈ p.1, -((i : Int) + 1) + p.1.length ≤ e ∧ e ≤ 1000000)
        (fun p=>[(3,.buf 0 p.1.length),(4,.d (i64 (max m ((st.length : Int) + 1)))),(10,.d (zAc L)),(11,.d (i64 (L.length : Int))),(12,.d (i64 (i : Int)))]) (fun p=>[.buf true 3 1 (stk p.1 p.2)]) (fun p=>p.1.length) (v.kids :: st,[]) ⟨rfl,by simp only [List.length_cons];omega,?_⟩
        (zAO (zBt rfl rfl (zAA rfl (zAA rfl (zAA rfl (zAA rfl zAa))))) (zAu rfl rfl (zQ9 _ _ _).symm zAN) rfl rfl) ?_
      · intro e he'
        rcases List.mem_cons.1 he' with rfl | he'
        · simp only [List.length_cons];omega
        · have:=he e he';simp only [List.length_cons];omega
      rintro ⟨s,tl'⟩ ⟨hp,hl,hb'⟩
      simp only at hp hl hb' ⊢
      rcases s with _ | ⟨y,_ | ⟨z,r⟩⟩
      · skip
        repeat' first | apply en_n|apply zAH|apply zAB|apply zAF|apply w0|apply ay (hd:=rfl)|exact zAE rfl|exact zEp rfl rfl|(apply zBC;exact rfl;exact rfl)|exact zAh rfl rfl|exact zAw rfl|(apply zCu;exact rfl;(with_reducible exact zBw))|(apply k1 (hd:=rfl);exact rfl;exact rfl)|(apply zAQ;exact rfl)|apply zAt|apply en_e|apply eb_n|apply eb_e
        · omega
        · refine ⟨(i + 1,max m ((st.length : Int) + 1),[],tl'),⟨by simp only;omega,hout _ hp zM1,hl,⟨by simp only;omega,by simp only;omega⟩,fun e h0=>by have:=hb' e h0;simp only;omega⟩,by simp only;omega,zAO (zAA rfl (zAA rfl (zAA rfl (zAA rfl (zAA rfl zAa))))) (zAD rfl rfl zAN) rfl rfl⟩
      · have hsl:=zL0 [y] tl'
        have hy:=hb' y (by simp)
        repeat' first | apply en_n|apply zAH|apply zAB|apply zAF|apply w0|(refine zMW (hro:=rfl) rfl rfl rfl (by with_reducible exact zAs) rfl rfl ?_ ?_)|(refine zDi rfl rfl rfl (by with_reducible exact zA7) ?_ ?_)|(refine zEN rfl (by with_reducible exact zAs) rfl (zO0 _ _ _) rfl)|(refine zQf rfl (by with_reducible exact zIN) rfl ?_ ⟨_,_,_,_,rfl,?_⟩)|apply ay (hd:=rfl)|exact zAE rfl|exact zEp rfl rfl|exact zC6 rfl rfl|(apply zBC;exact rfl;exact rfl)|(apply zIt;exact rfl;exact rfl)|exact zAi rfl rfl|exact zAw rfl|exact zAm rfl|(apply zCu;exact rfl;(with_reducible exact zBw))|(apply w1;exact rfl;exact rfl)|(refine w0' ?_)|(apply zAz;exact rfl;(intro hb);rotate_left;(intro hb);rotate_right)|apply zAI|apply zAP|apply zAt|apply en_e|apply eb_n|apply eb_e
        all_goals try (simp only [List.length_cons,List.length_nil] at *;omega)
        · rename_i hy0
          refine ⟨([],ival y :: tl'),⟨by rw [← hp,hy0,zM0,zM1],Nat.zero_le _,by simp⟩,by simp,zAO (zBt rfl rfl (zAA rfl (zAA rfl (zAA rfl (zAA rfl zAa))))) (zAu rfl rfl (zLz y [] tl').symm zAN) rfl rfl⟩
        · refine ⟨(i + 1,max m ((st.length : Int) + 1),[y],tl'),⟨by simp only;omega,hout _ hp (zG0 hb),hl,⟨by simp only;omega,by simp only;omega⟩,fun e h0=>by have:=hb' e h0;simp only;omega⟩,by simp only;omega,zAO (zAA rfl (zAA rfl (zAA rfl (zAA rfl (zAA rfl zAa))))) (zAD rfl rfl zAN) rfl rfl⟩
      · have hsl:=zL0 (y :: z :: r) tl'
        have hy:=hb' y (by simp)
        have hz:=hb' z (by simp)
        repeat' first | apply en_n|apply zAH|apply zAB|apply zAF|apply w0|(refine zMW (hro:=rfl) rfl rfl rfl (by with_reducible exact zAs) rfl rfl ?_ ?_)|(refine zDi rfl rfl rfl (by with_reducible exact zA7) ?_ ?_)|(refine zEN rfl (by with_reducible exact zAs) rfl (zO0 _ _ _) rfl)|(refine zEN rfl (by with_reducible exact zAs) rfl (zS5 _ _ _ _) rfl)|(refine zQf rfl (by with_reducible exact zIN) rfl ?_ ⟨_,_,_,_,rfl,?_⟩)|apply ay (hd:=rfl)|exact zAE rfl|exact zEp rfl rfl|exact zC6 rfl rfl|(apply zBC;exact rfl;exact rfl)|(apply zIt;exact rfl;exact rfl)|exact zAi rfl rfl|exact zAh rfl rfl|exact zAw rfl|exact zAm rfl|(apply zCu;exact rfl;(with_reducible exact zBw))|(apply w1;exact rfl;exact rfl)|(apply k1 (hd:=rfl);exact rfl;exact rfl)|(apply gD;exact rfl;exact rfl;(intro hb);rotate_left;(intro hb);rotate_right)|(refine w0' ?_)|(apply zAz;exact rfl;(intro hb);rotate_left;(intro hb);rotate_right)|(apply zAQ;exact rfl)|apply zAI|apply zAP|apply zAt|apply en_e|apply eb_n|apply eb_e
        all_goals try (simp only [List.length_cons] at *;omega)
        · rename_i hy0
          refine ⟨((z - 1) :: r,ival y :: tl'),⟨?_,?_,?_⟩,by simp,zAO (zBt rfl ?_ (zAA rfl (zAA rfl (zAA rfl (zAA rfl zAa))))) (zAu rfl rfl (zQ8 y z (z - 1) r tl').symm zAN) rfl rfl⟩
          · rw [← hp,hy0,zIC]
          · simp only [List.length_cons] at *;omega
          · intro e h0
            rcases List.mem_cons.1 h0 with rfl | h0
            · simp only [List.length_cons] at *;omega
            · have:=hb' e (by simp [h0]);simp only [List.length_cons] at *;omega
          · simp only [List.length_cons];omega
        · refine ⟨(i + 1,max m ((st.length : Int) + 1),y :: z :: r,tl'),⟨by simp only;omega,hout _ hp (zG0 hb),hl,⟨by simp only;omega,by simp only;omega⟩,fun e h0=>by have:=hb' e h0;simp only;omega⟩,by simp only;omega,zAO (zAA rfl (zAA rfl (zAA rfl (zAA rfl (zAA rfl zAa))))) (zAD rfl rfl zAN) rfl rfl⟩
    · rw [← hd,List.drop_of_length_le (by omega)];rfl
def zDH (L : List Nd) : Nat → Int → Int
  | 0,_=>1
  | n + 1,a=>(zBX L a).foldl (fun m k=>max m (zDH L n k)) 0 + 1
theorem zKo (L : List Nd) : ∀ (n : Nat) (a : Int),1 ≤ zDH L n a ∧ zDH L n a ≤ n + 1
  | 0,a=>by simp [zDH]
  | n + 1,a=>by
    have h : ∀ (ks : List Int) (m : Int),0 ≤ m → m ≤ n + 1 → 0 ≤ ks.foldl (fun m k=>max m (zDH L n k)) m ∧ ks.foldl (fun m k=>max m (zDH L n k)) m ≤ n + 1:=by
      intro ks
      induction ks with
      | nil=>intro m h1 h2;exact ⟨h1,h2⟩
      | cons k ks ih =>
        intro m h1 h2
        have:=zKo L n k
        have h3 : 0 ≤ max m (zDH L n k):=by omega
        have h4 : max m (zDH L n k) ≤ n + 1:=by omega
        exact ih _ h3 h4
    have:=h (zBX L a) 0 (by omega) (by omega)
    rw [zDH];push_cast;omega
theorem zUS {L : List Nd} {a k : Int} (h : k ∈ zBX L a) : a < k:=by
  unfold zBX at h
  split at h
  · cases h
  · rename_i h1
    obtain ⟨n,x,hak,hx,h0,h1',he,hn,hf⟩:=zK2 h1
    rw [hn] at h
    obtain ⟨i,hi,rfl⟩:=List.mem_map.1 h
    rw [List.mem_range] at hi
    have : 0 ≤ seqE L (a + 1) i:=by
      rcases Int.lt_or_le (seqE L (a + 1) i) 0 with h4 | h4
      · have:=zGI (j:=x.kids.toNat) h4 (by omega);omega
      · exact h4
    have:=zH5 this;omega
theorem zPd {L : List Nd} {a : Int} (h : (L.length : Int) ≤ a) : zBX L a = []:=by
  rw [zBX,if_pos];rw [zHq (.inr h)];omega
theorem zJO {α β : Type} (f : β → α → β) (b : β) {l : List α} {i : Nat} {v : α} (h : l[i]? = some v) : (l.take (i + 1)).foldl f b = f ((l.take i).foldl f b) v:=by
  rw [List.take_add_one,h,List.foldl_append];rfl
theorem zRL (L : List Nd) (hL : L.length ≤ 1000000) : ∀ (m : Nat) (at_ : Int),m ≤ 2000000 → (L.length : Int) - at_ ≤ m → zAj Tryz.prog 24 [zAc L,i64 at_] (i64 (zDH L (m + 1) at_)):=by
  intro m
  induction m with
  | zero =>
    intro at_ _ hm
    refine zAd Tryz.func24 rfl Tryz.ntmps24 Tryz.results24 rfl ?_
    intro wb St0
    have hk:=zPd (L:=L) (a:=at_) (by omega)
    repeat' first | apply en_n|apply zAH|apply zAB|apply zAF|apply w0|(apply zAV (hb:=zEw) (hc:=zEt L _ (by omega)))|apply ay (hd:=rfl)|exact zAE rfl|exact zAC rfl|apply zAI|exact zAG|refine zAX rfl ?_
    rw [hk]
    refine zAr (α:=Unit) (fun _=>True) (fun _=>[(0,.d (zAc L)),(1,.d (i64 at_)),(5,.d (i64 0)),(6,.d (zBm [])),(7,.d (i64 0))]) (fun _=>[]) (fun _=>0) () trivial
      (zAO (zAA rfl (zAA rfl (zAA rfl (zAA rfl (zAA rfl zAa))))) zAN rfl rfl) ?_
    intro _ _
    repeat' first | apply en_n|apply zAH|apply zAB|apply zAF|apply w0|(exfalso;simp at hv;done)|(apply aI (hd:=rfl);(first|exact zAk rfl|exact Co_bb rfl rfl rfl|exact Co_nn rfl);exact rfl;(with_reducible exact zA7);exact fun _=>rfl;rotate_left;intro v hv;rotate_right)|apply ay (hd:=rfl)|exact zAE rfl|exact zAC rfl|(apply zAl;exact rfl;(with_reducible exact zBw))|exact zCT rfl rfl|(apply zBC;exact rfl;exact rfl)|(apply zAz;exact rfl;(intro hb);rotate_left;(intro hb);rotate_right)|apply zAI|apply zAP|apply zAM|apply zAt|apply en_e|apply eb_e|apply zAJ|(apply res1;exact rfl)
    · simp at hb
    · decide
    show _ = i64 ((zBX L at_).foldl (fun m k=>max m (zDH L 0 k)) 0 + 1)
    rw [hk];rfl
  | succ m ih =>
    intro at_ hm2 hm
    refine zAd Tryz.func24 rfl Tryz.ntmps24 Tryz.results24 rfl ?_
    intro wb St0
    repeat' first | apply en_n|apply zAH|apply zAB|apply zAF|apply w0|(apply zAV (hb:=zEw) (hc:=zEt L _ (by omega)))|apply ay (hd:=rfl)|exact zAE rfl|exact zAC rfl|apply zAI|exact zAG|refine zAX rfl ?_
    have hkl : (zBX L at_).length ≤ 1000000:=by
      rcases Int.lt_or_le (endF L at_) 0 with h | h
      · rw [zBX,if_pos h];exact Nat.zero_le _
      · obtain ⟨k,x,hak,hx,h0,h1,he,hn,hf⟩:=zK2 (L:=L) (a:=at_) (by omega)
        rw [hf,List.length_map,List.length_range];omega
    refine zAr (α:=Nat) (fun j=>j ≤ (zBX L at_).length ∧ 0 ≤ ((zBX L at_).take j).foldl (fun m' k=>max m' (zDH L (m + 1) k)) 0 ∧ ((zBX L at_).take j).foldl (fun m' k=>max m' (zDH L (m + 1) k)) 0 ≤ 2000003) (fun j=>[(0,.d (zAc L)),(1,.d (i64 at_)),(5,.d (i64 (((zBX L at_).take j).foldl (fun m' k=>max m' (zDH L (m + 1) k)) 0))),(6,.d (zBm (zBX L at_))),(7,.d (i64 (j : Int)))]) (fun _=>[]) (fun j=>(zBX L at_).length - j) 0 ⟨Nat.zero_le _,Int.le_refl 0,by simp⟩
      (zAO (zAA rfl (zAA rfl (zAA rfl (zAA rfl (zAA rfl zAa))))) zAN rfl rfl) ?_
    rintro j ⟨hj,hj0,hj1⟩
    repeat' first | apply en_n|apply zAH|apply zAB|apply zAF|apply w0|(refine zAV zGZ (ih _ (by omega) ?_) (zAX rfl (zAX rfl zAG)))|(apply aI (hd:=rfl);(first|exact zAk rfl|exact Co_bb rfl rfl rfl|exact Co_nn rfl);exact rfl;(with_reducible exact zA7);exact fun _=>rfl;rotate_left;intro v hv;rotate_right)|apply ay (hd:=rfl)|exact zAE rfl|exact zAC rfl|(apply zAg;exact rfl;(with_reducible exact zAs))|(apply zAl;exact rfl;(with_reducible exact zBw))|exact zCT rfl rfl|exact zEp rfl rfl|(apply zBC;exact rfl;exact rfl)|(apply zAz;exact rfl;(intro hb);rotate_left;(intro hb);rotate_right)|apply zAI|apply zAP|apply zAM|apply zAt|apply en_e|apply eb_n|apply eb_e|apply zAJ|(apply res1;exact rfl)
    · omega
    · have:=zUS (List.mem_of_getElem? hv);omega
    · omega
    · have hf:=zJO (fun m' k=>max m' (zDH L (m + 1) k)) 0 (i:=j) hv
      have h5:=zKo L (m + 1) v
      refine ⟨j + 1,⟨by omega,?_,?_⟩,by omega,zAO (zAA rfl (zAA rfl (Le_d rfl ?_ (zAA rfl (zAA rfl zAa))))) zAN rfl rfl⟩
      · rw [hf];show 0 ≤ max _ _;omega
      · rw [hf];show max _ _ ≤ _;omega
      · rw [hf];show D.val (.int .i64 (max _ _)) = _;rw [Int.max_eq_right (by omega)]
    · omega
    · have hf:=zJO (fun m' k=>max m' (zDH L (m + 1) k)) 0 (i:=j) hv
      refine ⟨j + 1,⟨by omega,?_,?_⟩,by omega,zAO (zAA rfl (zAA rfl (Le_d rfl ?_ (zAA rfl (zAA rfl zAa))))) zAN rfl rfl⟩
      · rw [hf];show 0 ≤ max _ _;omega
      · rw [hf];show max _ _ ≤ _;omega
      · rw [hf];show D.val (.int .i64 (max _ _)) = _;rw [Int.max_eq_left (by omega)]
    · omega
    · rw [show j = (zBX L at_).length by omega,List.take_length];rfl
end Go.Proofs.YtblomnkamngnbaaGreatDoor
namespace Go.Proofs.YtblomnkamngnbaaGreatDoor
inductive FD : List Nd → Nat → Nat → Prop
  | nil : FD [] 0 0
  | cons (x : Nd) (ks r : List Nd) (n j d e : Nat) (hx : x.kids = n) (h1 : FD ks n d) (h2 : FD r j e) : FD (x :: (ks ++ r)) (j + 1) (max (d + 1) e)
theorem FD.zero {l : List Nd} {d : Nat} (h : FD l 0 d) : l = [] ∧ d = 0:=by
  cases h;exact ⟨rfl,rfl⟩
theorem zTy : ∀ (N : Nat) {l : List Nd} {j k : Nat},l.length ≤ N → cns l j = some k → ∃ d,FD (l.take k) j d
  | N,l,0,k,_,h=>by rw [zDv] at h;injection h with h;subst h;exact ⟨0,.nil⟩
  | N,[],j + 1,k,_,h=>by cases h
  | 0,x :: r,j + 1,k,hN,h=>by simp at hN
  | N + 1,x :: r,j + 1,k,hN,h=>by
    rw [zCl] at h
    split at h
    · cases h
    · rename_i h0
      rw [Nat.add_comm j,zHB] at h
      cases h1 : cns r x.kids.toNat with
      | none=>rw [h1] at h;cases h
      | some k1 =>
        rw [h1] at h;simp only [Option.bind_some] at h
        cases h2 : cns (r.drop k1) j with
        | none=>rw [h2] at h;cases h
        | some k2 =>
          rw [h2] at h;simp only [Option.map_some,Option.some.injEq] at h;subst h
          simp only [List.length_cons] at hN
          obtain ⟨d,f1⟩:=zTy N (by omega) h1
          obtain ⟨e,f2⟩:=zTy N (by rw [List.length_drop];omega) h2
          refine ⟨max (d + 1) e,?_⟩
          rw [List.take_succ_cons,Nat.add_comm k2 k1,List.take_add]
          exact .cons x _ _ _ _ d e (by omega) f1 f2
theorem FD.append {l : List Nd} {a d : Nat} (h : FD l a d) {r : List Nd} {b e : Nat} (hr : FD r b e) : FD (l ++ r) (a + b) (max d e):=by
  induction h with
  | nil=>simpa using hr
  | cons x ks r' n j d' e' hx h1 h2 _ ih2 =>
    have:=FD.cons x ks (r' ++ r) n (j + b) d' (max e' e) hx h1 ih2
    rw [List.cons_append,List.append_assoc,show j + 1 + b = j + b + 1 by omega,show max (max (d' + 1) e') e = max (d' + 1) (max e' e) by omega]
    exact this
theorem zMO {l : List Nd} {j d : Nat} (h : FD l j d) : ∀ (R : List Nd) (m y : Int) (s : List Int),(j : Int) ≤ y → 1 ≤ y → (s.length : Int) + 1 ≤ m → zEm (l ++ R) m (y :: s) = zEm R (max m ((s.length : Int) + 1 + d)) (popF ((y - j) :: s)):=by
  induction h with
  | nil =>
    intro R m y s _ h2 h3
    rw [List.nil_append,zG0 (by omega)]
    congr 1
    · omega
    · simp
  | cons x ks r n j d e hx h1 h2 ih1 ih2 =>
    intro R m y s hj hy hm
    have htail : ∀ m',(s.length : Int) + 1 ≤ m' → zEm (r ++ R) m' (popF ((y - 1) :: s)) = zEm R (max m' ((s.length : Int) + 1 + e)) (popF ((y - 1 - j) :: s)):=by
      intro m' hm'
      by_cases hz : y - 1 = 0
      · have hj0 : j = 0:=by omega
        subst hj0
        obtain ⟨rfl,rfl⟩:=h2.zero
        rw [List.nil_append];congr 1
        · omega
        · simp
      · rw [zG0 hz]
        exact ih2 R m' (y - 1) s (by omega) (by omega) hm'
    rw [List.cons_append,zEm,List.append_assoc,List.length_cons,hx]
    by_cases hn : n = 0
    · subst hn
      obtain ⟨rfl,rfl⟩:=h1.zero
      rw [List.nil_append,show ((0 : Nat) : Int) = 0 from rfl,zIC,htail _ (by omega)]
      congr 1
      · omega
      · congr 2;omega
    · rw [zG0 (by omega),ih1 (r ++ R) _ n (y :: s) (by omega) (by omega) (by simp only [List.length_cons];omega),show (n : Int) - n = 0 by omega,zIC,htail _ (by omega),List.length_cons]
      congr 1
      · omega
      · congr 2;omega
theorem zJV {T : List Nd} {d : Nat} (hw : zCA T = true) (h : FD T 1 d) : zDu T = d:=by
  rw [zDu,if_pos hw]
  cases h with
  | cons x ks r n j d e hx h1 h2 =>
    obtain ⟨rfl,rfl⟩:=h2.zero
    rw [List.append_nil,zEm,hx]
    by_cases hn : n = 0
    · subst hn
      obtain ⟨rfl,rfl⟩:=h1.zero
      rw [show ((0 : Nat) : Int) = 0 from rfl,zM0,zEm];rfl
    · have:=zMO h1 [] (max 0 (([] : List Int).length + 1)) n [] (by omega) (by omega) (by simp only [List.length_nil];omega)
      rw [List.append_nil] at this
      rw [zG0 (by omega),this,zEm];simp;omega
def mxF (KK : List (List Nd)) : Int:=KK.foldl (fun m K=>max m (zDu K)) 0
theorem zLP : ∀ (KK : List (List Nd)),(∀ K ∈ KK,zCA K = true) → ∃ d : Nat,FD KK.flatten KK.length d ∧ ∀ m : Int,0 ≤ m → KK.foldl (fun m K=>max m (zDu K)) m = max m d
  | [],_=>⟨0,.nil,fun m hm=>by simp;omega⟩
  | K :: KK,h=>by
    have hK:=h K (by simp)
    obtain ⟨d,hd⟩:=zTy K.length (Nat.le_refl _) ((zDb K).1 hK)
    rw [List.take_length] at hd
    obtain ⟨e,he,hf⟩:=zLP KK (fun K' hK'=>h K' (by simp [hK']))
    refine ⟨max d e,?_,fun m hm=>?_⟩
    · rw [List.flatten_cons,List.length_cons,Nat.add_comm];exact hd.append he
    · rw [List.foldl_cons,zJV hK hd,hf _ (by omega)];omega
theorem zQG {T : List Nd} {x : Nd} {KK : List (List Nd)} (hT : T = x :: KK.flatten) (hx : x.kids = KK.length) (hw : ∀ K ∈ KK,zCA K = true) : zDu T = mxF KK + 1 ∧ zCA T = true:=by
  obtain ⟨d,hd,hf⟩:=zLP KK hw
  have hn : Node T 0 x KK []:=⟨by rw [List.drop_zero,hT,List.append_nil],hx,fun K hK=>(zDb K).1 (hw K hK)⟩
  have hwT : zCA T = true:=by
    have:=hn.cnsEq
    rw [List.drop_zero] at this
    rw [zDb,this,hT];rfl
  have h1:=FD.cons x KK.flatten [] KK.length 0 d 0 hx hd .nil
  rw [List.append_nil, ← hT] at h1
  rw [zJV hwT h1,mxF,hf 0 (Int.le_refl 0)]
  exact ⟨by omega,hwT⟩
theorem zMw {L : List Nd} : ∀ (n a k : Nat),cns (L.drop a) 1 = some k → L.length < n + a → zDH L n (a : Int) = zDu ((L.drop a).take k)
  | 0,a,k,h,hn=>by rw [List.drop_of_length_le (by omega)] at h;cases h
  | n + 1,a,k,h,hn=>by
    obtain ⟨x,KK,R,hN,rfl⟩:=zMA h
    have hT : (L.drop a).take (KK.flatten.length + 1) = x :: KK.flatten:=by rw [hN.drop,List.take_succ_cons,List.take_left]
    rw [(zQG hT hN.kids (fun K hK=>(zDb K).2 (hN.whole K hK))).1,mxF,zDH,hN.kidsEq]
    have key : ∀ (KK : List (List Nd)) (b : Nat) (R : List Nd) (m : Int),L.drop b = KK.flatten ++ R → (∀ K ∈ KK,cns K 1 = some K.length) → L.length < n + b →
        (zI2 (b : Int) KK).foldl (fun m k=>max m (zDH L n k)) m = KK.foldl (fun m K=>max m (zDu K)) m:=by
      intro KK
      induction KK with
      | nil=>intros;rfl
      | cons K KK ih =>
        intro b R m hd hw hb
        have h1 : cns (L.drop b) 1 = some K.length:=by
          rw [hd,List.flatten_cons,List.append_assoc];exact zC3 _ (hw K (by simp))
        have h2:=zMw n b K.length h1 hb
        rw [hd,List.flatten_cons,List.append_assoc,List.take_left] at h2
        rw [zI2,List.foldl_cons,List.foldl_cons,h2,show (b : Int) + (K.length : Nat) = ((b + K.length : Nat) : Int) by omega]
        refine ih (b + K.length) R _ ?_ (fun K' hK'=>hw K' (by simp [hK'])) (by omega)
        rw [← List.drop_drop,hd,List.flatten_cons,List.append_assoc,List.drop_left]
    have:=key KK (a + 1) R 0 hN.next hN.whole (by omega)
    rw [show ((a + 1 : Nat) : Int) = (a : Int) + 1 by omega] at this
    rw [this]
theorem zL8 {L : List Nd} (hw : zCA L = true) {n : Nat} (hn : L.length < n) : zDH L n 0 = zDu L:=by
  have:=zMw (L:=L) n 0 L.length (by rw [List.drop_zero];exact (zDb L).1 hw) (by omega)
  rw [List.drop_zero,List.take_length] at this
  exact this
end Go.Proofs.YtblomnkamngnbaaGreatDoor

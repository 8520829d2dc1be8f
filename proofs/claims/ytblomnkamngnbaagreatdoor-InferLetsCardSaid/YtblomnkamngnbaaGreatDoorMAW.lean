/- Texts of this claim, merged: NodI, NodJ. -/
import Derived.Test.YtblomnkamngnbaaGreatDoorMAD
namespace Go.Proofs.YtblomnkamngnbaaGreatDoor
open Go.Sx Go.RowKit
attribute [local irreducible] Ylds zA3 alex zBY zBN awp zAm zBT zBe zBP zA2 zBR zBX zBa
def popF : List Int → List Int
  | 0 :: y :: r=>popF ((y - 1) :: r)
  | [0]=>[]
  | s=>s
termination_by s=>s.length
def zEx : List Nd → Int → List Int → Int
  | [],m,_=>m
  | x :: r,m,s=>zEx r (max m (s.length + 1)) (popF (x.kids :: s))
def zEN (L : List Nd) : Int:=if zCH L then zEx L 0 [] else 0
theorem zIc : (zA9 Tryz.prog 52).isSome = true:=by rw [zBD];rfl
theorem zIP (y : Int) (r : List Int) : popF (0 :: y :: r) = popF ((y - 1) :: r):=by rw [popF]
theorem zNf : popF [0] = []:=by rw [popF]
theorem zNg : popF [] = []:=by rw [popF] <;> simp
theorem zHO {y : Int} {r : List Int} (h : ¬ y = 0) : popF (y :: r) = y :: r:=by
  rw [popF]
  · rintro y' r' h1;injection h1 with h1;exact h h1
  · rintro h1;injection h1 with h1;exact h h1
def stk (s : List Int) (tl : List D) : List D:=s.reverse.map ival ++ tl
theorem zTY (y : Int) (r : List Int) (tl : List D) : (stk (y :: r) tl)[r.length]? = some (ival y):=by
  simp [stk]
theorem zUF (y z : Int) (r : List Int) (tl : List D) : (stk (y :: r) tl).set r.length (ival z) = stk (z :: r) tl:=by
  simp [stk]
theorem zMU (y : Int) (r : List Int) (tl : List D) : stk (y :: r) tl = stk r (ival y :: tl):=by
  simp [stk]
theorem zPl (y : Int) (r : List Int) (tl : List D) : (stk (y :: r) tl)[(((y :: r).length : Int) - 1).toNat]? = some (ival y):=by
  rw [show ((((y :: r).length : Nat) : Int) - 1).toNat = r.length by simp];exact zTY y r tl
theorem zUG (y z : Int) (r : List Int) (tl : List D) : (stk (y :: z :: r) tl)[((((((y :: z :: r).length : Int) - 1).toNat : Nat) : Int) - 1).toNat]? = some (ival z):=by
  rw [show ((((((y :: z :: r).length : Int) - 1).toNat : Nat) : Int) - 1).toNat = r.length by simp,zMU];exact zTY z r _
theorem zR7 (y z c : Int) (r : List Int) (tl : List D) : (stk (y :: z :: r) tl).set ((((((y :: z :: r).length : Int) - 1).toNat : Nat) : Int) - 1).toNat (ival c) = stk (c :: r) (ival y :: tl):=by
  rw [show ((((((y :: z :: r).length : Int) - 1).toNat : Nat) : Int) - 1).toNat = r.length by simp,zMU,zUF]
theorem zR8 (y : Int) (r : List Int) (tl : List D) : (stk r tl).take r.length ++ [ival y] = stk (y :: r) []:=by
  have : (r.reverse.map ival ++ tl).take r.length = r.reverse.map ival:=by
    rw [List.take_append_of_le_length (by simp),List.take_of_length_le (by simp)]
  rw [stk,this];simp [stk]
theorem zMV (r : List Int) (tl : List D) : r.length ≤ (stk r tl).length:=by simp [stk]
theorem zL1 {n : Nat} : ∀ {l : List Nd} {o a : Int},0 ≤ a → zDn n l o a = a + l.length → l ≠ [] → ∀ x ∈ l,0 ≤ x.kids ∧ x.kids ≤ n
  | [],_,_,_,_,h=>absurd rfl h
  | y :: r,o,a,ha,h,_=>by
    unfold zDn at h
    intro x hx
    split at h
    · simp only [List.length_cons] at h;omega
    · rename_i hk
      split at h
      · rcases List.mem_cons.1 hx with rfl | hx
        · omega
        · refine zL1 (o:=o + (y.kids - 1)) (a:=a + 1) (by omega) ?_ (List.ne_nil_of_mem hx) x hx
          rw [h];simp only [List.length_cons];omega
      · simp only [List.length_cons] at h
        have : r = []:=List.length_eq_zero_iff.1 (by omega)
        subst this
        rcases List.mem_cons.1 hx with rfl | hx
        · omega
        · cases hx
theorem zOX {L : List Nd} (hw : zCH L = true) (i : Nat) (v : Nd) (hv : L[i]? = some v) : 0 ≤ v.kids ∧ v.kids ≤ (L.length : Int):=by
  simp [zCH] at hw
  have h1 : zDn L.length L 1 0 = 0 + L.length:=by
    have:=hw.2;rw [endF,if_neg (by omega)] at this;simpa using this
  exact zL1 (by omega) h1 (by rintro rfl;simp at hw) v (List.mem_of_getElem? hv)
set_option maxHeartbeats 4000000 in
theorem zU6 (L : List Nd) (hL : L.length ≤ 1000000) : zAm Tryz.prog 94 [zAc L] (i64 (zEN L)):=by
  refine zAd Tryz.func94 rfl Tryz.ntmps94 Tryz.results94 rfl ?_
  intro wb St0
  repeat' first | apply en_n|apply zAH|apply zAC|apply zAF|apply w0|(apply zAX (hb:=zF8) (hc:=zH6 L (by omega)))|apply ay (hd:=rfl)|exact zAE rfl|exact zAD rfl|(apply zAr;exact rfl;(with_reducible exact zA7))|exact zCS rfl|exact zAY rfl|(apply zDB;exact rfl;(intro hb);rotate_left;(intro hb);rotate_right)|apply zAJ|apply zAT|apply zAN|apply en_r|apply zAP|(apply res1;exact rfl)|exact zAG|refine zAZ rfl ?_
  · rw [zEN,if_neg (by simpa using hb)]
  · have hw : zCH L = true:=by simpa using hb
    have hkb:=zOX hw
    refine zCO 3 true 3 1 rfl rfl ?_
    refine zAs (α:=Nat × Int × List Int × List D) (fun p=>p.1 ≤ L.length ∧ zEx (L.drop p.1) p.2.1 p.2.2.1 = zEN L ∧ p.2.2.1.length ≤ p.1 ∧ (0 ≤ p.2.1 ∧ p.2.1 ≤ 1000001) ∧ ∀ e ∈ p.2.2.1, -(p.1 : Int) + p.2.2.1.length ≤ e ∧ e ≤ 1000000)
      (fun p=>[(3,.buf 0 p.2.2.1.length),(4,.d (i64 p.2.1)),(10,.d (zAc L)),(11,.d (i64 (L.length : Int))),(12,.d (i64 (p.1 : Int)))]) (fun p=>[.buf true 3 1 (stk p.2.2.1 p.2.2.2)]) (fun p=>L.length - p.1) (0,0,[],[]) ⟨Nat.zero_le _,by rw [zEN,if_pos hw];rfl,Nat.le_refl _,⟨Int.le_refl 0,by decide⟩,by simp⟩
      (zAL (zAA rfl (zAA rfl (zAA rfl (zAA rfl (zAA rfl zAW))))) (zAB rfl rfl zAK) rfl rfl) ?_
    rintro ⟨i,m,st,tl⟩ ⟨hi,hd,hs,hm,he⟩
    simp only at hi hd hs hm he ⊢
    repeat' first | apply en_n|apply zAH|apply zAC|apply zAF|apply w0|(apply zV5 (sz:=1) (mu:=true) (hd:=rfl) (hro:=rfl);exact rfl;exact rfl;rotate_left;exact (fun h=>nomatch h);exact zAn rfl;exact rfl;(with_reducible exact zDh);(with_reducible exact zBD);(with_reducible exact zKv);(with_reducible exact zI0);exact zCP rfl;rotate_right)|(apply aI (hd:=rfl);(first|exact zAn rfl|exact Co_bb rfl rfl rfl|exact Co_nn rfl);exact rfl;(with_reducible exact zAa);exact fun _=>rfl;rotate_left;intro v hv;rotate_right)|(apply zBE (hd:=rfl) (hro:=rfl);(with_reducible exact zAp))|apply ay (hd:=rfl)|exact zAE rfl|exact zAD rfl|(apply zAf;exact rfl;(with_reducible exact zAb);exact rfl)|exact zDG rfl rfl|(apply zBG;exact rfl;exact rfl)|exact zV8 rfl rfl|exact zAt rfl|exact zAj rfl|(apply zC3;exact rfl;(with_reducible exact zCU))|(apply zAS;exact rfl;(with_reducible exact fn_3))|(apply zAV;exact rfl;(with_reducible exact zAz);exact rfl;exact rfl)|(apply zCD;(with_reducible exact zDh);(with_reducible exact zBD);(with_reducible exact zNE);exact rfl;exact rfl;(first|exact zAZ rfl zAG|exact zCo rfl rfl rfl zAG|exact zCs rfl zAG);exact rfl)|(refine w0' ?_)|(apply zA0;exact rfl;exact rfl;exact rfl;(with_reducible exact zAb);exact rfl;exact rfl;exact rfl;exact rfl)|(apply zA1;exact rfl;(intro hb);rotate_left;(intro hb);rotate_right)|apply zAJ|apply zAT|apply zAN|apply zAu|apply en_e|apply eb_e|apply zAP|(apply res1;exact rfl)
    · omega
    · omega
    · exact zMV _ _
    · simp only [List.length_singleton];omega
    · simp only [List.length_singleton];omega
    · have hk:=hkb i v hv
      have hvi : L[i]? = some v:=hv
      have hout : ∀ s,popF s = popF (v.kids :: st) → popF s = s → zEx (L.drop (i + 1)) (max m ((st.length : Int) + 1)) s = zEN L:=by
        intro s h1 h2
        obtain ⟨hil,hev⟩:=List.getElem?_eq_some_iff.1 hvi
        rw [← hd,List.drop_eq_getElem_cons hil,hev,zEx, ← h1,h2]
      refine zAs (α:=List Int × List D) (fun p=>popF p.1 = popF (v.kids :: st) ∧ p.1.length ≤ i + 1 ∧ ∀ e ∈ p.1, -((i : Int) + 1) + p.1.length ≤ e ∧ e ≤ 1000000)
        (fun p=>[(3,.buf 0 p.1.length),(4,.d (i64 (max m ((st.length : Int) + 1)))),(10,.d (zAc L)),(11,.d (i64 (L.length : Int))),(12,.d (i64 (i : Int)))]) (fun p=>[.buf true 3 1 (stk p.1 p.2)]) (fun p=>p.1.length) (v.kids :: st,[]) ⟨rfl,by simp only [List.length_cons];omega,?_⟩
        (zAL (zBs rfl rfl (zAA rfl (zAA rfl (zAA rfl (zAA rfl zAW))))) (zAl rfl rfl (zR8 _ _ _).symm zAK) rfl rfl) ?_
      · intro e he'
        rcases List.mem_cons.1 he' with rfl | he'
        · simp only [List.length_cons];omega
        · have:=he e he';simp only [List.length_cons];omega
      rintro ⟨s,tl'⟩ ⟨hp,hl,hb'⟩
      simp only at hp hl hb' ⊢
      rcases s with _ | ⟨y,_ | ⟨z,r⟩⟩
      · skip
        repeat' first | apply en_n|apply zAH|apply zAC|apply zAF|apply w0|apply ay (hd:=rfl)|exact zAE rfl|exact zHp rfl rfl|(apply zBG;exact rfl;exact rfl)|exact zAo rfl rfl|exact zAt rfl|(apply zC3;exact rfl;(with_reducible exact zCU))|(apply k1 (hd:=rfl);exact rfl;exact rfl)|(apply zAU;exact rfl)|apply zAu|apply en_e|apply eb_n|apply eb_e
        · omega
        · refine ⟨(i + 1,max m ((st.length : Int) + 1),[],tl'),⟨by simp only;omega,hout _ hp zNg,hl,⟨by simp only;omega,by simp only;omega⟩,fun e h0=>by have:=hb' e h0;simp only;omega⟩,by simp only;omega,zAL (zAA rfl (zAA rfl (zAA rfl (zAA rfl (zAA rfl zAW))))) (zAB rfl rfl zAK) rfl rfl⟩
      · have hsl:=zMV [y] tl'
        have hy:=hb' y (by simp)
        repeat' first | apply en_n|apply zAH|apply zAC|apply zAF|apply w0|(refine zM7 (hro:=rfl) rfl rfl rfl (by with_reducible exact zAz) rfl rfl ?_ ?_)|(refine zDq rfl rfl rfl (by with_reducible exact zBD) ?_ ?_)|(refine zEY rfl (by with_reducible exact zAz) rfl (zPl _ _ _) rfl)|(refine zRZ rfl (by with_reducible exact zIc) rfl ?_ ⟨_,_,_,_,rfl,?_⟩)|apply ay (hd:=rfl)|exact zAE rfl|exact zHp rfl rfl|exact zD7 rfl rfl|(apply zBG;exact rfl;exact rfl)|(apply zJC;exact rfl;exact rfl)|exact zAq rfl rfl|exact zAt rfl|exact zAj rfl|(apply zC3;exact rfl;(with_reducible exact zCU))|(apply w1;exact rfl;exact rfl)|(refine w0' ?_)|(apply zA1;exact rfl;(intro hb);rotate_left;(intro hb);rotate_right)|apply zAJ|apply zAT|apply zAu|apply en_e|apply eb_n|apply eb_e
        all_goals try (simp only [List.length_cons,List.length_nil] at *;omega)
        · rename_i hy0
          refine ⟨([],ival y :: tl'),⟨by rw [← hp,hy0,zNf,zNg],Nat.zero_le _,by simp⟩,by simp,zAL (zBs rfl rfl (zAA rfl (zAA rfl (zAA rfl (zAA rfl zAW))))) (zAl rfl rfl (zMU y [] tl').symm zAK) rfl rfl⟩
        · refine ⟨(i + 1,max m ((st.length : Int) + 1),[y],tl'),⟨by simp only;omega,hout _ hp (zHO hb),hl,⟨by simp only;omega,by simp only;omega⟩,fun e h0=>by have:=hb' e h0;simp only;omega⟩,by simp only;omega,zAL (zAA rfl (zAA rfl (zAA rfl (zAA rfl (zAA rfl zAW))))) (zAB rfl rfl zAK) rfl rfl⟩
      · have hsl:=zMV (y :: z :: r) tl'
        have hy:=hb' y (by simp)
        have hz:=hb' z (by simp)
        repeat' first | apply en_n|apply zAH|apply zAC|apply zAF|apply w0|(refine zM7 (hro:=rfl) rfl rfl rfl (by with_reducible exact zAz) rfl rfl ?_ ?_)|(refine zDq rfl rfl rfl (by with_reducible exact zBD) ?_ ?_)|(refine zEY rfl (by with_reducible exact zAz) rfl (zPl _ _ _) rfl)|(refine zEY rfl (by with_reducible exact zAz) rfl (zUG _ _ _ _) rfl)|(refine zRZ rfl (by with_reducible exact zIc) rfl ?_ ⟨_,_,_,_,rfl,?_⟩)|apply ay (hd:=rfl)|exact zAE rfl|exact zHp rfl rfl|exact zD7 rfl rfl|(apply zBG;exact rfl;exact rfl)|(apply zJC;exact rfl;exact rfl)|exact zAq rfl rfl|exact zAo rfl rfl|exact zAt rfl|exact zAj rfl|(apply zC3;exact rfl;(with_reducible exact zCU))|(apply w1;exact rfl;exact rfl)|(apply k1 (hd:=rfl);exact rfl;exact rfl)|(apply gD;exact rfl;exact rfl;(intro hb);rotate_left;(intro hb);rotate_right)|(refine w0' ?_)|(apply zA1;exact rfl;(intro hb);rotate_left;(intro hb);rotate_right)|(apply zAU;exact rfl)|apply zAJ|apply zAT|apply zAu|apply en_e|apply eb_n|apply eb_e
        all_goals try (simp only [List.length_cons] at *;omega)
        · rename_i hy0
          refine ⟨((z - 1) :: r,ival y :: tl'),⟨?_,?_,?_⟩,by simp,zAL (zBs rfl ?_ (zAA rfl (zAA rfl (zAA rfl (zAA rfl zAW))))) (zAl rfl rfl (zR7 y z (z - 1) r tl').symm zAK) rfl rfl⟩
          · rw [← hp,hy0,zIP]
          · simp only [List.length_cons] at *;omega
          · intro e h0
            rcases List.mem_cons.1 h0 with rfl | h0
            · simp only [List.length_cons] at *;omega
            · have:=hb' e (by simp [h0]);simp only [List.length_cons] at *;omega
          · simp only [List.length_cons];omega
        · refine ⟨(i + 1,max m ((st.length : Int) + 1),y :: z :: r,tl'),⟨by simp only;omega,hout _ hp (zHO hb),hl,⟨by simp only;omega,by simp only;omega⟩,fun e h0=>by have:=hb' e h0;simp only;omega⟩,by simp only;omega,zAL (zAA rfl (zAA rfl (zAA rfl (zAA rfl (zAA rfl zAW))))) (zAB rfl rfl zAK) rfl rfl⟩
    · rw [← hd,List.drop_of_length_le (by omega)];rfl
end Go.Proofs.YtblomnkamngnbaaGreatDoor
namespace Go.Proofs.YtblomnkamngnbaaGreatDoor
inductive FD : List Nd → Nat → Nat → Prop
  | nil : FD [] 0 0
  | cons (x : Nd) (ks r : List Nd) (n j d e : Nat) (hx : x.kids = n) (h1 : FD ks n d) (h2 : FD r j e) : FD (x :: (ks ++ r)) (j + 1) (max (d + 1) e)
theorem FD.zero {l : List Nd} {d : Nat} (h : FD l 0 d) : l = [] ∧ d = 0:=by
  cases h;exact ⟨rfl,rfl⟩
theorem zU4 : ∀ (N : Nat) {l : List Nd} {j k : Nat},l.length ≤ N → cns l j = some k → ∃ d,FD (l.take k) j d
  | N,l,0,k,_,h=>by rw [zD4] at h;injection h with h;subst h;exact ⟨0,.nil⟩
  | N,[],j + 1,k,_,h=>by cases h
  | 0,x :: r,j + 1,k,hN,h=>by simp at hN
  | N + 1,x :: r,j + 1,k,hN,h=>by
    rw [zCa] at h
    split at h
    · cases h
    · rename_i h0
      rw [Nat.add_comm j,zFl] at h
      cases h1 : cns r x.kids.toNat with
      | none=>rw [h1] at h;cases h
      | some k1 =>
        rw [h1] at h;simp only [Option.bind_some] at h
        cases h2 : cns (r.drop k1) j with
        | none=>rw [h2] at h;cases h
        | some k2 =>
          rw [h2] at h;simp only [Option.map_some,Option.some.injEq] at h;subst h
          simp only [List.length_cons] at hN
          obtain ⟨d,f1⟩:=zU4 N (by omega) h1
          obtain ⟨e,f2⟩:=zU4 N (by rw [List.length_drop];omega) h2
          refine ⟨max (d + 1) e,?_⟩
          rw [List.take_succ_cons,Nat.add_comm k2 k1,List.take_add]
          exact .cons x _ _ _ _ d e (by omega) f1 f2
theorem FD.append {l : List Nd} {a d : Nat} (h : FD l a d) {r : List Nd} {b e : Nat} (hr : FD r b e) : FD (l ++ r) (a + b) (max d e):=by
  induction h with
  | nil=>simpa using hr
  | cons x ks r' n j d' e' hx h1 h2 _ ih2 =>
    have:=FD.cons x ks (r' ++ r) n (j + b) d' (max e' e) hx h1 ih2
    rw [List.cons_append,List.append_assoc,show j + 1 + b = j + b + 1 by omega,show max (max (d' + 1) e') e = max (d' + 1) (max e' e) by omega]
    exact this
theorem zMy {l : List Nd} {j d : Nat} (h : FD l j d) : ∀ (R : List Nd) (m y : Int) (s : List Int),(j : Int) ≤ y → 1 ≤ y → (s.length : Int) + 1 ≤ m → zEx (l ++ R) m (y :: s) = zEx R (max m ((s.length : Int) + 1 + d)) (popF ((y - j) :: s)):=by
  induction h with
  | nil =>
    intro R m y s _ h2 h3
    rw [List.nil_append,zHO (by omega)]
    congr 1
    · omega
    · simp
  | cons x ks r n j d e hx h1 h2 ih1 ih2 =>
    intro R m y s hj hy hm
    have htail : ∀ m',(s.length : Int) + 1 ≤ m' → zEx (r ++ R) m' (popF ((y - 1) :: s)) = zEx R (max m' ((s.length : Int) + 1 + e)) (popF ((y - 1 - j) :: s)):=by
      intro m' hm'
      by_cases hz : y - 1 = 0
      · have hj0 : j = 0:=by omega
        subst hj0
        obtain ⟨rfl,rfl⟩:=h2.zero
        rw [List.nil_append];congr 1
        · omega
        · simp
      · rw [zHO hz]
        exact ih2 R m' (y - 1) s (by omega) (by omega) hm'
    rw [List.cons_append,zEx,List.append_assoc,List.length_cons,hx]
    by_cases hn : n = 0
    · subst hn
      obtain ⟨rfl,rfl⟩:=h1.zero
      rw [List.nil_append,show ((0 : Nat) : Int) = 0 from rfl,zIP,htail _ (by omega)]
      congr 1
      · omega
      · congr 2;omega
    · rw [zHO (by omega),ih1 (r ++ R) _ n (y :: s) (by omega) (by omega) (by simp only [List.length_cons];omega),show (n : Int) - n = 0 by omega,zIP,htail _ (by omega),List.length_cons]
      congr 1
      · omega
      · congr 2;omega
theorem zJf {T : List Nd} {d : Nat} (hw : zCH T = true) (h : FD T 1 d) : zEN T = d:=by
  rw [zEN,if_pos hw]
  cases h with
  | cons x ks r n j d e hx h1 h2 =>
    obtain ⟨rfl,rfl⟩:=h2.zero
    rw [List.append_nil,zEx,hx]
    by_cases hn : n = 0
    · subst hn
      obtain ⟨rfl,rfl⟩:=h1.zero
      rw [show ((0 : Nat) : Int) = 0 from rfl,zNf,zEx];rfl
    · have:=zMy h1 [] (max 0 (([] : List Int).length + 1)) n [] (by omega) (by omega) (by simp only [List.length_nil];omega)
      rw [List.append_nil] at this
      rw [zHO (by omega),this,zEx];simp;omega
def mxF (KK : List (List Nd)) : Int:=KK.foldl (fun m K=>max m (zEN K)) 0
theorem zLp : ∀ (KK : List (List Nd)),(∀ K ∈ KK,zCH K = true) → ∃ d : Nat,FD KK.flatten KK.length d ∧ ∀ m : Int,0 ≤ m → KK.foldl (fun m K=>max m (zEN K)) m = max m d
  | [],_=>⟨0,.nil,fun m hm=>by simp;omega⟩
  | K :: KK,h=>by
    have hK:=h K (by simp)
    obtain ⟨d,hd⟩:=zU4 K.length (Nat.le_refl _) ((zDj K).1 hK)
    rw [List.take_length] at hd
    obtain ⟨e,he,hf⟩:=zLp KK (fun K' hK'=>h K' (by simp [hK']))
    refine ⟨max d e,?_,fun m hm=>?_⟩
    · rw [List.flatten_cons,List.length_cons,Nat.add_comm];exact hd.append he
    · rw [List.foldl_cons,zJf hK hd,hf _ (by omega)];omega
theorem zQ7 {T : List Nd} {x : Nd} {KK : List (List Nd)} (hT : T = x :: KK.flatten) (hx : x.kids = KK.length) (hw : ∀ K ∈ KK,zCH K = true) : zEN T = mxF KK + 1 ∧ zCH T = true:=by
  obtain ⟨d,hd,hf⟩:=zLp KK hw
  have hn : Node T 0 x KK []:=⟨by rw [List.drop_zero,hT,List.append_nil],hx,fun K hK=>(zDj K).1 (hw K hK)⟩
  have hwT : zCH T = true:=by
    have:=hn.cnsEq
    rw [List.drop_zero] at this
    rw [zDj,this,hT];rfl
  have h1:=FD.cons x KK.flatten [] KK.length 0 d 0 hx hd .nil
  rw [List.append_nil, ← hT] at h1
  rw [zJf hwT h1,mxF,hf 0 (Int.le_refl 0)]
  exact ⟨by omega,hwT⟩
end Go.Proofs.YtblomnkamngnbaaGreatDoor

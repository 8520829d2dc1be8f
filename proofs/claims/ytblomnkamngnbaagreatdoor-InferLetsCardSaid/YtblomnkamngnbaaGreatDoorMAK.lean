/- Texts of this claim, merged: TypB, TypG. -/
import Derived.Test.YtblomnkamngnbaaGreatDoorMAJ
namespace Go.Proofs.YtblomnkamngnbaaGreatDoor
open Go.Sx
attribute [local irreducible] zAO Program.underlying Ylds zA3 alex zBY zBN awp zAm zBT zBe zAx zBA zBP zA2 zBR zBX zBa zBq zBI
theorem zRv (L : List Nd) (hL : L.length ≤ 2000000) (hne : L ≠ []) : zBT Tryz.prog 55 [zAc L] L.length 40 4 (L.map Nd.av):=by
  refine zKc Tryz.func55 rfl Tryz.ntmps55 Tryz.results55 rfl (zCc fun _=>rfl) ?_
  intro wb St0
  repeat' first | (refine zRT 0 rfl ?_)|apply en_n|apply zAH|apply zAC|apply zAF|apply w0|(apply zOM;exact rfl;exact rfl;exact (by simpa using hne);with_reducible exact zA7)|(apply zTH (hd:=rfl) (hro:=rfl);exact zBl;exact zAa;exact zDr;exact rfl)|(apply aApp (hd:=rfl) (hro:=rfl);exact rfl;exact rfl;(first|exact zAn rfl|exact Co_bb rfl rfl rfl|exact Co_nn rfl);(first|exact rfl|(simp;done));exact rfl;(with_reducible exact zBl);(with_reducible exact zAa);(with_reducible exact zE1);(with_reducible exact zDi);(first|exact zCc (fun _=>rfl)|exact zCP rfl))|apply ay (hd:=rfl)|exact zAE rfl|exact zAY rfl|exact zAj rfl|(apply zAU;exact rfl)|apply zAT|apply zAN
  · rw [List.length_map];omega
  · refine zGz ⟨_,rfl,.inr ⟨0,?_,rfl⟩⟩
    show SV.buf 0 (0 + (L.map Nd.av).length) = .buf 0 L.length
    rw [List.length_map,Nat.zero_add]
def canI (vs : List Int) (L : List Nd) (i : Nat) : List Nd:=(L.take i).map (can1 vs) ++ L.drop i
theorem zOG (vs : List Int) (L : List Nd) (i : Nat) : (canI vs L i).length = L.length:=by simp [canI];omega
theorem zM2 {vs : List Int} {L : List Nd} {i : Nat} {v : Nd} (h : L[i]? = some v) : (canI vs L i)[i]? = some v ∧ canI vs L (i + 1) = (canI vs L i).set i (can1 vs v):=by
  have hil:=(List.getElem?_eq_some_iff.1 h).1
  have e1 : ((L.take i).map (can1 vs)).length = i:=by simp;omega
  unfold canI
  refine ⟨by rw [List.getElem?_append_right (by omega),e1,Nat.sub_self,List.getElem?_drop];exact h,?_⟩
  rw [List.set_append_right _ _ (by omega),e1,Nat.sub_self,List.take_add_one,h]
  have e2 : L.drop i = v :: L.drop (i + 1):=by rw [List.drop_eq_getElem_cons hil];congr 1;exact (List.getElem?_eq_some_iff.1 h).2
  rw [e2];simp
theorem zTQ (L : List Nd) (hL : L.length ≤ 2000000) : zAm Tryz.prog 40 [zAc L] (zAc (zB2 L)):=by
  refine zAd Tryz.func40 rfl Tryz.ntmps40 Tryz.results40 rfl ?_
  intro wb St0
  by_cases hok : okT L = true
  · obtain ⟨h4,hw,_⟩:=zDJ hok
    have hne : L ≠ []:=by rintro rfl;simp [zCH] at hw
    have hck : ckT L = 0:=by simp [ckT,hok]
    have hvs : zBb L = zBu L:=by simp [zBb,hok]
    have hvl : (zBu L).length ≤ 2000000:=by have:=zHq (L:=L) L.length hL;rwa [List.take_length] at this
    have hV:=zKt L hL
    have hC:=zCb L hL
    rw [hvs] at hV;rw [hck] at hC
    repeat' first | apply en_n|apply zAH|apply zAC|apply zAF|apply w0|(apply zBm;exact rfl;exact rfl;first|assumption|omega)|(refine zAX zIk hV (zAZ rfl zAG))|(refine zAX zCR hC (zAZ rfl zAG))|(refine zRX zKW (zRv L hL hne) (zAZ rfl zAG) rfl rfl ?_)|apply ay (hd:=rfl)|exact zAE rfl|exact zAD rfl|(apply zAr;exact rfl;(with_reducible exact zA7))|exact zAY rfl|exact zAj rfl|(apply zAU;exact rfl)|apply zAJ|apply zAT
    refine zAs (α:=Nat) (fun i=>i ≤ L.length) (fun i=>[(3,.d (zBv (zBu L))),(4,.buf 0 L.length),(14,.d (zAc L)),(15,.d (i64 (L.length : Int))),(16,.d (i64 (i : Int)))]) (fun i=>[.buf true 40 4 ((canI (zBu L) L i).map Nd.av)]) (fun i=>L.length - i) 0 (Nat.zero_le _)
      (zAL (zAA rfl (zAA rfl (zAA rfl (Le_d rfl rfl (zAA rfl zAW))))) (zAl rfl rfl rfl zAK) rfl rfl) ?_
    intro i hi
    repeat' first | (refine zGU 33 0 rfl rfl rfl ?_)|apply en_n|apply zAH|apply zAC|apply zAF|apply w0|(refine zAX zGy (zOP (zBu L) v.num hvl) (zAZ rfl (zAZ rfl zAG)))|(refine zDq rfl rfl rfl zAa ?_ ?_)|(refine zPL rfl fn_2)|(refine zTD (cs:=v.av.flat) (hro:=rfl) rfl rfl rfl zB4 rfl rfl ?_ rfl ?_)|(apply aI (hd:=rfl);(first|exact zAn rfl|exact Co_bb rfl rfl rfl|exact Co_nn rfl);exact rfl;(with_reducible exact zAa);exact fun _=>rfl;rotate_left;intro v hv;rotate_right)|(apply zBE (hd:=rfl) (hro:=rfl);(with_reducible exact zAp))|apply ay (hd:=rfl)|exact zAE rfl|exact zAD rfl|(apply zAf;exact rfl;(with_reducible exact zAb);exact rfl)|exact zDG rfl rfl|exact zD7 rfl rfl|(apply zBG;exact rfl;exact rfl)|exact zAt rfl|exact zAj rfl|(apply zAS;exact rfl;(with_reducible first|exact fn_0|exact fn_2))|(apply zAV;exact rfl;(with_reducible first|exact zAk|exact zB4);exact rfl;exact rfl)|(refine w0' ?_)|(apply zA0;exact rfl;exact rfl;exact rfl;(with_reducible exact zAb);exact rfl;exact rfl;exact rfl;exact rfl)|(apply zA1;exact rfl;(intro hb);rotate_left;(intro hb);rotate_right)|apply zAJ|apply zAT|apply zAN|apply zAu|apply en_e|apply eb_n|apply eb_e|apply zAP
    all_goals first | omega | skip
    · rw [List.length_map,zOG];exact Nat.le_refl _
    · show ((canI (zBu L) L i).map Nd.av)[(i : Int).toNat]? = some (.agg v.av.flat)
      rw [Int.toNat_natCast,List.getElem?_map,(zM2 (vs:=zBu L) (i:=i) hv).1];rfl
    · refine ⟨i + 1,by omega,by omega,zAL (zAA rfl (zAA rfl (zAA rfl (zAA rfl (zAA rfl zAW))))) (zAl rfl rfl ?_ zAK) rfl rfl⟩
      have hk : v.kind = 31:=‹_›
      show _ = ((canI (zBu L) L i).map Nd.av).set (i : Int).toNat (.agg (v.av.flat.set (0 + 2) _))
      rw [(zM2 (vs:=zBu L) (i:=i) hv).2,Int.toNat_natCast,List.map_set,can1,if_pos hk];rfl
    · refine ⟨i + 1,by omega,by omega,zAL (zAA rfl (zAA rfl (zAA rfl (zAA rfl (zAA rfl zAW))))) (zAl rfl rfl ?_ zAK) rfl rfl⟩
      have hk : ¬ v.kind = 31:=‹_›
      have hi':=zM2 (vs:=zBu L) (i:=i) hv
      rw [hi'.2,can1,if_neg hk]
      congr 1
      refine List.ext_getElem? fun j=>?_
      rw [List.getElem?_set]
      split
      · rename_i e;subst e;rw [if_pos (List.getElem?_eq_some_iff.1 hi'.1).1,hi'.1]
      · rfl
    · have e : canI (zBu L) L i = zB2 L:=by rw [zB2,if_pos hok,canI,List.take_of_length_le (by omega),List.drop_of_length_le (by omega),List.append_nil]
      exact zJ5 rfl rfl (by rw [List.length_map,zOG]) (by rw [e];rfl)
  · have hV:=zKt L hL
    have hC:=zCb L hL
    have hck : ckT L = 90:=by simp [ckT,hok]
    rw [hck] at hC
    repeat' first | apply en_n|apply zAH|apply zAC|apply zAF|apply w0|(apply zCT;exact rfl;exact rfl;first|assumption|omega)|(refine zAX zIk hV (zAZ rfl zAG))|(refine zAX zCR hC (zAZ rfl zAG))|apply ay (hd:=rfl)|exact zAE rfl|exact zAD rfl|exact zAY rfl|(apply zAQ;exact rfl)|apply zAN|apply en_r|apply zAP|(apply zSK;exact rfl)
    simp [zB2,hok,zAc]
abbrev Nd.cells (n : Nd) : List D:=[.val (.int .i64 n.kind),.val (.string ⟨n.text.toArray⟩),.val (.int .i64 n.num),.val (.int .i64 n.kids)]
theorem zRx (n : Nd) (b : Bd) : zBA Tryz.prog 134 [.d b.av,.ptr 0 0] [.box (n.cells.map .d)] (bl (decide (b.var = n.num))):=by
  refine zBw Tryz.func134 rfl Tryz.ntmps134 Tryz.results134 rfl ?_
  intro wb St0
  repeat' first | apply en_n|apply zAH|apply zAC|apply zAF|apply w0|(apply aBox (hd:=rfl) (hro:=rfl);exact rfl;exact rfl)|apply ay (hd:=rfl)|exact zAD rfl|exact zD7 rfl rfl|(apply zAS;exact rfl;(with_reducible first|exact fb_0|exact fn_2))|(apply zAV;exact rfl;(with_reducible first|exact zAz|exact zB4);exact rfl;exact rfl)|apply zAN|apply zAP|(apply res1;exact rfl)
  rfl
theorem zWL (n : Nd) (l : List Bd) (hl : l.length ≤ 2000000) :
    zBA Tryz.prog 133 [.d (binds l),.clo 134 [0]] [.box (n.cells.map .d)] (i64 (idxP (fun b=>decide (b.var = n.num)) l)):=by
  refine zBw Tryz.func133 rfl Tryz.ntmps133 Tryz.results133 rfl ?_
  intro wb St0
  repeat' first | apply en_n|apply zAH|apply zAC|apply zAF|apply w0|apply ay (hd:=rfl)|exact zAE rfl|exact zAD rfl|(apply zAr;exact rfl;(with_reducible exact zS0))|apply zAJ
  refine zAs (α:=Nat) (fun i=>i ≤ l.length ∧ ∀ (j : Nat) u,j < i → l[j]? = some u → decide (u.var = n.num) = false) (fun i=>[(0,.d (binds l)),(1,.clo 134 [0]),(7,.d (i64 (l.length : Int))),(8,.d (i64 (i : Int)))]) (fun _=>[.box (n.cells.map .d)]) (fun i=>l.length - i) 0 ⟨Nat.zero_le _,fun j u h=>by omega⟩
    (zAL (zAA rfl (zAA rfl (Le_d rfl rfl (zAA rfl zAW)))) (zAB rfl rfl zAK) rfl rfl) ?_
  rintro i ⟨hi1,hi2⟩
  repeat' first | apply en_n|apply zAH|apply zAC|apply zAF|apply w0|exact zA8 rfl|(refine zA6 [0] [0] rfl rfl zQl (zRx n v) rfl ?_ rfl (by decide) rfl rfl rfl rfl;(repeat (refine zAI rfl ?_));exact zAM)|(apply aI (hd:=rfl);(first|exact zAn rfl|exact Co_bb rfl rfl rfl|exact Co_nn rfl);exact rfl;(with_reducible exact zGB);exact fun _=>rfl;rotate_left;intro v hv;rotate_right)|apply ay (hd:=rfl)|exact zAE rfl|exact zAD rfl|(apply zAf;exact rfl;(with_reducible exact zUE);exact rfl)|exact zDG rfl rfl|(apply zBG;exact rfl;exact rfl)|(apply zA1;exact rfl;(intro hb);rotate_left;(intro hb);rotate_right)|apply zAJ|apply zAT|apply zAN|apply zAu|apply en_r|apply en_e|apply eb_n|apply eb_r|apply eb_e|apply zAP|(apply res1;exact rfl)
  · omega
  · exact zDm (zF5 hi2 hv (by simpa using hb)).symm
  · omega
  · refine ⟨i + 1,⟨by omega,fun j u hj hu=>?_⟩,by omega,zAL (zAA rfl (zAA rfl (zAA rfl (zAA rfl zAW)))) (zAB rfl rfl zAK) rfl rfl⟩
    rcases Nat.lt_or_ge j i with h1 | h1
    · exact hi2 j u h1 hu
    · have hv' : l[i]? = some v:=hv
      rw [show j = i by omega,hv'] at hu;injection hu with hu;subst hu;simpa using hb
  · exact zDm (zDl fun j u hu=>hi2 j u (by have:=(List.getElem?_eq_some_iff.1 hu).1;omega) hu).symm
theorem zEu {α : Type} {p : α → Bool} : ∀ {l : List α},(l.find? p = none ∧ idxP p l = -1) ∨ ∃ (k : Nat) (x : α),l[k]? = some x ∧ idxP p l = k ∧ l.find? p = some x:=by
  intro l
  cases h : l.findIdx? p with
  | none =>
    rw [List.findIdx?_eq_none_iff] at h
    exact .inl ⟨List.find?_eq_none.2 fun x hx=>by rw [h x hx];simp,by unfold idxP;rw [List.findIdx?_eq_none_iff.2 h]⟩
  | some k =>
    obtain ⟨hk,h1,h2⟩:=List.findIdx?_eq_some_iff_getElem.1 h
    refine .inr ⟨k,l[k],List.getElem?_eq_getElem hk,by unfold idxP;rw [h],?_⟩
    exact List.find?_eq_some_iff_getElem.2 ⟨h1,k,hk,rfl,fun j hj=>by simpa using h2 j hj⟩
def apI (l : List Bd) (L : List Nd) (i : Nat) : List Nd:=(L.take i).flatMap (app1 l)
theorem zKk {l : List Bd} {L : List Nd} {i : Nat} {v : Nd} (h : L[i]? = some v) : apI l L (i + 1) = apI l L i ++ app1 l v:=by
  unfold apI;rw [List.take_add_one,h];simp
theorem zKa {l : List Bd} (M : Nat) (hM : ∀ b ∈ l,b.ty.length ≤ M) (h1 : 1 ≤ M) : ∀ (L : List Nd),(L.flatMap (app1 l)).length ≤ L.length * M
  | []=>by simp
  | n :: L=>by
    have ih:=zKa M hM h1 L
    have : (app1 l n).length ≤ M:=by
      unfold app1
      split
      · split
        · rename_i b hb;exact hM b (List.mem_of_find?_eq_some hb)
        · simpa using h1
      · simpa using h1
    simp only [List.flatMap_cons,List.length_append,List.length_cons,Nat.add_mul];omega
set_option maxHeartbeats 1000000 in
theorem zOU (l : List Bd) (L : List Nd) (hl : l.length ≤ 2000000) (hL : L.length ≤ 10000) (hM : ∀ b ∈ l,b.ty.length ≤ 20000) : zAm Tryz.prog 114 [binds l,zAc L] (zAc (zDp l L)):=by
  have hbd : ∀ k,(apI l L k).length ≤ 200000000:=fun k=>by
    have h1:=zKa (l:=l) 20000 hM (by omega) (L.take k)
    have h2 : (L.take k).length ≤ L.length:=by rw [List.length_take];omega
    have h3:=Nat.mul_le_mul_right 20000 (Nat.le_trans h2 hL)
    unfold apI;omega
  refine zAd Tryz.func114 rfl Tryz.ntmps114 Tryz.results114 rfl ?_
  intro wb St0
  repeat' first | apply en_n|apply zAH|apply zAC|apply zAF|apply w0|apply ay (hd:=rfl)|exact zAE rfl|(apply zAr;exact rfl;(with_reducible exact zA7))|exact zAY rfl|apply zAJ
  refine zCO 5 false 40 4 rfl rfl ?_
  refine zAs (α:=Nat) (fun i=>i ≤ L.length) (fun i=>[(0,.d (binds l)),(5,.buf 0 ((apI l L i).map Nd.av).length),(9,.d (zAc L)),(10,.d (i64 (L.length : Int))),(11,.d (i64 (i : Int)))]) (fun i=>[.buf false 40 4 ((apI l L i).map Nd.av)]) (fun i=>L.length - i) 0 (Nat.zero_le _)
    (zAL (zAA rfl (zBs rfl rfl (zAA rfl (Le_d rfl rfl (zAA rfl zAW))))) (zAl rfl rfl rfl zAK) rfl rfl) ?_
  intro i hi
  repeat' first | apply en_n|apply zAH|apply zAC|apply zAF|apply w0|(apply k0u (hd:=rfl);exact rfl;exact rfl)|(refine zA6 [1] [] rfl rfl zVg (zWL v l hl) rfl ?_ rfl (by decide) rfl rfl rfl rfl;(repeat (refine zAI rfl ?_));exact zAM)|(apply aI (hd:=rfl);(first|exact zAn rfl|exact Co_bb rfl rfl rfl|exact Co_nn rfl);exact rfl;(with_reducible first|exact zGB|exact zAa);exact fun _=>rfl;rotate_left;intro v hv;rotate_right)|(apply aApp (hd:=rfl) (hro:=rfl);exact rfl;exact rfl;(first|exact zAn rfl|exact Co_bb rfl rfl rfl|exact Co_nn rfl);(first|exact rfl|(simp;done));exact rfl;(with_reducible exact zBl);(with_reducible exact zAa);(with_reducible exact zE1);(with_reducible exact zDi);(first|exact zCc (fun _=>rfl)|exact zCP rfl))|(apply zBE (hd:=rfl) (hro:=rfl);(with_reducible exact zAp))|apply ay (hd:=rfl)|exact zAE rfl|exact zAD rfl|(apply zA5;exact rfl;(with_reducible exact fb_1))|(apply zAi;exact rfl;(with_reducible exact zAg))|(apply zAf;exact rfl;(with_reducible exact zAb);exact rfl)|exact zDG rfl rfl|exact zJD rfl rfl|(apply zBG;exact rfl;exact rfl)|exact zAq rfl rfl|exact zAo rfl rfl|exact zAt rfl|exact zAj rfl|(apply zAS;exact rfl;(with_reducible exact fn_0))|(apply zAV;exact rfl;(with_reducible exact zAk);exact rfl;exact rfl)|(apply zC1;exact rfl;(with_reducible exact zAb);exact rfl;exact rfl;exact rfl)|(apply zCD;(with_reducible exact zBl);(with_reducible exact zAa);(with_reducible exact zDr);exact rfl;exact rfl;(first|exact zAZ rfl zAG|exact zCo rfl rfl rfl zAG|exact zCs rfl zAG);exact rfl)|exact zGV rfl|(apply w1;exact rfl;exact rfl)|(apply gD;exact rfl;exact rfl;(intro hb);rotate_left;(intro hb);rotate_right)|(refine w0' ?_)|(apply zA0;exact rfl;exact rfl;exact rfl;(with_reducible exact zAb);exact rfl;exact rfl;exact rfl;exact rfl)|(apply zA1;exact rfl;(intro hb);rotate_left;(intro hb);rotate_right)|(apply zAQ;exact rfl)|apply zAJ|apply zAT|apply zAN|apply zAu|apply en_e|apply eb_n|apply eb_e|apply zAP|(apply zJ5;exact rfl;exact rfl;(first|exact rfl|(simp;done)))
  all_goals first | omega | skip
  · have:=hbd i;simp only [List.length_map,List.length_singleton];omega
  · have e:=zKk (l:=l) (i:=i) hv
    rw [app1,if_neg hb] at e
    exact ⟨i + 1,by omega,by omega,zAL (zAA rfl (zBs rfl (by rw [e];simp) (zAA rfl (zAA rfl (zAA rfl zAW))))) (zAl rfl rfl (by rw [e,List.map_append];rfl) zAK) rfl rfl⟩
  · have:=hbd i;simp only [List.length_map,List.length_singleton];omega
  · have e:=zKk (l:=l) (i:=i) hv
    rename_i hk
    rcases zEu (p:=fun b : Bd=>decide (b.var = v.num)) (l:=l) with ⟨f1,_⟩ | ⟨k,x,_,f2,_⟩
    · rw [app1,if_pos (by omega),f1] at e
      exact ⟨i + 1,by omega,by omega,zAL (zAA rfl (zBs rfl (by rw [e];simp) (zAA rfl (zAA rfl (zAA rfl zAW))))) (zAl rfl rfl (by rw [e,List.map_append];rfl) zAK) rfl rfl⟩
    · omega
  · rcases zEu (p:=fun b : Bd=>decide (b.var = v.num)) (l:=l) with ⟨_,f2⟩ | ⟨k,x,f1,f2,_⟩
    · omega
    · have:=(List.getElem?_eq_some_iff.1 f1).1;omega
  · have:=hbd i
    have:=hM v (List.mem_of_getElem? hv)
    simp only [List.length_map];omega
  · rename_i v0 hv0 hk
    have e:=zKk (l:=l) (i:=i) hv0
    rcases zEu (p:=fun b : Bd=>decide (b.var = v0.num)) (l:=l) with ⟨_,f2⟩ | ⟨k,x,f1,f2,f3⟩
    · omega
    · rw [f2,Int.toNat_natCast,f1] at hv
      injection hv with hv;subst hv
      rw [app1,if_pos (by omega),f3] at e
      exact ⟨i + 1,by omega,by omega,zAL (zAA rfl (zBs rfl (by rw [e];simp) (zAA rfl (zAA rfl (zAA rfl zAW))))) (zAl rfl rfl (by rw [e,List.map_append]) zAK) rfl rfl⟩
  · have e : apI l L i = zDp l L:=by unfold apI zDp;rw [List.take_of_length_le (by omega)]
    rw [e];rfl
end Go.Proofs.YtblomnkamngnbaaGreatDoor
namespace Go.Proofs.YtblomnkamngnbaaGreatDoor
open Go.Sx
abbrev Sto:=List (Int × List Nd)
abbrev Seen:=List (Int × Int)
def zAv {β : Type} : List (Int × β) → Int → Option β
  | [],_=>none
  | (k,d) :: r,a=>if k = a then some d else zAv r a
def putA {β : Type} : List (Int × β) → Int → β → List (Int × β)
  | [],a,d=>[(a,d)]
  | (k,e) :: r,a,d=>if k = a then (k,d) :: r else (k,e) :: putA r a d
def encA {β : Type} (f : β → D) (L : List (Int × β)) : List (Int × D):=L.map fun p=>(p.1,f p.2)
theorem zGq {β : Type} (f : β → D) : ∀ (L : List (Int × β)) (a : Int),zCW (encA f L) a = (zAv L a).map f
  | [],a=>rfl
  | (k,d) :: r,a=>by
    simp only [encA,List.map_cons,zCW,zAv]
    split
    · rfl
    · exact zGq f r a
theorem zFx {β : Type} (f : β → D) : ∀ (L : List (Int × β)) (a : Int) (d : β),putK (encA f L) a (f d) = encA f (putA L a d)
  | [],a,d=>rfl
  | (k,e) :: r,a,d=>by
    simp only [encA,List.map_cons,putK,putA]
    split
    · rfl
    · simp only [List.map_cons];congr 1;exact zFx f r a d
abbrev ki : Int → Value:=fun a=>Value.int .i64 a
abbrev mSto (L : Sto) : List (Value × D):=kvs ki (encA zAc L)
abbrev zSY (L : Seen) : List (Value × D):=kvs ki (encA i64 L)
abbrev stO (nx : Int) (L : Sto) : List Ob:=[.bx none none [.d (i64 nx),.mp 1],.map none (mSto L)]
theorem zGo (L : Sto) (a : Int) : (zCW (encA zAc L) a).getD (.slice []) = zAc ((zAv L a).getD []) ∧ (zCW (encA zAc L) a).isSome = (zAv L a).isSome:=by
  rw [zGq];cases zAv L a <;> exact ⟨rfl,rfl⟩
theorem zEo (L : Seen) (a : Int) : (zCW (encA i64 L) a).getD (.val (.int .i64 0)) = i64 ((zAv L a).getD 0):=by
  rw [zGq];cases zAv L a <;> rfl
def zD2 : Nat → Sto → List Nd → Option (List Nd)
  | 0,_,_=>none
  | n + 1,L,t=>match t[0]? with
    | none=>none
    | some x=>if x.kind = 31 then (match zAv L x.num with | some u=>zD2 n L u | none=>some t) else some t
def catO {α : Type} (f : α → Option (List Nd)) : List α → Option (List Nd)
  | []=>some []
  | x :: r=>match f x,catO f r with
    | some a,some b=>some (a ++ b)
    | _,_=>none
def resF : Nat → Sto → List Nd → Option (List Nd)
  | 0,_,_=>none
  | n + 1,L,t=>catO (fun (x : Nd)=>if x.kind = 31 then (match zAv L x.num with | some u=>resF n L u | none=>some [x]) else some [x]) t
def zBc {α β : Type} (f : β → α → Option β) : β → List α → Option β
  | b,[]=>some b
  | b,x :: r=>match f b x with
    | some c=>zBc f c r
    | none=>none
def zGE : Nat → Sto → List Nd → Seen → Option (Int × Seen)
  | 0,_,_,_=>none
  | n + 1,L,t,S=>zBc (fun (p : Int × Seen) (x : Nd) =>
      if x.kind = 31 then (match zAv L x.num with
        | some u=>if (zAv p.2 x.num).getD 0 > 0 then some (min (p.1 + (zAv p.2 x.num).getD 0) 4001,p.2) else (match zGE n L u p.2 with
          | some (m,S')=>some (min (p.1 + m) 4001,putA S' x.num m)
          | none=>none)
        | none=>some (min (p.1 + 1) 4001,p.2))
      else some (min (p.1 + 1) 4001,p.2)) (0,S) t
def inF : Nat → Sto → Int → List Nd → Seen → Option (Bool × Seen)
  | 0,_,_,_,_=>none
  | n + 1,L,v,t,S=>zBc (fun (p : Bool × Seen) (x : Nd) =>
      if p.1 then some p
      else if x.kind ≠ 31 ∨ (zAv p.2 x.num).getD 0 > 0 then some p
      else if x.num = v then some (true,putA p.2 x.num ((zAv p.2 x.num).getD 0 + 1))
      else inF n L v ((zAv L x.num).getD []) (putA p.2 x.num ((zAv p.2 x.num).getD 0 + 1))) (false,S) t
def cutO (t : List Nd) (a b : Int) : Option (List Nd):=if 0 ≤ a ∧ a ≤ b ∧ b ≤ t.length then some ((t.take b.toNat).drop a.toNat) else none
def zEk : Nat → Sto → List Nd → List Nd → Option (Int × Sto)
  | 0,_,_,_=>none
  | n + 1,L,a0,b0=>match zD2 n L a0,zD2 n L b0 with
    | some a,some b=>match a[0]?,b[0]? with
      | some x,some y =>
        if a.length > 4000 ∨ b.length > 4000 then none
        else if x.kind = 31 ∧ y.kind = 31 then (if x.num ≠ y.num then some (0,putA L (max x.num y.num) (varN (min x.num y.num))) else some (0,L))
        else if y.kind = 31 then zEk n L b a
        else if x.kind = 31 then (match inF n L x.num b [] with
          | some (true,_)=>some (91,L)
          | some (false,_)=>some (0,putA L x.num b)
          | none=>none)
        else if x ≠ y then some (91,L)
        else zBc (fun (p : Int × Sto) (i : Nat)=>if p.1 ≠ 0 then some p else
            match (zBn a 0)[i]?,(zBn b 0)[i]? with
            | some k,some l=>(match cutO a k (endF a k),cutO b l (endF b l) with
              | some u,some v=>zEk n p.2 u v
              | _,_=>none)
            | _,_=>none) (0,L) (List.range (zBn a 0).length)
      | _,_=>none
    | _,_=>none
section
variable {P : Program} {η : List Ob} {σ : Sl} {dst : Option Nat} {ty : TypeId} {pos : String} {after : Array Edge} {gd : Option (Nat × Bool)} {t : TypeId} {x y : Operand}
theorem zDd {id k e : Nat} {q : IntKind} {kb : Option Nat} {L : List (Int × D)} {a : Int} {zd d : D} {b : Bool} (hl : (zCW L a).getD zd = d ∧ (zCW L a).isSome = b) (hx : oval σ x = .mp id) (ho : η[id]? = some (.map kb (kvs (fun a=>.int q a) L))) (hy : oval σ y = .d (.val (.int q a))) (ht : zDk P t = some (k,e)) (hk : P.underlying k = some (.int q)) (hz : zGM P e = some zd) :
    Ylds P η σ ⟨dst,.lookup t x y true,ty,pos,after,gd⟩ (.d (.tup [d,.val (.bool b)])):=by
  obtain ⟨rfl,rfl⟩:=hl;exact zMM hx ho hy ht hk hz
theorem zFH {id k e : Nat} {q : IntKind} {kb : Option Nat} {L : List (Int × D)} {a : Int} {zd d : D} (hl : (zCW L a).getD zd = d) (hx : oval σ x = .mp id) (ho : η[id]? = some (.map kb (kvs (fun a=>.int q a) L))) (hy : oval σ y = .d (.val (.int q a))) (ht : zDk P t = some (k,e)) (hk : P.underlying k = some (.int q)) (hz : zGM P e = some zd) :
    Ylds P η σ ⟨dst,.lookup t x y false,ty,pos,after,gd⟩ (.d d):=by
  subst hl;exact zUx hx ho hy ht hk hz
end
section
variable {C : Ctx} {ops : Array Oper} {rest : List Oper} {K : Sl → List Ob → Prop} {σ : Sl} {η : List Ob} {ty : TypeId} {pos : String} {after : Array Edge} {gd : Option (Nat × Bool)} {t : TypeId} {x y z : Operand}
theorem zG7 {id k e : Nat} {q : IntKind} {kb : Option Nat} {L L' : List (Int × D)} {a : Int} {dv : D} (hp : putK L a dv = L') (hx : oval σ x = .mp id) (ho : η[id]? = some (.map kb (kvs (fun a=>.int q a) L))) (hy : oval σ y = .d (.val (.int q a))) (hz : Co η (oval σ z) dv) (ht : zDk C.P t = some (k,e)) (hk : C.P.underlying k = some (.int q)) (hro : Nat.ble C.ro id = true)
    (h : alex C false ops rest K σ (η.set id (.map kb (kvs (fun a=>.int q a) L')))) : zA3 C false ops ⟨none,.mapUpdate t x y z,ty,pos,after,gd⟩ rest K σ η:=by
  subst hp;exact zUt hx ho hy hz ht (zQV hk) hro h
end
theorem zJy {L : Sto} {a : Int} {u : List Nd} (h : zAv L a = some u) : (zCW (encA zAc L) a).getD (.slice []) = zAc u ∧ (zCW (encA zAc L) a).isSome = true:=by
  obtain ⟨h1,h2⟩:=zGo L a;rw [h1,h2,h];exact ⟨rfl,rfl⟩
theorem zNT {L : Sto} {a : Int} (h : zAv L a = none) : (zCW (encA zAc L) a).getD (.slice []) = zAc [] ∧ (zCW (encA zAc L) a).isSome = false:=by
  obtain ⟨h1,h2⟩:=zGo L a;rw [h1,h2,h];exact ⟨rfl,rfl⟩
theorem zFc {β : Type} : ∀ {L : List (Int × β)} {a : Int} {d : β},zAv L a = some d → (a,d) ∈ L
  | (k,e) :: r,a,d,h=>by
    unfold zAv at h
    split at h
    · rename_i hk;injection h with h;subst h;subst hk;simp
    · exact List.mem_cons_of_mem _ (zFc h)
  | [],_,_,h=>by cases h
end Go.Proofs.YtblomnkamngnbaaGreatDoor

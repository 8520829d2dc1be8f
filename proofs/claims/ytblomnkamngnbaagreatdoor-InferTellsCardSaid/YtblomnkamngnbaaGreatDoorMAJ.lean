/- Texts of this claim, merged: TypB, TypG. -/
import Derived.Test.YtblomnkamngnbaaGreatDoorMAI
namespace Go.Proofs.YtblomnkamngnbaaGreatDoor
open Go.Sx
attribute [local irreducible] zAT Program.underlying Ylds zBA alex zBe zBP awp zAj zBZ zBk zA2 zBH zBR zA8 zBV zBb zBf zBu zBO
theorem zQ0 (L : List Nd) (hL : L.length ≤ 2000000) (hne : L ≠ []) : zBZ Tryz.prog 55 [zAc L] L.length 40 4 (L.map Nd.av):=by
  refine zKI Tryz.func55 rfl Tryz.ntmps55 Tryz.results55 rfl (zCF fun _=>rfl) ?_
  intro wb St0
  repeat' first | (refine zQZ 0 rfl ?_)|apply en_n|apply zAH|apply zAB|apply zAF|apply w0|(apply zNh;exact rfl;exact rfl;exact (by simpa using hne);with_reducible exact zA0)|(apply zMY (hd:=rfl) (hro:=rfl);exact zBd;exact zAW;exact zDQ;exact rfl)|(apply aApp (hd:=rfl) (hro:=rfl);exact rfl;exact rfl;(first|exact zAk rfl|exact Co_bb rfl rfl rfl|exact Co_nn rfl);(first|exact rfl|(simp;done));exact rfl;(with_reducible exact zBd);(with_reducible exact zAW);(with_reducible exact zER);(with_reducible exact zDP);(first|exact zCF (fun _=>rfl)|exact zCE rfl))|apply ay (hd:=rfl)|exact zAE rfl|exact zAb rfl|exact zAm rfl|(apply zAQ;exact rfl)|apply zAP|apply zAM
  · rw [List.length_map];omega
  · refine zGd ⟨_,rfl,.inr ⟨0,?_,rfl⟩⟩
    show SV.buf 0 (0 + (L.map Nd.av).length) = .buf 0 L.length
    rw [List.length_map,Nat.zero_add]
def canI (vs : List Int) (L : List Nd) (i : Nat) : List Nd:=(L.take i).map (can1 vs) ++ L.drop i
theorem zNd (vs : List Int) (L : List Nd) (i : Nat) : (canI vs L i).length = L.length:=by simp [canI];omega
theorem zMR {vs : List Int} {L : List Nd} {i : Nat} {v : Nd} (h : L[i]? = some v) : (canI vs L i)[i]? = some v ∧ canI vs L (i + 1) = (canI vs L i).set i (can1 vs v):=by
  have hil:=(List.getElem?_eq_some_iff.1 h).1
  have e1 : ((L.take i).map (can1 vs)).length = i:=by simp;omega
  unfold canI
  refine ⟨by rw [List.getElem?_append_right (by omega),e1,Nat.sub_self,List.getElem?_drop];exact h,?_⟩
  rw [List.set_append_right _ _ (by omega),e1,Nat.sub_self,List.take_add_one,h]
  have e2 : L.drop i = v :: L.drop (i + 1):=by rw [List.drop_eq_getElem_cons hil];congr 1;exact (List.getElem?_eq_some_iff.1 h).2
  rw [e2];simp
theorem zSL (L : List Nd) (hL : L.length ≤ 2000000) : zAj Tryz.prog 40 [zAc L] (zAc (zCm L)):=by
  refine zAd Tryz.func40 rfl Tryz.ntmps40 Tryz.results40 rfl ?_
  intro wb St0
  by_cases hok : okT L = true
  · obtain ⟨h4,hw,_⟩:=zD7 hok
    have hne : L ≠ []:=by rintro rfl;simp [zCA] at hw
    have hck : ckT L = 0:=by simp [ckT,hok]
    have hvs : zCh L = zB3 L:=by simp [zCh,hok]
    have hvl : (zB3 L).length ≤ 2000000:=by have:=zHc (L:=L) L.length hL;rwa [List.take_length] at this
    have hV:=zKT L hL
    have hC:=zCR L hL
    rw [hvs] at hV;rw [hck] at hC
    repeat' first | apply en_n|apply zAH|apply zAB|apply zAF|apply w0|(apply zBU;exact rfl;exact rfl;first|assumption|omega)|(refine zAV zIX hV (zAX rfl zAG))|(refine zAV zCK hC (zAX rfl zAG))|(refine zQd zKE (zQ0 L hL hne) (zAX rfl zAG) rfl rfl ?_)|apply ay (hd:=rfl)|exact zAE rfl|exact zAC rfl|(apply zAl;exact rfl;(with_reducible exact zA0))|exact zAb rfl|exact zAm rfl|(apply zAQ;exact rfl)|apply zAI|apply zAP
    refine zAr (α:=Nat) (fun i=>i ≤ L.length) (fun i=>[(3,.d (zBm (zB3 L))),(4,.buf 0 L.length),(14,.d (zAc L)),(15,.d (i64 (L.length : Int))),(16,.d (i64 (i : Int)))]) (fun i=>[.buf true 40 4 ((canI (zB3 L) L i).map Nd.av)]) (fun i=>L.length - i) 0 (Nat.zero_le _)
      (zAO (zAA rfl (zAA rfl (zAA rfl (Le_d rfl rfl (zAA rfl zAa))))) (zAu rfl rfl rfl zAN) rfl rfl) ?_
    intro i hi
    repeat' first | (refine zF9 33 0 rfl rfl rfl ?_)|apply en_n|apply zAH|apply zAB|apply zAF|apply w0|(refine zAV zGY (zNl (zB3 L) v.num hvl) (zAX rfl (zAX rfl zAG)))|(refine zDi rfl rfl rfl zAW ?_ ?_)|(refine zOf rfl fn_2)|(refine zR9 (cs:=v.av.flat) (hro:=rfl) rfl rfl rfl zBK rfl rfl ?_ rfl ?_)|(apply aI (hd:=rfl);(first|exact zAk rfl|exact Co_bb rfl rfl rfl|exact Co_nn rfl);exact rfl;(with_reducible exact zAW);exact fun _=>rfl;rotate_left;intro v hv;rotate_right)|(apply zA4 (hd:=rfl) (hro:=rfl);(with_reducible exact zAp))|apply ay (hd:=rfl)|exact zAE rfl|exact zAC rfl|(apply zAf;exact rfl;(with_reducible exact zAY);exact rfl)|exact zCT rfl rfl|exact zC6 rfl rfl|(apply zBC;exact rfl;exact rfl)|exact zAw rfl|exact zAm rfl|(apply zAR;exact rfl;(with_reducible first|exact fn_0|exact fn_2))|(apply zAU;exact rfl;(with_reducible first|exact zAe|exact zBK);exact rfl;exact rfl)|(refine w0' ?_)|(apply zAx;exact rfl;exact rfl;exact rfl;(with_reducible exact zAY);exact rfl;exact rfl;exact rfl;exact rfl)|(apply zAz;exact rfl;(intro hb);rotate_left;(intro hb);rotate_right)|apply zAI|apply zAP|apply zAM|apply zAt|apply en_e|apply eb_n|apply eb_e|apply zAJ
    all_goals first | omega | skip
    · rw [List.length_map,zNd];exact Nat.le_refl _
    · show ((canI (zB3 L) L i).map Nd.av)[(i : Int).toNat]? = some (.agg v.av.flat)
      rw [Int.toNat_natCast,List.getElem?_map,(zMR (vs:=zB3 L) (i:=i) hv).1];rfl
    · refine ⟨i + 1,by omega,by omega,zAO (zAA rfl (zAA rfl (zAA rfl (zAA rfl (zAA rfl zAa))))) (zAu rfl rfl ?_ zAN) rfl rfl⟩
      have hk : v.kind = 31:=‹_›
      show _ = ((canI (zB3 L) L i).map Nd.av).set (i : Int).toNat (.agg (v.av.flat.set (0 + 2) _))
      rw [(zMR (vs:=zB3 L) (i:=i) hv).2,Int.toNat_natCast,List.map_set,can1,if_pos hk];rfl
    · refine ⟨i + 1,by omega,by omega,zAO (zAA rfl (zAA rfl (zAA rfl (zAA rfl (zAA rfl zAa))))) (zAu rfl rfl ?_ zAN) rfl rfl⟩
      have hk : ¬ v.kind = 31:=‹_›
      have hi':=zMR (vs:=zB3 L) (i:=i) hv
      rw [hi'.2,can1,if_neg hk]
      congr 1
      refine List.ext_getElem? fun j=>?_
      rw [List.getElem?_set]
      split
      · rename_i e;subst e;rw [if_pos (List.getElem?_eq_some_iff.1 hi'.1).1,hi'.1]
      · rfl
    · have e : canI (zB3 L) L i = zCm L:=by rw [zCm,if_pos hok,canI,List.take_of_length_le (by omega),List.drop_of_length_le (by omega),List.append_nil]
      exact zGx rfl rfl (by rw [List.length_map,zNd]) (by rw [e];rfl)
  · have hV:=zKT L hL
    have hC:=zCR L hL
    have hck : ckT L = 90:=by simp [ckT,hok]
    rw [hck] at hC
    repeat' first | apply en_n|apply zAH|apply zAB|apply zAF|apply w0|(apply zB7;exact rfl;exact rfl;first|assumption|omega)|(refine zAV zIX hV (zAX rfl zAG))|(refine zAV zCK hC (zAX rfl zAG))|apply ay (hd:=rfl)|exact zAE rfl|exact zAC rfl|exact zAb rfl|(apply zAK;exact rfl)|apply zAM|apply en_r|apply zAJ|(apply zRJ;exact rfl)
    simp [zCm,hok,zAc]
abbrev Nd.cells (n : Nd) : List D:=[.val (.int .i64 n.kind),.val (.string ⟨n.text.toArray⟩),.val (.int .i64 n.num),.val (.int .i64 n.kids)]
theorem zQ2 (n : Nd) (b : Bd) : zBH Tryz.prog 134 [.d b.av,.ptr 0 0] [.box (n.cells.map .d)] (bl (decide (b.var = n.num))):=by
  refine zBx Tryz.func134 rfl Tryz.ntmps134 Tryz.results134 rfl ?_
  intro wb St0
  repeat' first | apply en_n|apply zAH|apply zAB|apply zAF|apply w0|(apply aBox (hd:=rfl) (hro:=rfl);exact rfl;exact rfl)|apply ay (hd:=rfl)|exact zAC rfl|exact zC6 rfl rfl|(apply zAR;exact rfl;(with_reducible first|exact fb_0|exact fn_2))|(apply zAU;exact rfl;(with_reducible first|exact zAs|exact zBK);exact rfl;exact rfl)|apply zAM|apply zAJ|(apply res1;exact rfl)
  rfl
theorem zVK (n : Nd) (l : List Bd) (hl : l.length ≤ 2000000) :
    zBH Tryz.prog 133 [.d (binds l),.clo 134 [0]] [.box (n.cells.map .d)] (i64 (idxP (fun b=>decide (b.var = n.num)) l)):=by
  refine zBx Tryz.func133 rfl Tryz.ntmps133 Tryz.results133 rfl ?_
  intro wb St0
  repeat' first | apply en_n|apply zAH|apply zAB|apply zAF|apply w0|apply ay (hd:=rfl)|exact zAE rfl|exact zAC rfl|(apply zAl;exact rfl;(with_reducible exact zRy))|apply zAI
  refine zAr (α:=Nat) (fun i=>i ≤ l.length ∧ ∀ (j : Nat) u,j < i → l[j]? = some u → decide (u.var = n.num) = false) (fun i=>[(0,.d (binds l)),(1,.clo 134 [0]),(7,.d (i64 (l.length : Int))),(8,.d (i64 (i : Int)))]) (fun _=>[.box (n.cells.map .d)]) (fun i=>l.length - i) 0 ⟨Nat.zero_le _,fun j u h=>by omega⟩
    (zAO (zAA rfl (zAA rfl (Le_d rfl rfl (zAA rfl zAa)))) (zAD rfl rfl zAN) rfl rfl) ?_
  rintro i ⟨hi1,hi2⟩
  repeat' first | apply en_n|apply zAH|apply zAB|apply zAF|apply w0|exact zBF rfl|(refine zBB [0] [0] rfl rfl zPv (zQ2 n v) rfl ?_ rfl (by decide) rfl rfl rfl rfl;(repeat (refine zAL rfl ?_));exact zAS)|(apply aI (hd:=rfl);(first|exact zAk rfl|exact Co_bb rfl rfl rfl|exact Co_nn rfl);exact rfl;(with_reducible exact zFo);exact fun _=>rfl;rotate_left;intro v hv;rotate_right)|apply ay (hd:=rfl)|exact zAE rfl|exact zAC rfl|(apply zAf;exact rfl;(with_reducible exact zS2);exact rfl)|exact zCT rfl rfl|(apply zBC;exact rfl;exact rfl)|(apply zAz;exact rfl;(intro hb);rotate_left;(intro hb);rotate_right)|apply zAI|apply zAP|apply zAM|apply zAt|apply en_r|apply en_e|apply eb_n|apply eb_r|apply eb_e|apply zAJ|(apply res1;exact rfl)
  · omega
  · exact zCr (zFi hi2 hv (by simpa using hb)).symm
  · omega
  · refine ⟨i + 1,⟨by omega,fun j u hj hu=>?_⟩,by omega,zAO (zAA rfl (zAA rfl (zAA rfl (zAA rfl zAa)))) (zAD rfl rfl zAN) rfl rfl⟩
    rcases Nat.lt_or_ge j i with h1 | h1
    · exact hi2 j u h1 hu
    · have hv' : l[i]? = some v:=hv
      rw [show j = i by omega,hv'] at hu;injection hu with hu;subst hu;simpa using hb
  · exact zCr (zDg fun j u hu=>hi2 j u (by have:=(List.getElem?_eq_some_iff.1 hu).1;omega) hu).symm
theorem zFP {α : Type} {p : α → Bool} : ∀ {l : List α},(l.find? p = none ∧ idxP p l = -1) ∨ ∃ (k : Nat) (x : α),l[k]? = some x ∧ idxP p l = k ∧ l.find? p = some x:=by
  intro l
  cases h : l.findIdx? p with
  | none =>
    rw [List.findIdx?_eq_none_iff] at h
    exact .inl ⟨List.find?_eq_none.2 fun x hx=>by rw [h x hx];simp,by unfold idxP;rw [List.findIdx?_eq_none_iff.2 h]⟩
  | some k =>
    obtain ⟨hk,h1,h2⟩:=List.findIdx?_eq_some_iff_getElem.1 h
    refine .inr ⟨k,l[k],List.getElem?_eq_getElem hk,by unfold idxP;rw [h],?_⟩
    exact List.find?_eq_some_iff_getElem.2 ⟨h1,k,hk,rfl,fun j hj=>by simpa using h2 j hj⟩
def apI (l : List Bd) (L : List Nd) (i : Nat) : List Nd:=(L.take i).flatMap (app1 l)
theorem zKL {l : List Bd} {L : List Nd} {i : Nat} {v : Nd} (h : L[i]? = some v) : apI l L (i + 1) = apI l L i ++ app1 l v:=by
  unfold apI;rw [List.take_add_one,h];simp
theorem zKG {l : List Bd} (M : Nat) (hM : ∀ b ∈ l,b.ty.length ≤ M) (h1 : 1 ≤ M) : ∀ (L : List Nd),(L.flatMap (app1 l)).length ≤ L.length * M
  | []=>by simp
  | n :: L=>by
    have ih:=zKG M hM h1 L
    have : (app1 l n).length ≤ M:=by
      unfold app1
      split
      · split
        · rename_i b hb;exact hM b (List.mem_of_find?_eq_some hb)
        · simpa using h1
      · simpa using h1
    simp only [List.flatMap_cons,List.length_append,List.length_cons,Nat.add_mul];omega
set_option maxHeartbeats 1000000 in
theorem zNp (l : List Bd) (L : List Nd) (hl : l.length ≤ 2000000) (hL : L.length ≤ 10000) (hM : ∀ b ∈ l,b.ty.length ≤ 20000) : zAj Tryz.prog 114 [binds l,zAc L] (zAc (zFt l L)):=by
  have hbd : ∀ k,(apI l L k).length ≤ 200000000:=fun k=>by
    have h1:=zKG (l:=l) 20000 hM (by omega) (L.take k)
    have h2 : (L.take k).length ≤ L.length:=by rw [List.length_take];omega
    have h3:=Nat.mul_le_mul_right 20000 (Nat.le_trans h2 hL)
    unfold apI;omega
  refine zAd Tryz.func114 rfl Tryz.ntmps114 Tryz.results114 rfl ?_
  intro wb St0
  repeat' first | apply en_n|apply zAH|apply zAB|apply zAF|apply w0|apply ay (hd:=rfl)|exact zAE rfl|(apply zAl;exact rfl;(with_reducible exact zA0))|exact zAb rfl|apply zAI
  refine zCI 5 false 40 4 rfl rfl ?_
  refine zAr (α:=Nat) (fun i=>i ≤ L.length) (fun i=>[(0,.d (binds l)),(5,.buf 0 ((apI l L i).map Nd.av).length),(9,.d (zAc L)),(10,.d (i64 (L.length : Int))),(11,.d (i64 (i : Int)))]) (fun i=>[.buf false 40 4 ((apI l L i).map Nd.av)]) (fun i=>L.length - i) 0 (Nat.zero_le _)
    (zAO (zAA rfl (zBt rfl rfl (zAA rfl (Le_d rfl rfl (zAA rfl zAa))))) (zAu rfl rfl rfl zAN) rfl rfl) ?_
  intro i hi
  repeat' first | apply en_n|apply zAH|apply zAB|apply zAF|apply w0|(apply k0u (hd:=rfl);exact rfl;exact rfl)|(refine zBB [1] [] rfl rfl zUe (zVK v l hl) rfl ?_ rfl (by decide) rfl rfl rfl rfl;(repeat (refine zAL rfl ?_));exact zAS)|(apply aI (hd:=rfl);(first|exact zAk rfl|exact Co_bb rfl rfl rfl|exact Co_nn rfl);exact rfl;(with_reducible first|exact zFo|exact zAW);exact fun _=>rfl;rotate_left;intro v hv;rotate_right)|(apply aApp (hd:=rfl) (hro:=rfl);exact rfl;exact rfl;(first|exact zAk rfl|exact Co_bb rfl rfl rfl|exact Co_nn rfl);(first|exact rfl|(simp;done));exact rfl;(with_reducible exact zBd);(with_reducible exact zAW);(with_reducible exact zER);(with_reducible exact zDP);(first|exact zCF (fun _=>rfl)|exact zCE rfl))|(apply zA4 (hd:=rfl) (hro:=rfl);(with_reducible exact zAp))|apply ay (hd:=rfl)|exact zAE rfl|exact zAC rfl|(apply zAy;exact rfl;(with_reducible exact fb_1))|(apply zAg;exact rfl;(with_reducible exact zAn))|(apply zAf;exact rfl;(with_reducible exact zAY);exact rfl)|exact zCT rfl rfl|exact zEE rfl rfl|(apply zBC;exact rfl;exact rfl)|exact zAi rfl rfl|exact zAh rfl rfl|exact zAw rfl|exact zAm rfl|(apply zAR;exact rfl;(with_reducible exact fn_0))|(apply zAU;exact rfl;(with_reducible exact zAe);exact rfl;exact rfl)|(apply zCt;exact rfl;(with_reducible exact zAY);exact rfl;exact rfl;exact rfl)|(apply zCC;(with_reducible exact zBd);(with_reducible exact zAW);(with_reducible exact zDQ);exact rfl;exact rfl;(first|exact zAX rfl zAG|exact zC4 rfl rfl rfl zAG|exact zDG rfl zAG);exact rfl)|exact zGA rfl|(apply w1;exact rfl;exact rfl)|(apply gD;exact rfl;exact rfl;(intro hb);rotate_left;(intro hb);rotate_right)|(refine w0' ?_)|(apply zAx;exact rfl;exact rfl;exact rfl;(with_reducible exact zAY);exact rfl;exact rfl;exact rfl;exact rfl)|(apply zAz;exact rfl;(intro hb);rotate_left;(intro hb);rotate_right)|(apply zAK;exact rfl)|apply zAI|apply zAP|apply zAM|apply zAt|apply en_e|apply eb_n|apply eb_e|apply zAJ|(apply zGx;exact rfl;exact rfl;(first|exact rfl|(simp;done)))
  all_goals first | omega | skip
  · have:=hbd i;simp only [List.length_map,List.length_singleton];omega
  · have e:=zKL (l:=l) (i:=i) hv
    rw [app1,if_neg hb] at e
    exact ⟨i + 1,by omega,by omega,zAO (zAA rfl (zBt rfl (by rw [e];simp) (zAA rfl (zAA rfl (zAA rfl zAa))))) (zAu rfl rfl (by rw [e,List.map_append];rfl) zAN) rfl rfl⟩
  · have:=hbd i;simp only [List.length_map,List.length_singleton];omega
  · have e:=zKL (l:=l) (i:=i) hv
    rename_i hk
    rcases zFP (p:=fun b : Bd=>decide (b.var = v.num)) (l:=l) with ⟨f1,_⟩ | ⟨k,x,_,f2,_⟩
    · rw [app1,if_pos (by omega),f1] at e
      exact ⟨i + 1,by omega,by omega,zAO (zAA rfl (zBt rfl (by rw [e];simp) (zAA rfl (zAA rfl (zAA rfl zAa))))) (zAu rfl rfl (by rw [e,List.map_append];rfl) zAN) rfl rfl⟩
    · omega
  · rcases zFP (p:=fun b : Bd=>decide (b.var = v.num)) (l:=l) with ⟨_,f2⟩ | ⟨k,x,f1,f2,_⟩
    · omega
    · have:=(List.getElem?_eq_some_iff.1 f1).1;omega
  · have:=hbd i
    have:=hM v (List.mem_of_getElem? hv)
    simp only [List.length_map];omega
  · rename_i v0 hv0 hk
    have e:=zKL (l:=l) (i:=i) hv0
    rcases zFP (p:=fun b : Bd=>decide (b.var = v0.num)) (l:=l) with ⟨_,f2⟩ | ⟨k,x,f1,f2,f3⟩
    · omega
    · rw [f2,Int.toNat_natCast,f1] at hv
      injection hv with hv;subst hv
      rw [app1,if_pos (by omega),f3] at e
      exact ⟨i + 1,by omega,by omega,zAO (zAA rfl (zBt rfl (by rw [e];simp) (zAA rfl (zAA rfl (zAA rfl zAa))))) (zAu rfl rfl (by rw [e,List.map_append]) zAN) rfl rfl⟩
  · have e : apI l L i = zFt l L:=by unfold apI zFt;rw [List.take_of_length_le (by omega)]
    rw [e];rfl
end Go.Proofs.YtblomnkamngnbaaGreatDoor
namespace Go.Proofs.YtblomnkamngnbaaGreatDoor
open Go.Sx
abbrev Sto:=List (Int × List Nd)
abbrev Seen:=List (Int × Int)
def zBI {β : Type} : List (Int × β) → Int → Option β
  | [],_=>none
  | (k,d) :: r,a=>if k = a then some d else zBI r a
def putA {β : Type} : List (Int × β) → Int → β → List (Int × β)
  | [],a,d=>[(a,d)]
  | (k,e) :: r,a,d=>if k = a then (k,d) :: r else (k,e) :: putA r a d
def encA {β : Type} (f : β → D) (L : List (Int × β)) : List (Int × D):=L.map fun p=>(p.1,f p.2)
theorem zGR {β : Type} (f : β → D) : ∀ (L : List (Int × β)) (a : Int),zCN (encA f L) a = (zBI L a).map f
  | [],a=>rfl
  | (k,d) :: r,a=>by
    simp only [encA,List.map_cons,zCN,zBI]
    split
    · rfl
    · exact zGR f r a
theorem zFb {β : Type} (f : β → D) : ∀ (L : List (Int × β)) (a : Int) (d : β),putK (encA f L) a (f d) = encA f (putA L a d)
  | [],a,d=>rfl
  | (k,e) :: r,a,d=>by
    simp only [encA,List.map_cons,putK,putA]
    split
    · rfl
    · simp only [List.map_cons];congr 1;exact zFb f r a d
abbrev ki : Int → Value:=fun a=>Value.int .i64 a
abbrev mSto (L : Sto) : List (Value × D):=kvs ki (encA zAc L)
abbrev zRa (L : Seen) : List (Value × D):=kvs ki (encA i64 L)
abbrev stO (nx : Int) (L : Sto) : List Ob:=[.bx none none [.d (i64 nx),.mp 1],.map none (mSto L)]
theorem zGP (L : Sto) (a : Int) : (zCN (encA zAc L) a).getD (.slice []) = zAc ((zBI L a).getD []) ∧ (zCN (encA zAc L) a).isSome = (zBI L a).isSome:=by
  rw [zGR];cases zBI L a <;> exact ⟨rfl,rfl⟩
theorem zEc (L : Seen) (a : Int) : (zCN (encA i64 L) a).getD (.val (.int .i64 0)) = i64 ((zBI L a).getD 0):=by
  rw [zGR];cases zBI L a <;> rfl
def zJ2 : Nat → Sto → List Nd → Option (List Nd)
  | 0,_,_=>none
  | n + 1,L,t=>match t[0]? with
    | none=>none
    | some x=>if x.kind = 31 then (match zBI L x.num with | some u=>zJ2 n L u | none=>some t) else some t
def catO {α : Type} (f : α → Option (List Nd)) : List α → Option (List Nd)
  | []=>some []
  | x :: r=>match f x,catO f r with
    | some a,some b=>some (a ++ b)
    | _,_=>none
def resF : Nat → Sto → List Nd → Option (List Nd)
  | 0,_,_=>none
  | n + 1,L,t=>catO (fun (x : Nd)=>if x.kind = 31 then (match zBI L x.num with | some u=>resF n L u | none=>some [x]) else some [x]) t
def zCB {α β : Type} (f : β → α → Option β) : β → List α → Option β
  | b,[]=>some b
  | b,x :: r=>match f b x with
    | some c=>zCB f c r
    | none=>none
def zGu : Nat → Sto → List Nd → Seen → Option (Int × Seen)
  | 0,_,_,_=>none
  | n + 1,L,t,S=>zCB (fun (p : Int × Seen) (x : Nd) =>
      if x.kind = 31 then (match zBI L x.num with
        | some u=>if (zBI p.2 x.num).getD 0 > 0 then some (min (p.1 + (zBI p.2 x.num).getD 0) 4001,p.2) else (match zGu n L u p.2 with
          | some (m,S')=>some (min (p.1 + m) 4001,putA S' x.num m)
          | none=>none)
        | none=>some (min (p.1 + 1) 4001,p.2))
      else some (min (p.1 + 1) 4001,p.2)) (0,S) t
def inF : Nat → Sto → Int → List Nd → Seen → Option (Bool × Seen)
  | 0,_,_,_,_=>none
  | n + 1,L,v,t,S=>zCB (fun (p : Bool × Seen) (x : Nd) =>
      if p.1 then some p
      else if x.kind ≠ 31 ∨ (zBI p.2 x.num).getD 0 > 0 then some p
      else if x.num = v then some (true,putA p.2 x.num ((zBI p.2 x.num).getD 0 + 1))
      else inF n L v ((zBI L x.num).getD []) (putA p.2 x.num ((zBI p.2 x.num).getD 0 + 1))) (false,S) t
def cutO (t : List Nd) (a b : Int) : Option (List Nd):=if 0 ≤ a ∧ a ≤ b ∧ b ≤ t.length then some ((t.take b.toNat).drop a.toNat) else none
def zJo : Nat → Sto → List Nd → List Nd → Option (Int × Sto)
  | 0,_,_,_=>none
  | n + 1,L,a0,b0=>match zJ2 n L a0,zJ2 n L b0 with
    | some a,some b=>match a[0]?,b[0]? with
      | some x,some y =>
        if a.length > 4000 ∨ b.length > 4000 then none
        else if x.kind = 31 ∧ y.kind = 31 then (if x.num ≠ y.num then some (0,putA L (max x.num y.num) (varN (min x.num y.num))) else some (0,L))
        else if y.kind = 31 then zJo n L b a
        else if x.kind = 31 then (match inF n L x.num b [] with
          | some (true,_)=>some (91,L)
          | some (false,_)=>some (0,putA L x.num b)
          | none=>none)
        else if x ≠ y then some (91,L)
        else zCB (fun (p : Int × Sto) (i : Nat)=>if p.1 ≠ 0 then some p else
            match (zBX a 0)[i]?,(zBX b 0)[i]? with
            | some k,some l=>(match cutO a k (endF a k),cutO b l (endF b l) with
              | some u,some v=>zJo n p.2 u v
              | _,_=>none)
            | _,_=>none) (0,L) (List.range (zBX a 0).length)
      | _,_=>none
    | _,_=>none
section
variable {P : Program} {η : List Ob} {σ : Sl} {dst : Option Nat} {ty : TypeId} {pos : String} {after : Array Edge} {gd : Option (Nat × Bool)} {t : TypeId} {x y : Operand}
theorem zDX {id k e : Nat} {q : IntKind} {kb : Option Nat} {L : List (Int × D)} {a : Int} {zd d : D} {b : Bool} (hl : (zCN L a).getD zd = d ∧ (zCN L a).isSome = b) (hx : oval σ x = .mp id) (ho : η[id]? = some (.map kb (kvs (fun a=>.int q a) L))) (hy : oval σ y = .d (.val (.int q a))) (ht : zDf P t = some (k,e)) (hk : P.underlying k = some (.int q)) (hz : zFy P e = some zd) :
    Ylds P η σ ⟨dst,.lookup t x y true,ty,pos,after,gd⟩ (.d (.tup [d,.val (.bool b)])):=by
  obtain ⟨rfl,rfl⟩:=hl;exact zLr hx ho hy ht hk hz
theorem zE2 {id k e : Nat} {q : IntKind} {kb : Option Nat} {L : List (Int × D)} {a : Int} {zd d : D} (hl : (zCN L a).getD zd = d) (hx : oval σ x = .mp id) (ho : η[id]? = some (.map kb (kvs (fun a=>.int q a) L))) (hy : oval σ y = .d (.val (.int q a))) (ht : zDf P t = some (k,e)) (hk : P.underlying k = some (.int q)) (hz : zFy P e = some zd) :
    Ylds P η σ ⟨dst,.lookup t x y false,ty,pos,after,gd⟩ (.d d):=by
  subst hl;exact zTr hx ho hy ht hk hz
end
section
variable {C : Ctx} {ops : Array Oper} {rest : List Oper} {K : Sl → List Ob → Prop} {σ : Sl} {η : List Ob} {ty : TypeId} {pos : String} {after : Array Edge} {gd : Option (Nat × Bool)} {t : TypeId} {x y z : Operand}
theorem zGj {id k e : Nat} {q : IntKind} {kb : Option Nat} {L L' : List (Int × D)} {a : Int} {dv : D} (hp : putK L a dv = L') (hx : oval σ x = .mp id) (ho : η[id]? = some (.map kb (kvs (fun a=>.int q a) L))) (hy : oval σ y = .d (.val (.int q a))) (hz : Co η (oval σ z) dv) (ht : zDf C.P t = some (k,e)) (hk : C.P.underlying k = some (.int q)) (hro : Nat.ble C.ro id = true)
    (h : alex C false ops rest K σ (η.set id (.map kb (kvs (fun a=>.int q a) L')))) : zBA C false ops ⟨none,.mapUpdate t x y z,ty,pos,after,gd⟩ rest K σ η:=by
  subst hp;exact zTn hx ho hy hz ht (zPe hk) hro h
end
theorem zJk {L : Sto} {a : Int} {u : List Nd} (h : zBI L a = some u) : (zCN (encA zAc L) a).getD (.slice []) = zAc u ∧ (zCN (encA zAc L) a).isSome = true:=by
  obtain ⟨h1,h2⟩:=zGP L a;rw [h1,h2,h];exact ⟨rfl,rfl⟩
theorem zMr {L : Sto} {a : Int} (h : zBI L a = none) : (zCN (encA zAc L) a).getD (.slice []) = zAc [] ∧ (zCN (encA zAc L) a).isSome = false:=by
  obtain ⟨h1,h2⟩:=zGP L a;rw [h1,h2,h];exact ⟨rfl,rfl⟩
theorem zGT {β : Type} : ∀ {L : List (Int × β)} {a : Int} {d : β},zBI L a = some d → (a,d) ∈ L
  | (k,e) :: r,a,d,h=>by
    unfold zBI at h
    split at h
    · rename_i hk;injection h with h;subst h;subst hk;simp
    · exact List.mem_cons_of_mem _ (zGT h)
  | [],_,_,h=>by cases h
end Go.Proofs.YtblomnkamngnbaaGreatDoor

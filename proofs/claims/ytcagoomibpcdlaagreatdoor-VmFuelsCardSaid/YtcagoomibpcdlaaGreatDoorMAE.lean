/- Texts of this claim, merged: LexE. -/
import Derived.Test.YtcagoomibpcdlaaGreatDoorMAD
namespace Go.Proofs.YtcagoomibpcdlaaGreatDoor
open Go.Sx
attribute [local irreducible] zAQ Program.underlying Ylds zBD alex zCA zBi awp zAp zCI zCH zAW zA5 zBp zBF zBv zB9 zCE zBn
def idxT(A:List (List UInt8))(b:List UInt8): Int:=if b∈A then((A.takeWhile fun x=>decide (x≠b)).length:Int)else -1
theorem zTP{A:List (List UInt8)}{b:List UInt8}{i:Nat}(h0:∀j,j<i→A[j]?≠some b)(h1:A[i]?=some b): idxT A b=i:=by
 have hm:b∈A:=List.mem_of_getElem? h1
 rw[idxT,if_pos hm]
 congr 1
 induction A generalizing i with
 |nil=>simp at h1
 |cons x r ih =>
  cases i with
  |zero=>simp at h1;simp[List.takeWhile,h1]
  |succ i =>
   have hx:x≠b:=by have:=h0 0 (by omega);simpa using this
   rw[List.takeWhile_cons,if_pos (by simpa using hx),List.length_cons]
   rw[ih (i:=i) (fun j hj=>by have:=h0 (j+1) (by omega);simpa using this) (by simpa using h1) (List.mem_of_getElem? (by simpa using h1))]
theorem zLP{A:List (List UInt8)}{b:List UInt8}(h:b∉A): idxT A b = -1:=if_neg h
theorem zRo(A:List (List UInt8))(b:List UInt8)(hL:A.length≤2000000): zAp Tryz.prog 204 [strs A,str b] (i64 (idxT A b)):=by
 refine zA8 Tryz.func204 rfl Tryz.ntmps204 Tryz.results204 rfl ?_
 intro wb St0
 repeat' first|apply en_n|apply zAK|apply zAA|apply zAF|apply w0|apply ay (hd:=rfl)|exact zAJ rfl|exact zAD rfl|(apply zBZ;exact rfl;(with_reducible exact zG9))|apply zAO
 refine zBo (α:=Nat) (fun i=>i≤A.length∧∀j,j<i→A[j]?≠some b) (fun i=>[(0,.d (strs A)),(1,.d (str b)),(7,.d (i64 (A.length:Int))),(8,.d (i64 (i:Int)))]) (fun _=>[]) (fun i=>A.length-i) 0 ⟨Nat.zero_le _,by omega⟩
   (zAV (zAI rfl (zAI rfl (Le_d rfl (by first|rfl|simp) (zAI rfl zAd)))) zA7 rfl rfl) ?_
 rintro i ⟨hi1,hi2⟩
 repeat' first|apply en_n|apply zAK|apply zAA|apply zAF|apply w0|exact zWm rfl rfl|(apply aI (hd:=rfl);(first|exact zCw rfl|exact zDn rfl rfl rfl|exact Co_nn rfl);exact rfl;(with_reducible exact zFN);exact fun _=>rfl;rotate_left;intro v hv;rotate_right)|apply ay (hd:=rfl)|exact zAJ rfl|exact zAD rfl|(apply zC3;exact rfl;(with_reducible exact zPe))|exact zGm rfl rfl|(apply zBL;exact rfl;exact rfl)|(apply zCO;exact rfl;(intro hb);rotate_left;(intro hb);rotate_right)|apply zAO|apply zAU|apply zAT|apply zBu|apply en_r|apply en_e|apply eb_n|apply eb_r|apply eb_e|apply zAY|(apply res1;exact rfl)
 ·omega
 ·subst hb;rw[zTP hi2 hv]
 ·omega
 ·refine⟨i+1,⟨by omega,fun j hj=>?_⟩,by omega,zAV (zAI rfl (zAI rfl (zAI rfl (zAI rfl zAd)))) zA7 rfl rfl⟩
  rcases Nat.lt_or_ge j i with h1|h1
  ·exact hi2 j h1
  ·rw[show j=i by omega];intro h2;exact hb (Option.some.inj (h2.symm.trans hv))
 ·rw[zLP];intro h1
  obtain⟨j,hj,h2⟩:=List.getElem_of_mem h1
  exact hi2 j (by omega) (by rw[List.getElem?_eq_getElem hj,h2])
theorem zMC(A:List (List UInt8))(b:List UInt8)(hL:A.length≤2000000): zAp Tryz.prog 197 [strs A,str b] (bl (A.contains b)):=by
 refine zA8 Tryz.func197 rfl Tryz.ntmps197 Tryz.results197 rfl ?_
 intro wb St0
 repeat' first|apply en_n|apply zAK|apply zAA|apply zAF|apply w0|(apply zAh (hb:=zTW) (hc:=zRo A b hL))|apply ay (hd:=rfl)|exact zAJ rfl|exact zAD rfl|exact zL3 rfl rfl|apply zAT|apply zAY|(apply res1;exact rfl)|exact zAR|refine zAa rfl ?_
 refine zEa ?_
 by_cases h:b∈A
 ·rw[List.contains_iff_mem.2 h,idxT,if_pos h];exact decide_eq_true (by omega)
 ·rw[show A.contains b=false by simpa using h,zLP h];rfl
theorem zRw: zAp Tryz.prog 198 [] (strs kws):=by
 refine zA8 Tryz.func198 rfl Tryz.ntmps198 Tryz.results198 rfl ?_
 intro wb St0
 repeat' first|apply en_n|apply zAK|apply zAA|apply zAF|apply w0|(apply zAh (hb:=zQq) (hc:=zRp))|apply ay (hd:=rfl)|exact zAD rfl|exact zCB rfl|apply zAT|apply zAY|(apply res1;exact rfl)|exact zAR|refine zAa rfl ?_
 all_goals rfl
theorem zUk(s:List UInt8): zAp Tryz.prog 180 [str s] (bl (zTK s)):=by
 refine zA8 Tryz.func180 rfl Tryz.ntmps180 Tryz.results180 rfl ?_
 intro wb St0
 repeat' first|apply en_n|apply zAK|apply zAA|apply zAF|apply w0|(apply zAh (hb:=zTQ) (hc:=zRw))|(apply zAh (hb:=zMk) (hc:=zMC kws s (by decide)))|apply ay (hd:=rfl)|exact zAJ rfl|exact zAD rfl|apply zAT|apply zAY|(apply res1;exact rfl)|exact zAR|refine zAa rfl ?_
 all_goals rfl
end Go.Proofs.YtcagoomibpcdlaaGreatDoor

/- Parts of the proof. -/
import Derived.Test.YtcagoomibpcdlaaGreatDoorMAE
set_option maxHeartbeats 16000000
namespace Go.Proofs.YtcagoomibpcdlaaGreatDoor
open _root_.Go.Proofs.Tryz
open Go.Sx
attribute [local irreducible] zAN Program.underlying Ylds zA9 alex zB3 zBf awp zAi zCC zCB zAU zAz zBj zBB zBr zB2 zB8 zBi
def idxT(A:List (List UInt8))(b:List UInt8): Int:=if b∈A then((A.takeWhile fun x=>decide (x≠b)).length:Int)else -1
theorem zT6{A:List (List UInt8)}{b:List UInt8}{i:Nat}(h0:∀j,j<i->A[j]?≠some b)(h1:A[i]?=some b): idxT A b=i:=by
 have hm:b∈A:=qAK h1
 rw[idxT,if_pos hm]
 congr 1
 induction A generalizing i with
 |nil=>simp at h1
 |cons x r ih =>
  cases i with
  |zero=>simp at h1;simp[List.takeWhile,h1]
  |succ i =>
   have hx:x≠b:=by have:=h0 0 (by omega);simpa using this
   rw[List.takeWhile_cons,if_pos (by simpa using hx),qAS]
   rw[ih (i:=i) (fun j hj=>by have:=h0 (j+1) (by omega);simpa using this) (by simpa using h1) (qAK (by simpa using h1))]
theorem zLr{A:List (List UInt8)}{b:List UInt8}(h:b∉A): idxT A b = -1:=if_neg h
theorem zSS(A:List (List UInt8))(b:List UInt8)(hL:A.length<=2000000): zAi prog 204 [strs A,str b] (i64 (idxT A b)):=by
 refine zAs func204 rfl ntmps204 results204 rfl ?_
 intro wb St0
 repeat' first|apply en_n|apply zAH|apply zAA|apply zAD|apply w0|apply ay (hd:=rfl)|exact zAF rfl|exact zAB rfl|exact zBI rfl zHO|apply zAL
 refine zBW (α:=Nat) (fun i=>i<=A.length/\∀j,j<i->A[j]?≠some b) (fun i=>[(0,.d (strs A)),(1,.d (str b)),(7,.d (i64 (A.length:Int))),(8,.d (i64 (i:Int)))]) (fun _=>[]) (fun i=>A.length-i) 0 ⟨qAX _,by omega⟩
   (zAT (Le_cons rfl (Le_cons rfl (Le_d rfl (by first|rfl|simp) (Le_all rfl)))) zAt rfl rfl) ?_
 rintro i ⟨hi1,hi2⟩
 repeat' first|apply en_n|apply zAH|apply zAA|apply zAD|apply w0|exact zXd rfl rfl|(apply aI (hd:=rfl);(first|exact zCW rfl|exact zC3 rfl rfl rfl|exact Co_nn rfl);exact rfl;(with_reducible exact zFg);exact fun _=>rfl;rotate_left;intro v hv;rotate_right)|apply ay (hd:=rfl)|exact zAF rfl|exact zAB rfl|exact zCb rfl zQF|exact zEw rfl rfl|refine zBE rfl rfl ?_|(apply zBT;exact rfl;all_goals intro hb)|apply zAL|apply zAS|apply zAQ|apply zBc|apply en_r|apply en_e|apply eb_n|apply eb_r|apply eb_e|apply zAR|refine res1 rfl ?_
 ·omega
 ·subst hb;rw[zT6 hi2 hv]
 ·omega
 ·refine⟨i+1,⟨by omega,fun j hj=>?_⟩,by omega,zAT (Le_all rfl) zAt rfl rfl⟩
  rcases qAR j i with h1|h1
  ·exact hi2 j h1
  ·rw[show j=i by omega];intro h2;exact hb (qA8 (h2.symm.trans hv))
 ·rw[zLr];intro h1
  obtain⟨j,hj,h2⟩:=List.getElem_of_mem h1
  exact hi2 j (by omega) (by rw[qAB hj,h2])
theorem zMe(A:List (List UInt8))(b:List UInt8)(hL:A.length<=2000000): zAi prog 197 [strs A,str b] (bl (A.contains b)):=by
 refine zAs func197 rfl ntmps197 results197 rfl ?_
 intro wb St0
 repeat' first|apply en_n|apply zAH|apply zAA|apply zAD|apply w0|(apply zAb (hb:=zUE) (hc:=zSS A b hL))|apply ay (hd:=rfl)|exact zAF rfl|exact zAB rfl|exact zJp rfl rfl|apply zAQ|apply zAR|refine res1 rfl ?_|exact zAM|refine zAY rfl ?_
 refine zDi ?_
 by_cases h:b∈A
 ·rw[List.contains_iff_mem.2 h,idxT,if_pos h];exact decide_eq_true (by omega)
 ·rw[show A.contains b=false by simpa using h,zLr h];rfl
theorem zSa: zAi prog 198 [] (strs kws):=by
 refine zAs func198 rfl ntmps198 results198 rfl ?_
 intro wb St0
 repeat' first|apply en_n|apply zAH|apply zAA|apply zAD|apply w0|(apply zAb (hb:=zRR) (hc:=zST))|apply ay (hd:=rfl)|exact zAB rfl|exact zCD rfl|apply zAQ|apply zAR|refine res1 rfl ?_|exact zAM|refine zAY rfl ?_
 all_goals rfl
theorem zVY(s:List UInt8): zAi prog 180 [str s] (bl (zT0 s)):=by
 refine zAs func180 rfl ntmps180 results180 rfl ?_
 intro wb St0
 repeat' first|apply en_n|apply zAH|apply zAA|apply zAD|apply w0|(apply zAb (hb:=zT7) (hc:=zSa))|(apply zAb (hb:=zNF) (hc:=zMe kws s (by decide)))|apply ay (hd:=rfl)|exact zAF rfl|exact zAB rfl|apply zAQ|apply zAR|refine res1 rfl ?_|exact zAM|refine zAY rfl ?_
 all_goals rfl
end Go.Proofs.YtcagoomibpcdlaaGreatDoor

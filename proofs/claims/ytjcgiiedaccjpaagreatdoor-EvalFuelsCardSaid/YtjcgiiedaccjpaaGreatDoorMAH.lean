/- Parts. -/
import Derived.Test.YtjcgiiedaccjpaaGreatDoorMAG
set_option maxHeartbeats 16000000
namespace Go.Proofs.YtjcgiiedaccjpaaGreatDoor
open _root_.Go.Proofs.Tryz
open Go.Sx
attribute [local irreducible] zAK Program.underlying Ylds zA3 alex zBc zBL awp zAc zBd zBi zBD zBI zBS zA5 zBT zBY zBe zBs
def idxT(A:List (List UInt8))(b:List UInt8): Int:=if b∈A then((A.takeWhile fun x=>decide (x≠b)).length:Int)else -1
theorem zRL{A:List (List UInt8)}{b:List UInt8}{i:Nat}(h0:∀j,j<i->A[j]?≠some b)(h1:A[i]?=some b): idxT A b=i:=by
 have hm:b∈A:=qAE h1
 rw[idxT,if_pos hm]
 congr 1
 induction A generalizing i with
 |nil=>simp at h1
 |cons x r ih =>
  cases i with
  |zero=>simp at h1;simp[List.takeWhile,h1]
  |succ i =>
   have hx:x≠b:=by have:=h0 0 (by omega);simpa using this
   rw[List.takeWhile_cons,if_pos (by simpa using hx),qAJ]
   rw[ih (i:=i) (fun j hj=>by have:=h0 (j+1) (by omega);simpa using this) (by simpa using h1) (qAE (by simpa using h1))]
theorem zKC{A:List (List UInt8)}{b:List UInt8}(h:b∉A): idxT A b = -1:=if_neg h
theorem zQj(A:List (List UInt8))(b:List UInt8)(hL:A.length<=2000000): zAc prog 204 [strs A,str b] (i64 (idxT A b)):=by
 refine zAX func204 rfl ntmps204 results204 rfl ?_
 intro wb St0
 repeat' first|apply en_n|apply zAE|apply zAA|apply zAD|apply w0|apply ay (hd:=rfl)|exact zAC rfl|exact zAB rfl|exact zAo rfl zCa|apply zAI
 refine zAv (α:=Nat) (fun i=>i<=A.length/\∀j,j<i->A[j]?≠some b) (fun i=>[(0,.d (strs A)),(1,.d (str b)),(7,.d (i64 (A.length:Int))),(8,.d (i64 (i:Int)))]) (fun _=>[]) (fun i=>A.length-i) 0 ⟨qAR _,by omega⟩
   (zAV (Le_cons rfl (Le_cons rfl (Le_d rfl (by first|rfl|simp) (Le_all rfl)))) zAW rfl rfl) ?_
 rintro i ⟨hi1,hi2⟩
 repeat' first|apply en_n|apply zAE|apply zAA|apply zAD|apply w0|exact zLt rfl rfl|(apply aI (hd:=rfl);(first|exact zAq rfl|exact Co_bb rfl rfl rfl|exact Co_nn rfl);exact rfl;(with_reducible exact zBZ);exact fun _=>rfl;rotate_left;intro v hv;rotate_right)|apply ay (hd:=rfl)|exact zAC rfl|exact zAB rfl|exact zAR rfl zOR|exact zCs rfl rfl|refine zBE rfl rfl ?_|(apply zAw;exact rfl;all_goals intro hb)|apply zAI|apply zAO|apply zAM|apply zA0|apply en_r|apply en_e|apply eb_n|apply eb_r|apply eb_e|apply zAL|refine res1 rfl ?_
 ·omega
 ·subst hb;rw[zRL hi2 hv]
 ·omega
 ·refine⟨i+1,⟨by omega,fun j hj=>?_⟩,by omega,zAV (Le_all rfl) zAW rfl rfl⟩
  rcases qAI j i with h1|h1
  ·exact hi2 j h1
  ·rw[show j=i by omega];intro h2;exact hb (qA8 (h2.symm.trans hv))
 ·rw[zKC];intro h1
  obtain⟨j,hj,h2⟩:=List.getElem_of_mem h1
  exact hi2 j (by omega) (by rw[qAB hj,h2])
theorem zGz(A:List (List UInt8))(b:List UInt8)(hL:A.length<=2000000): zAc prog 173 [strs A,str b] (bl (A.contains b)):=by
 refine zAX func173 rfl ntmps173 results173 rfl ?_
 intro wb St0
 repeat' first|apply en_n|apply zAE|apply zAA|apply zAD|apply w0|(apply zAU (hb:=zRU) (hc:=zQj A b hL))|apply ay (hd:=rfl)|exact zAC rfl|exact zAB rfl|exact zFn rfl rfl|apply zAM|apply zAL|refine res1 rfl ?_|exact zAF|refine zAP rfl ?_
 refine zBo ?_
 by_cases h:b∈A
 ·rw[List.contains_iff_mem.2 h,idxT,if_pos h];exact decide_eq_true (by omega)
 ·rw[show A.contains b=false by simpa using h,zKC h];rfl
theorem zQq: zAc prog 185 [] (strs kws):=by
 refine zAX func185 rfl ntmps185 results185 rfl ?_
 intro wb St0
 repeat' first|apply en_n|apply zAE|apply zAA|apply zAD|apply w0|(apply zAU (hb:=zPL) (hc:=zQk))|apply ay (hd:=rfl)|exact zAB rfl|exact zA4 rfl|apply zAM|apply zAL|refine res1 rfl ?_|exact zAF|refine zAP rfl ?_
 all_goals rfl
theorem zSu(s:List UInt8): zAc prog 155 [str s] (bl (zRI s)):=by
 refine zAX func155 rfl ntmps155 results155 rfl ?_
 intro wb St0
 exact yU

/- Parts of the proof. -/
import Derived.Test.YtcagoomibpcdlaaGreatDoorMAD
set_option maxHeartbeats 16000000
namespace Go.Proofs.YtcagoomibpcdlaaGreatDoor
open _root_.Go.Proofs.Tryz
open Go.Sx
attribute [local irreducible] zAO Program.underlying Ylds zBE alex zB0 zBk awp zAg zB9 zB8 zAU zA6 zBn zBC zBq zBz zB7 zBm
def idxT(A:List (List UInt8))(b:List UInt8): Int:=if b∈A then((A.takeWhile fun x=>decide (x≠b)).length:Int)else -1
theorem zUq{A:List (List UInt8)}{b:List UInt8}{i:Nat}(h0:∀j,j<i->A[j]?≠some b)(h1:A[i]?=some b): idxT A b=i:=by
 have hm:b∈A:=qAH h1
 rw[idxT,if_pos hm]
 congr 1
 induction A generalizing i with
 |nil=>simp at h1
 |cons x r ih =>
  cases i with
  |zero=>simp at h1;simp[List.takeWhile,h1]
  |succ i =>
   have hx:x≠b:=by have:=h0 0 (by omega);simpa using this
   rw[List.takeWhile_cons,if_pos (by simpa using hx),qAP]
   rw[ih (i:=i) (fun j hj=>by have:=h0 (j+1) (by omega);simpa using this) (by simpa using h1) (qAH (by simpa using h1))]
theorem zMR{A:List (List UInt8)}{b:List UInt8}(h:b∉A): idxT A b = -1:=if_neg h
theorem zTD(A:List (List UInt8))(b:List UInt8)(hL:A.length<=2000000): zAg prog 204 [strs A,str b] (i64 (idxT A b)):=by
 refine zAr func204 rfl ntmps204 results204 rfl ?_
 intro wb St0
 repeat' first|apply en_n|apply zAG|apply zAA|apply zAD|apply w0|apply ay (hd:=rfl)|exact zAF rfl|exact zAB rfl|exact zBD rfl zSO|apply zAK
 refine zBV (α:=Nat) (fun i=>i<=A.length/\∀j,j<i->A[j]?≠some b) (fun i=>[(0,.d (strs A)),(1,.d (str b)),(7,.d (i64 (A.length:Int))),(8,.d (i64 (i:Int)))]) (fun _=>[]) (fun i=>A.length-i) 0 ⟨qAV _,by omega⟩
   (zAS (Le_cons rfl (Le_cons rfl (Le_d rfl (by first|rfl|simp) (Le_all rfl)))) zAs rfl rfl) ?_
 rintro i ⟨hi1,hi2⟩
 repeat' first|apply en_n|apply zAG|apply zAA|apply zAD|apply w0|exact zS2 rfl rfl|(apply aI (hd:=rfl);(first|exact zCQ rfl|exact zCp rfl rfl rfl|exact Co_nn rfl);exact rfl;(with_reducible exact zGe);exact fun _=>rfl;rotate_left;intro v hv;rotate_right)|apply ay (hd:=rfl)|exact zAF rfl|exact zAB rfl|exact zCK rfl zLv|exact zEM rfl rfl|refine zBG rfl rfl ?_|(apply zBa;exact rfl;all_goals intro hb)|apply zAK|apply zAR|apply zAQ|apply zBX|apply en_r|apply en_e|apply eb_n|apply eb_r|apply eb_e|apply zAT|refine res1 rfl ?_
 ·omega
 ·subst hb;rw[zUq hi2 hv]
 ·omega
 ·refine⟨i+1,⟨by omega,fun j hj=>?_⟩,by omega,zAS (Le_all rfl) zAs rfl rfl⟩
  rcases qAQ j i with h1|h1
  ·exact hi2 j h1
  ·rw[show j=i by omega];intro h2;exact hb (qBB (h2.symm.trans hv))
 ·rw[zMR];intro h1
  obtain⟨j,hj,h2⟩:=List.getElem_of_mem h1
  exact hi2 j (by omega) (by rw[qAB hj,h2])
theorem zND(A:List (List UInt8))(b:List UInt8)(hL:A.length<=2000000): zAg prog 197 [strs A,str b] (bl (A.contains b)):=by
 refine zAr func197 rfl ntmps197 results197 rfl ?_
 intro wb St0
 repeat' first|apply en_n|apply zAG|apply zAA|apply zAD|apply w0|(apply zAd (hb:=zUx) (hc:=zTD A b hL))|apply ay (hd:=rfl)|exact zAF rfl|exact zAB rfl|exact zH9 rfl rfl|apply zAQ|apply zAT|refine res1 rfl ?_|exact zAM|refine zAY rfl ?_
 refine zDR ?_
 by_cases h:b∈A
 ·rw[List.contains_iff_mem.2 h,idxT,if_pos h];exact decide_eq_true (by omega)
 ·rw[show A.contains b=false by simpa using h,zMR h];rfl
theorem zTL: zAg prog 198 [] (strs kws):=by
 refine zAr func198 rfl ntmps198 results198 rfl ?_
 intro wb St0
 repeat' first|apply en_n|apply zAG|apply zAA|apply zAD|apply w0|(apply zAd (hb:=zSE) (hc:=zTE))|apply ay (hd:=rfl)|exact zAB rfl|exact zBN rfl|apply zAQ|apply zAT|refine res1 rfl ?_|exact zAM|refine zAY rfl ?_
 all_goals rfl
theorem zWD(s:List UInt8): zAg prog 180 [str s] (bl (zP7 s)):=by
 refine zAr func180 rfl ntmps180 results180 rfl ?_
 intro wb St0
 repeat' first|apply en_n|apply zAG|apply zAA|apply zAD|apply w0|(apply zAd (hb:=zUr) (hc:=zTL))|(apply zAd (hb:=zNn) (hc:=zND kws s (by decide)))|apply ay (hd:=rfl)|exact zAF rfl|exact zAB rfl|apply zAQ|apply zAT|refine res1 rfl ?_|exact zAM|refine zAY rfl ?_
 all_goals rfl
theorem zPT{η:List Ob}{σ:Sl}: ∀L:List (List UInt8),CoL η σ (L.map fun l=>Operand.const (.string ⟨l.toArray⟩)) (L.map str)
 |[]=>zAM
 |_::r=>zAY rfl (zPT r)
theorem zRE: zAg prog 195 [] (strs kws):=by
 refine zAr func195 rfl ntmps195 results195 rfl ?_
 intro wb St0
 repeat' first|apply en_n|apply zAG|apply zAA|apply zAD|apply w0|(refine zYM (sz:=1) (ds:=kws.map str) (xs:=kws.map fun l=>Operand.const (.string ⟨l.toArray⟩)) zG7 zGe zN4 rfl (by decide) rfl rfl (zPT kws) (by decide) rfl)|apply ay (hd:=rfl)|exact zAB rfl|exact zBN rfl|apply zAQ|apply zAT|refine res1 rfl ?_
 all_goals rfl
theorem zW8(s:List UInt8): zAg prog 176 [str s] (bl (zP7 s)):=by
 refine zAr func176 rfl ntmps176 results176 rfl ?_
 intro wb St0
 repeat' first|apply en_n|apply zAG|apply zAA|apply zAD|apply w0|(apply zAd (hb:=zSD) (hc:=zRE))|apply ay (hd:=rfl)|exact zAB rfl|apply zAK|exact zAM
 refine zBV (α:=Nat) (fun i=>i<=kws.length/\∀j,j<i->kws[j]?≠some s) (fun i=>[(0,.d (str s)),(3,.d (strs kws)),(4,.d (i64 (i:Int)))]) (fun _=>[]) (fun i=>kws.length-i) 0 ⟨qAV _,by omega⟩
   (zAS (Le_all rfl) zAs rfl rfl) ?_
 rintro i ⟨hi1,hi2⟩
 have hk:kws.length=25:=rfl
 repeat' first|apply en_n|apply zAG|apply zAA|apply zAD|apply w0|exact zS2 rfl rfl|(apply aI (hd:=rfl);(first|exact zCQ rfl|exact zCp rfl rfl rfl|exact Co_nn rfl);exact rfl;(with_reducible exact zGe);exact fun _=>rfl;rotate_left;intro v hv;rotate_right)|apply ay (hd:=rfl)|exact zAF rfl|exact zAB rfl|exact zCK rfl zLv|exact zBD rfl zSO|exact zEM rfl rfl|refine zBG rfl rfl ?_|(apply zBa;exact rfl;all_goals intro hb)|apply zAK|apply zAR|apply zAQ|apply zBX|apply en_r|apply en_e|apply eb_n|apply eb_r|apply eb_e|apply zAT|refine res1 rfl ?_
 ·omega
 ·subst hb;exact zDR (List.contains_iff_mem.2 (qAH hv)).symm
 ·omega
 ·refine⟨i+1,⟨by omega,fun j hj=>?_⟩,by omega,zAS (Le_all rfl) zAs rfl rfl⟩
  rcases qAQ j i with h1|h1
  ·exact hi2 j h1
  ·rw[show j=i by omega];intro h2;exact hb (qBB (hv.symm.trans h2))
 ·refine zDR ?_
  symm;rw[zP7,<-Bool.not_eq_true];intro h1
  obtain⟨j,hj,h2⟩:=List.getElem_of_mem (List.contains_iff_mem.1 h1)
  exact hi2 j (by omega) (by rw[qAB hj,h2])
end Go.Proofs.YtcagoomibpcdlaaGreatDoor

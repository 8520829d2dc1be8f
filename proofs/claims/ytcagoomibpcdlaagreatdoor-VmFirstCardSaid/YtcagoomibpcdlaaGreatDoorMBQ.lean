/- Parts of the proof. -/
import Derived.Test.YtcagoomibpcdlaaGreatDoorMBN
set_option maxHeartbeats 16000000
namespace Go.Proofs.YtcagoomibpcdlaaGreatDoor
open _root_.Go.Proofs.Tryz
open Go.Sx Go.Vm
section
variable {P:Program}{η:List Ob}{σ:Sl}{dst:Option Nat}{ty:TypeId}{pos:String}{after:Array Edge}{gd:Option (Nat×Bool)}{t:TypeId}{x y:Operand}{yt:TypeId}
theorem zOk{xs:List D}(hx:oval σ x=.d (.slice xs))(hy:oval σ y=.nil)(hu:(zBe P t).isSome=true): Ylds P η σ ⟨dst,.binOp .eql t x y yt,ty,pos,after,gd⟩ (.p isB):=by
 obtain⟨e,he⟩:=qA5.1 hu
 refine Ylds.same fun g w a hi h=>?_
 have h1:=h x (by simp[Op.operands]);rw[hx]at h1
 have h2:=h y (by simp[Op.operands]);rw[hy]at h2
 change RepD _ _ _ _ at h1
 change _=_ at h2
 generalize hv:a.eval x=v at h1
 cases h1 with
 |slice ad len cap sz _ us hlen hcap hm hsz hus hone hcell =>
  obtain⟨b,hb,_⟩:=zI8 (P:=P) (x:=x) (y:=y) w he ad len cap
  refine⟨.bool b,?_,b,rfl⟩
  simp only[Sem.run_bind]at hb
  simp only[execOp,hv,h2,Sem.run_bind,hb,Result.andThen_ok,Sem.run_pure]
end
attribute [local irreducible] zAN Program.underlying Ylds zA9 alex zB3 zBf awp zAi zCC zCB zAU zBl zAz zDt zBq zBj zBB zBr zB2 zB8 zD7 zBi zBd zBg JFit
theorem zMf(l:List Int)(hl:l.length<=2000000): zAi prog 123 [zCK l] (zCK l):=by
 refine zAs func123 rfl ntmps123 results123 rfl ?_
 intro wb St0
 by_cases hne:l=[]
 ·subst hne
  repeat' first|apply en_n|apply zAH|apply zAA|apply zAD|apply w0|(refine zOk rfl rfl zCc)|(refine zJi rfl ?_ ?_)|(apply zPs (hd:=rfl) (hro:=rfl);exact zA7;exact zBJ;exact zCL;exact rfl)|(apply aApp (hd:=rfl) (hro:=rfl);exact rfl;exact rfl;(first|exact zCW rfl|exact zC3 rfl rfl rfl|exact Co_nn rfl);(first|exact rfl|(simp;done));exact rfl;(with_reducible exact zA7);(with_reducible exact zBJ);(with_reducible exact zJ4);(with_reducible exact zIE);(first|exact zGQ (fun _=>rfl)|exact zEA rfl))|apply ay (hd:=rfl)|exact zAF rfl|exact zCD rfl|exact zAy rfl|apply zAS|apply zAQ|apply en_r|apply zAR|refine zZo rfl ?_|(apply zZp;exact rfl;exact rfl;(first|exact rfl|(simp;done)))
  ·rfl
  ·exact⟨by decide,by decide⟩
  ·rfl
 ·skip
  repeat' first|apply en_n|apply zAH|apply zAA|apply zAD|apply w0|(apply zOl;exact rfl;exact rfl;exact(by simpa using hne);with_reducible exact zCc)|(apply zPs (hd:=rfl) (hro:=rfl);exact zA7;exact zBJ;exact zCL;exact rfl)|(apply aApp (hd:=rfl) (hro:=rfl);exact rfl;exact rfl;(first|exact zCW rfl|exact zC3 rfl rfl rfl|exact Co_nn rfl);(first|exact rfl|(simp;done));exact rfl;(with_reducible exact zA7);(with_reducible exact zBJ);(with_reducible exact zJ4);(with_reducible exact zIE);(first|exact zGQ (fun _=>rfl)|exact zEA rfl))|apply ay (hd:=rfl)|exact zAF rfl|exact zCD rfl|exact zAy rfl|refine zAJ rfl ?_|apply zAS|apply zAQ|apply zAR
  ·simp only[qAC];omega
  ·exact⟨_,_,_,rfl,by simp,by rw[qAi (by simp)];rfl⟩
theorem CloneI_row(l:List Int)(hl:l.length<=2000000): zDt prog 123 [.d (zCK l)] [] l.length 3 1 (l.map ival):=by
 refine zOI func123 rfl ntmps123 results123 rfl ?_
 intro wb St0
 by_cases hne:l=[]
 ·subst hne
  repeat' first|apply en_n|apply zAH|apply zAA|apply zAD|apply w0|(refine zOk rfl rfl zCc)|(refine zJi rfl ?_ ?_)|(apply zPs (hd:=rfl) (hro:=rfl);exact zA7;exact zBJ;exact zCL;exact rfl;refine zHu 0 rfl ?_)|(apply aApp (hd:=rfl) (hro:=rfl);exact rfl;exact rfl;(first|exact zCW rfl|exact zC3 rfl rfl rfl|exact Co_nn rfl);(first|exact rfl|(simp;done));exact rfl;(with_reducible exact zA7);(with_reducible exact zBJ);(with_reducible exact zJ4);(with_reducible exact zIE);(first|exact zGQ (fun _=>rfl)|exact zEA rfl))|apply ay (hd:=rfl)|exact zAF rfl|exact zCD rfl|exact zAy rfl|apply zAS|apply zAQ|apply en_r
  ·exact zFs ⟨_,rfl,.inl ⟨rfl,rfl,rfl⟩⟩
  ·exact⟨by decide,by decide⟩
  ·exact zFs ⟨_,rfl,.inr ⟨0,rfl,rfl,rfl⟩⟩
 ·skip
  repeat' first|apply en_n|apply zAH|apply zAA|apply zAD|apply w0|(apply zOl;exact rfl;exact rfl;exact(by simpa using hne);with_reducible exact zCc)|(apply zPs (hd:=rfl) (hro:=rfl);exact zA7;exact zBJ;exact zCL;exact rfl;refine zHu 0 rfl ?_)|(apply aApp (hd:=rfl) (hro:=rfl);exact rfl;exact rfl;(first|exact zCW rfl|exact zC3 rfl rfl rfl|exact Co_nn rfl);(first|exact rfl|(simp;done));exact rfl;(with_reducible exact zA7);(with_reducible exact zBJ);(with_reducible exact zJ4);(with_reducible exact zIE);(first|exact zGQ (fun _=>rfl)|exact zEA rfl))|apply ay (hd:=rfl)|exact zAF rfl|exact zCD rfl|exact zAy rfl|refine zAJ rfl ?_|apply zAS|apply zAQ
  ·rw[qAC];omega
  ·exact zFs ⟨_,rfl,.inr ⟨0,rfl,(by show SV.buf 0 (0+(l.map ival).length)=_;rw[qAC,qAU]),rfl⟩⟩
end Go.Proofs.YtcagoomibpcdlaaGreatDoor

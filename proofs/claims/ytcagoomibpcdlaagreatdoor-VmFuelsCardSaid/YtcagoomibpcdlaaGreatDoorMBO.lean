/- Texts of this claim, merged: VmDH. -/
import Derived.Test.YtcagoomibpcdlaaGreatDoorMBD
namespace Go.Proofs.YtcagoomibpcdlaaGreatDoor
open Go.Sx Go.Vm
section
variable {P:Program}{η:List Ob}{σ:Sl}{dst:Option Nat}{ty:TypeId}{pos:String}{after:Array Edge}{gd:Option (Nat×Bool)}{t:TypeId}{x y:Operand}{yt:TypeId}
theorem zN9{xs:List D}(hx:oval σ x=.d (.slice xs))(hy:oval σ y=.nil)(hu:(zBc P t).isSome=true): Ylds P η σ ⟨dst,.binOp .eql t x y yt,ty,pos,after,gd⟩ (.p isB):=by
 obtain⟨e,he⟩:=Option.isSome_iff_exists.1 hu
 refine Ylds.same fun g w a hi h=>?_
 have h1:=h x (by simp[Op.operands]);rw[hx]at h1
 have h2:=h y (by simp[Op.operands]);rw[hy]at h2
 change RepD _ _ _ _ at h1
 change _=_ at h2
 generalize hv:a.eval x=v at h1
 cases h1 with
 |slice ad len cap sz _ us hlen hcap hm hsz hus hone hcell =>
  obtain⟨b,hb,_⟩:=zIr (P:=P) (x:=x) (y:=y) w he ad len cap
  refine⟨.bool b,?_,b,rfl⟩
  simp only[Sem.run_bind]at hb
  simp only[execOp,hv,h2,Sem.run_bind,hb,Result.andThen_ok,Sem.run_pure]
end
attribute [local irreducible] zAQ Program.underlying Ylds zBD alex zCA zBi awp zAp zCI zCH zAW zBw zA5 zD4 zB0 zBp zBF zBv zB9 zCE zES zBn zBm zBs JFit
theorem zMD(l:List Int)(hl:l.length≤2000000): zAp Tryz.prog 123 [zCL l] (zCL l):=by
 refine zA8 Tryz.func123 rfl Tryz.ntmps123 Tryz.results123 rfl ?_
 intro wb St0
 by_cases hne:l=[]
 ·subst hne
  repeat' first|apply en_n|apply zAK|apply zAA|apply zAF|apply w0|(refine zN9 rfl rfl zCY)|(refine zJR rfl ?_ ?_)|(apply zPF (hd:=rfl) (hro:=rfl);exact zBA;exact zBK;exact zCM;exact rfl)|(apply aApp (hd:=rfl) (hro:=rfl);exact rfl;exact rfl;(first|exact zCw rfl|exact zDn rfl rfl rfl|exact Co_nn rfl);(first|exact rfl|(simp;done));exact rfl;(with_reducible exact zBA);(with_reducible exact zBK);(with_reducible exact zJj);(with_reducible exact zHx);(first|exact zF5 (fun _=>rfl)|exact zDv rfl))|apply ay (hd:=rfl)|exact zAJ rfl|exact zCB rfl|exact zAz rfl|apply zAU|apply zAT|apply en_r|apply zAY|(apply zY3;exact rfl)|(apply zY4;exact rfl;exact rfl;(first|exact rfl|(simp;done)))
  ·rfl
  ·exact⟨by decide,by decide⟩
  ·rfl
 ·skip
  repeat' first|apply en_n|apply zAK|apply zAA|apply zAF|apply w0|(apply zOA;exact rfl;exact rfl;exact(by simpa using hne);with_reducible exact zCY)|(apply zPF (hd:=rfl) (hro:=rfl);exact zBA;exact zBK;exact zCM;exact rfl)|(apply aApp (hd:=rfl) (hro:=rfl);exact rfl;exact rfl;(first|exact zCw rfl|exact zDn rfl rfl rfl|exact Co_nn rfl);(first|exact rfl|(simp;done));exact rfl;(with_reducible exact zBA);(with_reducible exact zBK);(with_reducible exact zJj);(with_reducible exact zHx);(first|exact zF5 (fun _=>rfl)|exact zDv rfl))|apply ay (hd:=rfl)|exact zAJ rfl|exact zCB rfl|exact zAz rfl|(apply zAM;exact rfl)|apply zAU|apply zAT|apply zAY
  ·simp only[List.length_map];omega
  ·exact⟨_,_,_,rfl,by simp,by rw[List.take_of_length_le (by simp)];rfl⟩
theorem CloneI_row(l:List Int)(hl:l.length≤2000000): zD4 Tryz.prog 123 [.d (zCL l)] [] l.length 3 1 (l.map ival):=by
 refine zNm Tryz.func123 rfl Tryz.ntmps123 Tryz.results123 rfl ?_
 intro wb St0
 by_cases hne:l=[]
 ·subst hne
  repeat' first|apply en_n|apply zAK|apply zAA|apply zAF|apply w0|(refine zN9 rfl rfl zCY)|(refine zJR rfl ?_ ?_)|(apply zPF (hd:=rfl) (hro:=rfl);exact zBA;exact zBK;exact zCM;exact rfl;refine zHe 0 rfl ?_)|(apply aApp (hd:=rfl) (hro:=rfl);exact rfl;exact rfl;(first|exact zCw rfl|exact zDn rfl rfl rfl|exact Co_nn rfl);(first|exact rfl|(simp;done));exact rfl;(with_reducible exact zBA);(with_reducible exact zBK);(with_reducible exact zJj);(with_reducible exact zHx);(first|exact zF5 (fun _=>rfl)|exact zDv rfl))|apply ay (hd:=rfl)|exact zAJ rfl|exact zCB rfl|exact zAz rfl|apply zAU|apply zAT|apply en_r
  ·exact zFZ ⟨_,rfl,.inl ⟨rfl,rfl,rfl⟩⟩
  ·exact⟨by decide,by decide⟩
  ·exact zFZ ⟨_,rfl,.inr ⟨0,rfl,rfl,rfl⟩⟩
 ·skip
  repeat' first|apply en_n|apply zAK|apply zAA|apply zAF|apply w0|(apply zOA;exact rfl;exact rfl;exact(by simpa using hne);with_reducible exact zCY)|(apply zPF (hd:=rfl) (hro:=rfl);exact zBA;exact zBK;exact zCM;exact rfl;refine zHe 0 rfl ?_)|(apply aApp (hd:=rfl) (hro:=rfl);exact rfl;exact rfl;(first|exact zCw rfl|exact zDn rfl rfl rfl|exact Co_nn rfl);(first|exact rfl|(simp;done));exact rfl;(with_reducible exact zBA);(with_reducible exact zBK);(with_reducible exact zJj);(with_reducible exact zHx);(first|exact zF5 (fun _=>rfl)|exact zDv rfl))|apply ay (hd:=rfl)|exact zAJ rfl|exact zCB rfl|exact zAz rfl|(apply zAM;exact rfl)|apply zAU|apply zAT
  ·rw[List.length_map];omega
  ·exact zFZ ⟨_,rfl,.inr ⟨0,rfl,(by show SV.buf 0 (0+(l.map ival).length)=_;rw[List.length_map,Nat.zero_add]),rfl⟩⟩
end Go.Proofs.YtcagoomibpcdlaaGreatDoor

/- Parts. -/
import Derived.Test.YtjcgiiedaccjpaaGreatDoorMBE
set_option maxHeartbeats 16000000
namespace Go.Proofs.YtjcgiiedaccjpaaGreatDoor
open _root_.Go.Proofs.Tryz
open Go.Sx
attribute [local irreducible] zAK Program.underlying Ylds zA3 alex zBc zBL awp zAc zBd zBi zBD zBI zBS zA5 zBT zBY zBe zBs zBN VCall
theorem zPh{L:List Nd}(hL:L.length<=2000000){m:Nat}(_ih:zGy L m)(n:Nat)(x:Nd)(ks:List Tr)(S:Bag)(F:List (List UInt8))(b:Nat)(hk:x.kind=3)(hm:Tr.sz (.mk x ks)<=m+1)(h:At L n (.mk x ks))(hw:Tr.werr (.mk x ks) false=0)(_hS:GoodB S)(_hb:∀a,lkB S a<=b)(hb2:b+Tr.sz (.mk x ks)<=1000000)(hF:F.length+Tr.sz (.mk x ks)<=1000000):
  zBD prog 143 [.ptr 0 0,.d (i64 (n:Int))] (fO L S F) (.d (i64 ((n+Tr.sz (.mk x ks):Nat):Int))) (fO L S (Tr.free (.mk x ks) S F)):=by
 obtain⟨h1,h2⟩:=zHN hw
 obtain⟨h3,h4,h5⟩:=zDY h1
 have hx:=h.here
 have hkn:=h.kidn
 have hlen:=h.len
 have hsz:Tr.sz (.mk x ks)=szL ks+1:=by rw[Tr.sz]
 have hl0:ks.length=0:=by
  have:x.kids=0:=by rw[hk]at h5;simpa[cntK]using h5
  omega
 match ks,hl0 with
 |[],_ =>
  rw[hsz,szL]at hF
  rw[hsz,szL]
  have hct:=zGz F x.text (by omega)
  have hcap:((F.map str).length + [str x.text].length)*16<=140737488355328/\(F.map str).length + [str x.text].length<=140737488355328:=by
   simp only[qAK,qAJ,qAa];omega
  have he:Tr.free (.mk x []) S F=if lkB S x.text=0/\x.text∉F then F++[x.text]else F:=by rw[Tr.free,if_pos hk]
  rw[he]
  clear h1 h2 h3 h4 h5 hw h _hS _ih hsz hm hb2 hF he
  by_cases c1:lkB S x.text=0
  ·have c1':((lkB S x.text:Nat):Int)=0:=by rw[c1];rfl
   by_cases c2:x.text∈F
   ·rw[if_neg (fun c=>c.2 c2)]
    rw[show F.contains x.text=true by simpa using c2]at hct
    refine zB3 func143 rfl ntmps143 results143 rfl rfl rfl ?_
    intro wb St0 X fx
    exact yL
   ·rw[if_pos ⟨c1,c2⟩]
    rw[show F.contains x.text=false by simpa using c2]at hct
    refine zB3 func143 rfl ntmps143 results143 rfl rfl rfl ?_
    intro wb St0 X fx
    repeat' first|(refine zQJ (rid:=6) [.ptr 0 0,.ptr 0 0,.ptr 0 0,.ptr 0 2,.buf 2 (F.map str).length,.ptr 3 1,.d (str x.text),.d (strs [x.text]),.top] 8 2 (by kernel_rfl) (by kernel_rfl) rfl rfl rfl (.inr (by kernel_rfl)) ⟨.inr ⟨⟨rfl,zAG rfl⟩,rfl,rfl,.inr ⟨rfl,rfl,zAG rfl⟩⟩,⟨.inr ⟨⟨rfl,zAG rfl⟩,rfl,rfl,.inl (by kernel_rfl)⟩,⟨.inr ⟨⟨rfl,zAS rfl⟩,rfl,rfl,.inl (by kernel_rfl)⟩,⟨.inr ⟨⟨rfl,zAH rfl fd_2⟩,rfl,rfl,.inl (by kernel_rfl)⟩,⟨.inr ⟨⟨rfl,zAJ rfl zCH rfl rfl⟩,rfl,rfl,.inl (by kernel_rfl)⟩,⟨.inr ⟨⟨rfl,zAH rfl fn_1⟩,rfl,rfl,.inl (by kernel_rfl)⟩,⟨.inr ⟨⟨rfl,zAJ rfl zAr rfl rfl⟩,rfl,rfl,.inl (by kernel_rfl)⟩,⟨.inr ⟨⟨rfl,zCi zBy zBZ zED rfl rfl (zAP rfl zAF) rfl⟩,rfl,rfl,.inl (by kernel_rfl)⟩,⟨.inl rfl,trivial⟩⟩⟩⟩⟩⟩⟩⟩⟩ rfl rfl rfl rfl rfl zBy zBZ zHJ zFl rfl rfl (zC8 fun _=>rfl) hcap ?_)|apply en_n|apply zAE|apply zAA|apply zAD|apply w0|(refine zG4 (by kernel_rfl) ?_;apply zAl;exact rfl;exact rfl;exact rfl;(with_reducible exact zCH);exact rfl;exact rfl;exact rfl;exact rfl)|exact zBU rfl rfl|exact zBW rfl rfl|exact zAS rfl|exact zGo rfl rfl rfl zHd ustr zGP|(refine zAU zFd hct (zEC rfl rfl rfl (CoLA rfl)))|(apply aJ (hd:=rfl);(first|exact zAq rfl|exact Co_bb rfl rfl rfl|exact Co_nn rfl);exact rfl;(with_reducible exact zAa);assumption;omega;exact fun _=>rfl)|(apply zBF (hd:=rfl) (hro:=rfl);(with_reducible exact zAx))|apply ay (hd:=rfl)|exact zAC rfl|exact zAB rfl|exact zAg rfl zAZ rfl|refine zBE rfl rfl ?_|exact zBX rfl|exact zAi rfl rfl|exact zAj rfl rfl|exact zAG rfl|(apply zAH;exact rfl;(with_reducible first|exact fd_0|exact fd_1|exact fd_2|exact fn_0|exact fn_1))|(apply zAJ;exact rfl;(with_reducible first|exact zCH|exact zIN|exact zAY|exact zAp|exact zAr|exact zCH);exact rfl;exact rfl)|refine w1 rfl rfl ?_|(refine w0' ?_)|(apply zAl;exact rfl;exact rfl;exact rfl;(with_reducible exact zAZ);exact rfl;exact rfl;exact rfl;exact rfl)|refine zAN rfl ?_|refine zAQ rfl ?_|apply zAI|apply zAO|apply zAM|refine zAu (by kernel_rfl) (by kernel_rfl) ?_|apply eb_n
    all_goals try omega
    exact zBV (zAV (Le_d rfl (by congr 2) Le_nil) (zAT rfl (by rw[show ((F++[x.text]).map str).length=(F.map str).length + [str x.text].length by simp];rfl) (zAT rfl rfl (zBM rfl rfl (by rw[qAh]) zAW))) rfl rfl)
  ·have c1':¬((lkB S x.text:Nat):Int)=0:=by omega
   rw[if_neg (fun c=>c1 c.1)]
   refine zB3 func143 rfl ntmps143 results143 rfl rfl rfl ?_
   intro wb St0 X fx
   exact yL

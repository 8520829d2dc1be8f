/- Parts. -/
import Derived.Test.YtjcgiiedaccjpaaGreatDoorMAW
import Derived.Test.YtjcgiiedaccjpaaGreatDoorMBD
set_option maxHeartbeats 16000000
namespace Go.Proofs.YtjcgiiedaccjpaaGreatDoor
open _root_.Go.Proofs.Tryz
open Go.Sx
mutual
theorem zEn: ∀(t:Tr) (S:Bag) (F:List (List UInt8)),(t.free S F).length<=F.length+t.sz
 | .mk x ks,S,F=>by
  rw[Tr.free,Tr.sz]
  split
  ·split
   ·rw[qAO];simp only[qAJ,qAa];omega
   ·omega
  ·have:=zHr x.kind x.text S [] ks 0 F;omega
theorem zHr(k:Int)(tx:List UInt8)(S:Bag): ∀(pv:List (List UInt8)) (ks:List Tr) (i:Nat) (F:List (List UInt8)),(zCZ k tx S pv ks i F).length<=F.length+szL ks
 |_,[],_,F=>by rw[zCZ];omega
 |pv,t::r,i,F=>by
  rw[zCZ,szL]
  split
  ·have:=zHr k tx S (zBn t.fl) r (i+1) F;omega
  ·have h1:=zHr k tx S pv r (i+1) (t.free (bagK k tx pv i S) F)
   have h2:=zEn t (bagK k tx pv i S) F
   omega
end
def zGy(L:List Nd)(m:Nat): Prop:=∀(n:Nat) (t:Tr) (S:Bag) (F:List (List UInt8)) (b:Nat),t.sz<=m->At L n t->t.werr false=0->GoodB S->(∀a,lkB S a<=b)->b+t.sz<=1000000->F.length+t.sz<=1000000->
 zBD prog 143 [.ptr 0 0,.d (i64 (n:Int))] (fO L S F) (.d (i64 ((n+t.sz:Nat):Int))) (fO L S (t.free S F))
attribute [local irreducible] zAK Program.underlying Ylds zA3 alex zBc zBL awp zAc zBd zBi zBD zBI zBS zA5 zBT zBY zBe zBs zBN VCall
theorem zDY{x:Nd}{k1:Int}{pat:Bool}(h:zE2 x k1 pat=0): okK x.kind=true/\patK x.kind=pat/\cntK x.kind x.kids=true:=by
 unfold zE2 at h
 split at h
 ·cases h
 ·rename_i hc
  refine⟨?_,?_,?_⟩
  ·cases hq:okK x.kind with
   |true=>rfl
   |false=>exact absurd (.inl hq) hc
  ·by_cases hq:patK x.kind=pat
   ·exact hq
   ·exact absurd (.inr (.inl hq)) hc
  ·cases hq:cntK x.kind x.kids with
   |true=>rfl
   |false=>exact absurd (.inr (.inr hq)) hc
theorem zHN{x:Nd}{ks:List Tr}{pat:Bool}(h:Tr.werr (.mk x ks) pat=0): zE2 x (Tr.kind1 (.mk x ks)) pat=0/\zGS (decide (x.kind=10)) pat ks 0=0:=by
 rw[zOG]at h
 by_cases he:zE2 x (Tr.kind1 (.mk x ks)) pat=0
 ·rw[if_neg (by rw[he];decide)]at h;exact⟨he,h⟩
 ·rw[if_pos he]at h;exact absurd h he
theorem zFT{m pat:Bool}: ∀{ks:List Tr} {i j:Nat} {k:Tr},zGS m pat ks i=0->ks[j]?=some k->k.werr (pat||(m&&decide ((i+j)%2=1)))=0
 |t::r,i,0,k,h,hk=>by
  simp at hk;subst hk
  rw[zGS]at h
  by_cases he:t.werr (pat||(m&&decide (i%2=1)))=0
  ·exact he
  ·rw[if_pos he]at h;exact absurd h he
 |t::r,i,j+1,k,h,hk=>by
  rw[zGS]at h
  by_cases he:t.werr (pat||(m&&decide (i%2=1)))=0
  ·rw[if_neg (by rw[he];decide)]at h
   have:=zFT (j:=j) h (by simpa using hk)
   rw[show i+(j+1)=i+1+j by omega];exact this
  ·rw[if_pos he]at h;exact absurd h he
theorem zTk{L:List Nd}(hL:L.length<=2000000){m:Nat}(ih:zGy L m)(n:Nat)(x:Nd)(ks:List Tr)(S:Bag)(F:List (List UInt8))(b:Nat)(hk:x.kind=5)(hm:Tr.sz (.mk x ks)<=m+1)(h:At L n (.mk x ks))(hw:Tr.werr (.mk x ks) false=0)(hS:GoodB S)(hb:∀a,lkB S a<=b)(hb2:b+Tr.sz (.mk x ks)<=1000000)(hF:F.length+Tr.sz (.mk x ks)<=1000000):
  zBD prog 143 [.ptr 0 0,.d (i64 (n:Int))] (fO L S F) (.d (i64 ((n+Tr.sz (.mk x ks):Nat):Int))) (fO L S (Tr.free (.mk x ks) S F)):=by
 obtain⟨h1,h2⟩:=zHN hw
 obtain⟨h3,h4,h5⟩:=zDY h1
 have hx:=h.here
 have hkn:=h.kidn
 have hlen:=h.len
 have hsz:Tr.sz (.mk x ks)=szL ks+1:=by rw[Tr.sz]
 rw[hk]at h5
 have hl1:ks.length=1:=by
  have:x.kids=1:=by simpa[cntK]using h5
  omega
 match ks,hl1 with
 |[t],_ =>
  have hc:=ih (n+1) t (upsB S [x.text]) F (b+1) (by rw[hsz,szL,szL]at hm;omega) (by simpa[zCV]using h.kid (i:=0) rfl) (by simpa[hk]using zFT (j:=0) h2 rfl) (hS.ups _) (fun a=>by rw[zFY];have h6:([x.text]:List (List UInt8)).count a<=1:=qBO;have:=hb a;omega)
   (by rw[hsz,szL,szL]at hb2;omega) (by rw[hsz,szL,szL]at hF;omega)
  have hr:n+1+t.sz=n+Tr.sz (.mk x [t]):=by rw[hsz,szL,szL];omega
  rw[hr]at hc
  have he:Tr.free (.mk x [t]) S F=t.free (upsB S [x.text]) F:=by rw[Tr.free,if_neg (by rw[hk];decide),zCZ,zCZ,bagK,hk];rfl
  rw[he]
  generalize t.free (upsB S [x.text]) F=F' at *
  generalize Tr.sz (.mk x [t])=s at *
  have hwi:=zHL L ((n:Int)+1) ((n+s:Nat):Int) S F F' [x.text] hS (by simp) (fun a=>by have:=hb a;omega) hc
  refine zB3 func143 rfl ntmps143 results143 rfl rfl rfl ?_
  intro wb St0 X fx
  repeat' first|apply en_n|apply zAE|apply zAA|apply zAD|apply w0|exact zBU rfl rfl|exact zBW rfl rfl|exact zAS rfl|(refine zDf [0,1,2] zHn (hwi) (SArgs_all rfl) rfl rfl (by decide) rfl rfl rfl rfl rfl rfl ?_)|(apply aJ (hd:=rfl);(first|exact zAq rfl|exact Co_bb rfl rfl rfl|exact Co_nn rfl);exact rfl;(with_reducible exact zAa);assumption;omega;exact fun _=>rfl)|(apply zBF (hd:=rfl) (hro:=rfl);(with_reducible exact zAx))|apply ay (hd:=rfl)|exact zAC rfl|exact zAB rfl|exact zAg rfl zAZ rfl|refine zBE rfl rfl ?_|exact zAG rfl|(apply zAH;exact rfl;(with_reducible first|exact fd_0|exact fn_0|exact fn_1))|(apply zAJ;exact rfl;(with_reducible first|exact zAY|exact zAp|exact zAr);exact rfl;exact rfl)|(apply zCi;(with_reducible first|exact zBy|exact zBy);(with_reducible first|exact zBZ|exact zBZ);(with_reducible first|exact zED|exact zED);exact rfl;exact rfl;(first|exact zAP rfl zAF|exact zEC rfl rfl rfl zAF|exact zFE rfl zAF);exact rfl)|(refine w0' ?_)|(apply zAl;exact rfl;exact rfl;exact rfl;(with_reducible exact zAZ);exact rfl;exact rfl;exact rfl;exact rfl)|refine zAN rfl ?_|refine zAQ rfl ?_|apply zAI|apply zAM|apply en_r|apply eb_r
  all_goals try omega
  exact zBV (zAV (Le_all rfl) (zAT rfl rfl (zAT rfl rfl (zBM rfl rfl rfl zAW))) rfl rfl)
theorem zRd{L:List Nd}(hL:L.length<=2000000){m:Nat}(ih:zGy L m)(n:Nat)(x:Nd)(ks:List Tr)(S:Bag)(F:List (List UInt8))(b:Nat)(hk:x.kind=7\/x.kind=12)(hm:Tr.sz (.mk x ks)<=m+1)(h:At L n (.mk x ks))(hw:Tr.werr (.mk x ks) false=0)(hS:GoodB S)(hb:∀a,lkB S a<=b)(hb2:b+Tr.sz (.mk x ks)<=1000000)(hF:F.length+Tr.sz (.mk x ks)<=1000000):
  zBD prog 143 [.ptr 0 0,.d (i64 (n:Int))] (fO L S F) (.d (i64 ((n+Tr.sz (.mk x ks):Nat):Int))) (fO L S (Tr.free (.mk x ks) S F)):=by
 obtain⟨h1,h2⟩:=zHN hw
 obtain⟨h3,h4,h5⟩:=zDY h1
 have hx:=h.here
 have hkn:=h.kidn
 have hlen:=h.len
 have hsz:Tr.sz (.mk x ks)=szL ks+1:=by rw[Tr.sz]
 have hl2:ks.length=2:=by
  have:x.kids=2:=by rcases hk with hk|hk <;> (rw[hk]at h5;simpa[cntK]using h5)
  omega
 match ks,hl2 with
 |[t,u],_ =>
  rw[hsz,szL,szL,szL]at hm hb2 hF
  have hc1:=ih (n+1) t S F b (by omega) (by simpa[zCV]using h.kid (i:=0) rfl) (by rcases hk with hk|hk <;> simpa[hk]using zFT (j:=0) h2 rfl) hS hb (by omega) (by omega)
  have hfl:=zEn t S F
  have hat:At L (n+1+t.sz) u:=by
   have h6:=h.kid (i:=1) (k:=u) rfl
   rw[zDP (i:=0) (k:=t) rfl,zCV]at h6;exact h6
  have hc:=ih (n+1+t.sz) u (upsB S [x.text]) (t.free S F) (b+1) (by omega) hat (by rcases hk with hk|hk <;> simpa[hk]using zFT (j:=1) h2 rfl) (hS.ups _) (fun a=>by rw[zFY];have h6:([x.text]:List (List UInt8)).count a<=1:=qBO;have:=hb a;omega) (by omega) (by omega)
  have hr:n+1+t.sz+u.sz=n+Tr.sz (.mk x [t,u]):=by rw[hsz,szL,szL,szL];omega
  rw[hr]at hc
  have he:Tr.free (.mk x [t,u]) S F=u.free (upsB S [x.text]) (t.free S F):=by
   have e0:bagK x.kind x.text [] 0 S=S:=by rw[bagK,if_neg (by omega),if_neg (by omega)]
   have e1:bagK x.kind x.text [] (0+1) S=upsB S [x.text]:=by rw[bagK,if_pos (by omega)]
   rw[Tr.free,if_neg (by omega),zCZ,if_neg (by omega),zCZ,if_neg (by omega),zCZ,e0,e1]
  rw[he]
  clear he
  generalize u.free (upsB S [x.text]) (t.free S F)=F' at *
  generalize t.free S F=F1 at *
  generalize Tr.sz (.mk x [t,u])=s at *
  generalize n+1+t.sz=q at *
  have hwi:=zHL L (q:Int) ((n+s:Nat):Int) S F1 F' [x.text] hS (by simp) (fun a=>by have:=hb a;omega) hc
  clear h1 h2 h3 h4 h5 hw h hat hfl hS ih hsz
  rcases hk with hk|hk
  all_goals
   refine zB3 func143 rfl ntmps143 results143 rfl rfl rfl ?_
   intro wb St0 X fx
   repeat' first|(refine zKq (id:=11) [.ptr 0 0,.ptr 0 0,.d (i64 ((n:Int)+1)),.top,.ptr 3 1,.d (str x.text),.d (strs [x.text])] 3 [0,1,2] (by kernel_rfl) (by kernel_rfl) rfl rfl rfl (.inr (by kernel_rfl)) ⟨.inr ⟨⟨rfl,zAG rfl⟩,rfl,rfl,.inr ⟨rfl,rfl,zAG rfl⟩⟩,⟨.inr ⟨⟨rfl,zAG rfl⟩,rfl,rfl,.inl (by kernel_rfl)⟩,⟨.inr ⟨⟨rfl,zAC rfl⟩,rfl,rfl,.inl (by kernel_rfl)⟩,⟨.inl rfl,⟨.inr ⟨⟨rfl,zAH rfl fn_1⟩,rfl,rfl,.inr ⟨rfl,rfl,zAH rfl fn_1⟩⟩,⟨.inr ⟨⟨rfl,zAJ rfl zAr rfl rfl⟩,rfl,rfl,.inr ⟨rfl,rfl,zAJ rfl zAr rfl rfl⟩⟩,⟨.inr ⟨⟨rfl,zCi zBy zBZ zED rfl rfl (zAP rfl zAF) rfl⟩,rfl,rfl,.inr ⟨rfl,rfl,zCi zBy zBZ zED rfl rfl (zAP rfl zAF) rfl⟩⟩,trivial⟩⟩⟩⟩⟩⟩⟩ zHp hc1 ⟨rfl,rfl,trivial⟩ rfl rfl (by decide) rfl rfl rfl rfl rfl rfl ?_)|apply en_n|apply zAE|apply zAA|apply zAD|apply w0|exact zBU rfl rfl|exact zBW rfl rfl|exact zAS rfl|(refine zG4 (by kernel_rfl) ?_;refine zDf [0,1,2] zHn (hwi) (SArgs_all rfl) rfl rfl (by decide) rfl rfl rfl rfl rfl rfl ?_)|(apply aJ (hd:=rfl);(first|exact zAq rfl|exact Co_bb rfl rfl rfl|exact Co_nn rfl);exact rfl;(with_reducible exact zAa);assumption;omega;exact fun _=>rfl)|(apply zBF (hd:=rfl) (hro:=rfl);(with_reducible exact zAx))|apply ay (hd:=rfl)|exact zAC rfl|exact zAB rfl|exact zAg rfl zAZ rfl|refine zBE rfl rfl ?_|exact zAG rfl|(apply zAH;exact rfl;(with_reducible first|exact fd_0|exact fn_0))|(apply zAJ;exact rfl;(with_reducible first|exact zAY|exact zAp);exact rfl;exact rfl)|(refine w0' ?_)|(apply zAl;exact rfl;exact rfl;exact rfl;(with_reducible exact zAZ);exact rfl;exact rfl;exact rfl;exact rfl)|refine zAN rfl ?_|refine zAQ rfl ?_|apply zAI|apply zAO|apply zAM|apply en_r|apply eb_r
   all_goals try omega
   exact zBV (zAV (Le_all rfl) (zAT rfl rfl (zAT rfl rfl (zBM rfl rfl rfl zAW))) rfl rfl)
theorem zRc{L:List Nd}(hL:L.length<=2000000){m:Nat}(ih:zGy L m)(n:Nat)(x:Nd)(ks:List Tr)(S:Bag)(F:List (List UInt8))(b:Nat)(hk:x.kind=8)(hm:Tr.sz (.mk x ks)<=m+1)(h:At L n (.mk x ks))(hw:Tr.werr (.mk x ks) false=0)(hS:GoodB S)(hb:∀a,lkB S a<=b)(hb2:b+Tr.sz (.mk x ks)<=1000000)(hF:F.length+Tr.sz (.mk x ks)<=1000000):
  zBD prog 143 [.ptr 0 0,.d (i64 (n:Int))] (fO L S F) (.d (i64 ((n+Tr.sz (.mk x ks):Nat):Int))) (fO L S (Tr.free (.mk x ks) S F)):=by
 obtain⟨h1,h2⟩:=zHN hw
 obtain⟨h3,h4,h5⟩:=zDY h1
 have hx:=h.here
 have hkn:=h.kidn
 have hlen:=h.len
 have hsz:Tr.sz (.mk x ks)=szL ks+1:=by rw[Tr.sz]
 have hl2:ks.length=2:=by
  have:x.kids=2:=by rw[hk]at h5;simpa[cntK]using h5
  omega
 match ks,hl2 with
 |[t,u],_ =>
  rw[hsz,szL,szL,szL]at hm hb2 hF
  have hc1:=ih (n+1) t (upsB S [x.text]) F (b+1) (by omega) (by simpa[zCV]using h.kid (i:=0) rfl) (by simpa[hk]using zFT (j:=0) h2 rfl) (hS.ups _) (fun a=>by rw[zFY];have h6:([x.text]:List (List UInt8)).count a<=1:=qBO;have:=hb a;omega) (by omega) (by omega)
  have hfl:=zEn t (upsB S [x.text]) F
  have hat:At L (n+1+t.sz) u:=by
   have h6:=h.kid (i:=1) (k:=u) rfl
   rw[zDP (i:=0) (k:=t) rfl,zCV]at h6;exact h6
  have hc:=ih (n+1+t.sz) u (upsB S [x.text]) (t.free (upsB S [x.text]) F) (b+1) (by omega) hat (by simpa[hk]using zFT (j:=1) h2 rfl) (hS.ups _) (fun a=>by rw[zFY];have h6:([x.text]:List (List UInt8)).count a<=1:=qBO;have:=hb a;omega) (by omega) (by omega)
  have hr:n+1+t.sz+u.sz=n+Tr.sz (.mk x [t,u]):=by rw[hsz,szL,szL,szL];omega
  rw[hr]at hc
  have he:Tr.free (.mk x [t,u]) S F=u.free (upsB S [x.text]) (t.free (upsB S [x.text]) F):=by
   rw[Tr.free,if_neg (by omega),zCZ,if_neg (by omega),zCZ,if_neg (by omega),zCZ,bagK,if_pos (by omega),bagK,if_pos (by omega)]
  rw[he]
  clear he
  generalize u.free (upsB S [x.text]) (t.free (upsB S [x.text]) F)=F' at *
  generalize t.free (upsB S [x.text]) F=F1 at *
  generalize Tr.sz (.mk x [t,u])=s at *
  generalize n+1+t.sz=q at *
  rw[show ((n+1:Nat):Int)=(n:Int)+1 from rfl]at hc1
  have hw1:=zHL L ((n:Int)+1) (q:Int) S F F1 [x.text] hS (by simp) (fun a=>by have:=hb a;omega) hc1
  have hwi:=zHL L (q:Int) ((n+s:Nat):Int) S F1 F' [x.text] hS (by simp) (fun a=>by have:=hb a;omega) hc
  clear h1 h2 h3 h4 h5 hw h hat hfl hS ih hsz
  refine zB3 func143 rfl ntmps143 results143 rfl rfl rfl ?_
  intro wb St0 X fx
  repeat' first|(refine zKq (id:=13) [.ptr 0 0,.ptr 0 0,.d (i64 ((n:Int)+1)),.ptr 3 1,.d (str x.text),.d (strs [x.text]),.top,.ptr 3 1,.d (str x.text),.d (strs [x.text])] 6 [0,1,2] (by kernel_rfl) (by kernel_rfl) rfl rfl rfl (.inr (by kernel_rfl)) ⟨.inr ⟨⟨rfl,zAG rfl⟩,rfl,rfl,.inr ⟨rfl,rfl,zAG rfl⟩⟩,⟨.inr ⟨⟨rfl,zAG rfl⟩,rfl,rfl,.inl (by kernel_rfl)⟩,⟨.inr ⟨⟨rfl,zAC rfl⟩,rfl,rfl,.inl (by kernel_rfl)⟩,⟨.inr ⟨⟨rfl,zAH rfl fn_1⟩,rfl,rfl,.inl (by kernel_rfl)⟩,⟨.inr ⟨⟨rfl,zAJ rfl zAr rfl rfl⟩,rfl,rfl,.inl (by kernel_rfl)⟩,⟨.inr ⟨⟨rfl,zCi zBy zBZ zED rfl rfl (zAP rfl zAF) rfl⟩,rfl,rfl,.inl (by kernel_rfl)⟩,⟨.inl rfl,⟨.inr ⟨⟨rfl,zAH rfl fn_1⟩,rfl,rfl,.inr ⟨rfl,rfl,zAH rfl fn_1⟩⟩,⟨.inr ⟨⟨rfl,zAJ rfl zAr rfl rfl⟩,rfl,rfl,.inr ⟨rfl,rfl,zAJ rfl zAr rfl rfl⟩⟩,⟨.inr ⟨⟨rfl,zCi zBy zBZ zED rfl rfl (zAP rfl zAF) rfl⟩,rfl,rfl,.inr ⟨rfl,rfl,zCi zBy zBZ zED rfl rfl (zAP rfl zAF) rfl⟩⟩,trivial⟩⟩⟩⟩⟩⟩⟩⟩⟩⟩ zHn hw1 ⟨rfl,rfl,rfl,trivial⟩ rfl rfl (by decide) rfl rfl rfl rfl rfl rfl ?_)|apply en_n|apply zAE|apply zAA|apply zAD|apply w0|exact zBU rfl rfl|exact zBW rfl rfl|exact zAS rfl|(refine zG4 (by kernel_rfl) ?_;refine zDf [0,1,2] zHn (hwi) (SArgs_all rfl) rfl rfl (by decide) rfl rfl rfl rfl rfl rfl ?_)|(apply aJ (hd:=rfl);(first|exact zAq rfl|exact Co_bb rfl rfl rfl|exact Co_nn rfl);exact rfl;(with_reducible exact zAa);assumption;omega;exact fun _=>rfl)|(apply zBF (hd:=rfl) (hro:=rfl);(with_reducible exact zAx))|apply ay (hd:=rfl)|exact zAC rfl|exact zAB rfl|exact zAg rfl zAZ rfl|refine zBE rfl rfl ?_|exact zAG rfl|(apply zAH;exact rfl;(with_reducible first|exact fd_0|exact fn_0))|(apply zAJ;exact rfl;(with_reducible first|exact zAY|exact zAp);exact rfl;exact rfl)|(refine w0' ?_)|(apply zAl;exact rfl;exact rfl;exact rfl;(with_reducible exact zAZ);exact rfl;exact rfl;exact rfl;exact rfl)|refine zAN rfl ?_|refine zAQ rfl ?_|apply zAI|apply zAM|apply en_r|apply eb_r
  all_goals try omega
  exact zBV (zAV (Le_all rfl) (zAT rfl rfl (zAT rfl rfl (zBM rfl rfl rfl zAW))) rfl rfl)
end Go.Proofs.YtjcgiiedaccjpaaGreatDoor
namespace Go.Proofs.YtjcgiiedaccjpaaGreatDoor
open Go.Sx Go.Ev
def ExAt(R:Rn)(k:Nat): Prop:=∃t,At R.L k t/\t.werr false=0
mutual
def VOk(R:Rn)(N:Nat): V->Prop
 | .num _=>True
 | .text t=>t.length<=1000
 | .con _ _ args=>args.length<=N/\VsOk R N args
 | .prim p args=>p<=14/\args.length<=N/\VsOk R N args
 | .fn _ k _ env=>ExAt R k/\EOk R N env
 | .cell _=>True
def VsOk(R:Rn)(N:Nat): List V->Prop
 |[]=>True
 |v::r=>VOk R N v/\VsOk R N r
def EOk(R:Rn)(N:Nat): Env->Prop
 | .nil=>True
 | .cons _ v up=>VOk R N v/\EOk R N up
end
mutual
theorem VOk.mono{R:Rn}{n m:Nat}(h:n<=m): ∀(v:V),VOk R n v->VOk R m v
 | .num _,_=>trivial
 | .text _,hv=>hv
 | .con _ _ args,hv=>⟨qAi hv.1 h,VsOk.mono h args hv.2⟩
 | .prim _ args,hv=>⟨hv.1,qAi hv.2.1 h,VsOk.mono h args hv.2.2⟩
 | .fn _ _ _ env,hv=>⟨hv.1,EOk.mono h env hv.2⟩
 | .cell _,_=>trivial
theorem VsOk.mono{R:Rn}{n m:Nat}(h:n<=m): ∀(l:List V),VsOk R n l->VsOk R m l
 |[],_=>trivial
 |v::r,hv=>⟨VOk.mono h v hv.1,VsOk.mono h r hv.2⟩
theorem EOk.mono{R:Rn}{n m:Nat}(h:n<=m): ∀(e:Env),EOk R n e->EOk R m e
 | .nil,_=>trivial
 | .cons _ v up,hv=>⟨VOk.mono h v hv.1,EOk.mono h up hv.2⟩
end
theorem VsOk.app{R:Rn}{n:Nat}: ∀{l m:List V},VsOk R n l->VsOk R n m->VsOk R n (l++m)
 |[],_,_,h=>h
 |_::_,_,h,k=>⟨h.1,VsOk.app h.2 k⟩
theorem VsOk.getD{R:Rn}{n:Nat}: ∀{l:List V} (i:Nat),VsOk R n l->VOk R n (l.getD i default)
 |[],i,_=>by rw[List.getD_nil];exact trivial
 |v::r,0,h=>h.1
 |v::r,i+1,h=>by rw[List.getD_cons_succ];exact VsOk.getD i h.2
theorem VsOk.set{R:Rn}{n:Nat}{v:V}(hv:VOk R n v): ∀{l:List V} (i:Nat),VsOk R n l->VsOk R n (l.set i v)
 |[],_,_=>trivial
 |_::_,0,h=>⟨hv,h.2⟩
 |_::_,i+1,h=>⟨h.1,VsOk.set hv i h.2⟩
structure ROk(R:Rn)(N n:Nat)(r:V×S): Prop where
 le:n<=r.2.steps
 val:VOk R (N+(r.2.steps-n)) r.1
 cells:VsOk R (N+(r.2.steps-n)) r.2.cells
 out:r.2.out.length<=N+(r.2.steps-n)
theorem ROk.mono{R:Rn}{N M n m:Nat}{r:V×S}(h:ROk R N n r)(hm:m<=r.2.steps)(hN:N+(r.2.steps-n)<=M+(r.2.steps-m)): ROk R M m r :=
 ⟨hm,VOk.mono hN _ h.val,VsOk.mono hN _ h.cells,qAi h.out hN⟩
theorem ROk.trans{R:Rn}{N n:Nat}{r q:V×S}(h:ROk R N n r)(k:ROk R (N+(r.2.steps-n)) r.2.steps q): ROk R N n q :=
 k.mono (qAi h.le k.le) (by have:=h.le;have:=k.le;omega)
theorem ROk.same{R:Rn}{N:Nat}{s:S}(hc:VsOk R N s.cells)(ho:s.out.length<=N){v:V}(hv:VOk R N v){t:S}(h1:t.steps=s.steps)(h2:t.cells=s.cells)(h3:t.out=s.out): ROk R N s.steps (v,t):=by
 have e:N+(t.steps-s.steps)=N:=by omega
 refine⟨by rw[h1];exact qAM _,?_,?_,?_⟩
 ·show VOk R (N+(t.steps-s.steps)) v;rw[e];exact hv
 ·show VsOk R (N+(t.steps-s.steps)) t.cells;rw[e,h2];exact hc
 ·show t.out.length<=N+(t.steps-s.steps);rw[e,h3];exact ho
theorem ROk.more{R:Rn}{N:Nat}{s:S}{v:V}{t:S}(h1:t.steps=s.steps)(hv:VOk R (N+1) v)(hc:VsOk R (N+1) t.cells)(ho:t.out.length<=N+1): ROk R (N+1) s.steps (v,t):=by
 have e:N+1+(t.steps-s.steps)=N+1:=by omega
 refine⟨by rw[h1];exact qAM _,?_,?_,?_⟩
 ·show VOk R (N+1+(t.steps-s.steps)) v;rw[e];exact hv
 ·show VsOk R (N+1+(t.steps-s.steps)) t.cells;rw[e];exact hc
 ·show t.out.length<=N+1+(t.steps-s.steps);rw[e];exact ho
def shwW(n:Int): List UInt8:=shw (W n)
theorem zMV(s:S)(p:Nat)(a b:Int): (∃n,(s.ints p a b).1=.num n)/\(s.ints p a b).2.steps=s.steps/\(s.ints p a b).2.cells=s.cells/\(s.ints p a b).2.out=s.out:=by
 unfold S.ints S.raise bit
 repeat' split
 all_goals exact⟨⟨_,rfl⟩,rfl,rfl,rfl⟩
theorem doP_inv{R:Rn}{N:Nat}{s:S}(hc:VsOk R N s.cells)(ho:s.out.length<=N)(p:Nat){l:List V}(hl:VsOk R N l): ROk R (N+1) s.steps (s.doP shwW p l):=by
 have h0:=VsOk.getD 0 hl
 have h1:=VsOk.getD 1 hl
 have hc':=VsOk.mono (qBb N) _ hc
 have ho':s.out.length<=N+1:=Nat.le_succ_of_le ho
 have st:∀e,ROk R (N+1) s.steps (s.stop e):=fun e=>.more rfl trivial hc' ho'
 unfold S.doP;dsimp only
 generalize l.getD 0 default=a at *
 generalize l.getD 1 default=b at *
 refine ite_r ?_ (ite_r ?_ (ite_r ?_ (ite_r ?_ (ite_r ?_ (ite_r ?_ (ite_r ?_ ?_))))))
 ·split
  ·rename_i x y
   obtain⟨⟨n,hn⟩,e1,e2,e3⟩:=zMV s p x y
   generalize s.ints p x y=r at *
   obtain⟨r1,r2⟩:=r
   dsimp only at hn e1 e2 e3;subst hn
   exact .more e1 trivial (by rw[e2];exact hc') (by rw[e3];exact ho')
  ·exact st 4
 ·split
  ·split
   ·exact .more rfl trivial hc' ho'
   ·rename_i hq
    exact .more rfl (by show _<=1000;rw[qAO];omega) hc' ho'
  ·exact st 4
 ·split
  ·exact .more rfl trivial hc' ho'
  ·exact st 4
 ·exact .more rfl trivial (VsOk.app hc' ⟨VOk.mono (qBb N) _ h0,trivial⟩) ho'
 ·split
  ·exact .more rfl (VsOk.getD _ hc') hc' ho'
  ·exact st 4
 ·split
  ·exact .more rfl trivial (VsOk.set (VOk.mono (qBb N) _ h1) _ hc') ho'
  ·exact st 4
 ·split
  ·exact .more rfl trivial hc' (by show (s.out++[_]).length<=_;rw[qAO];exact Nat.succ_le_succ ho)
  ·exact st 4
 ·split
  ·exact .more rfl trivial hc' (by show (s.out++[_]).length<=_;rw[qAO];exact Nat.succ_le_succ ho)
  ·exact st 4
where
 ite_r {R:Rn} {N n:Nat} {c:Prop} [Decidable c] {a b:V×S} (ha:ROk R N n a) (hb:ROk R N n b):ROk R N n (if c then a else b):=by split <;> assumption
theorem zL9{R:Rn}{N:Nat}(x:List UInt8): ∀{e:Env},EOk R N e->VOk R N (told R.pg x e)
 | .nil,_=>⟨zOr x,qAR _,trivial⟩
 | .cons m v up,h=>by
  unfold told
  split
  ·exact h.1
  ·exact zL9 x h.2
theorem zJ8{R:Rn}{N:Nat}{P:Pg}{mt:Nat->V->Env->Env×Bool}(hm:∀k v e,VOk R N v->EOk R N e->EOk R N (mt k v e).1)(k:Nat): ∀(l:List V) (j:Nat) (e:Env),VsOk R N l->EOk R N e->EOk R N (zG2 P mt k j l e).1
 |[],_,e,_,he=>he
 |v::r,j,e,hl,he=>by
  unfold zG2
  split
  ·exact zJ8 hm k r (j+1) _ hl.2 (hm _ _ _ hl.1 he)
  ·exact hm _ _ _ hl.1 he
theorem zI8{R:Rn}{N:Nat}(P:Pg): ∀f k v e,VOk R N v->EOk R N e->EOk R N (matP P f k v e).1
 |0,_,_,e,_,he=>he
 |f+1,k,v,e,hv,he=>by
  unfold matP
  split
  ·exact he
  split
  ·exact⟨hv,he⟩
  split
  ·exact he
  split
  ·split
   ·exact zJ8 (zI8 P f) k _ 0 e hv.2 he
   ·exact he
  ·exact he
theorem zQO{R:Rn}{N:Nat}{ex:S->Nat->Env->V×S}{s:S}(hx:∀k e,ExAt R k->EOk R N e->ROk R N s.steps (ex s k e))(hc:VsOk R N s.cells)(ho:s.out.length<=N){f a:V}(hf:VOk R N f)(ha:VOk R N a): ROk R (N+1) s.steps (s.apply shwW ex f a):=by
 have up:∀{r:V×S},ROk R N s.steps r->ROk R (N+1) s.steps r:=fun h=>h.mono h.le (by omega)
 unfold S.apply
 split
 ·exact up (.same hc ho ha rfl rfl rfl)
 ·split
  ·rename_i n k self env
   refine up (hx _ _ hf.1 ⟨ha,?_⟩)
   split
   ·exact hf.2
   ·exact⟨hf,hf.2⟩
  ·split
   ·exact doP_inv hc ho _ (VsOk.app hf.2.2 ⟨ha,trivial⟩)
   ·exact .more rfl ⟨hf.1,by rw[qAO];exact Nat.succ_le_succ hf.2.1,VsOk.mono (qBb N) _ (VsOk.app hf.2.2 ⟨ha,trivial⟩)⟩ (VsOk.mono (qBb N) _ hc) (Nat.le_succ_of_le ho)
  ·split
   ·exact .more rfl ⟨by rw[qAO];exact Nat.succ_le_succ hf.1,VsOk.mono (qBb N) _ (VsOk.app hf.2 ⟨ha,trivial⟩)⟩ (VsOk.mono (qBb N) _ hc) (Nat.le_succ_of_le ho)
   ·exact up (.same (v:=.num 0) hc ho trivial rfl rfl rfl)
  ·exact up (.same (v:=.num 0) hc ho trivial rfl rfl rfl)
theorem zBp{R:Rn}{k:Nat}{x:Nd}{ks:List Tr}(hA:At R.L k (.mk x ks))(hw:Tr.werr (.mk x ks) false=0){j:Nat}(hj:j<ks.length)(hm:x.kind≠10\/j%2=0): ExAt R (kidAt k ks j):=by
 refine⟨ks[j],hA.kid (qAB hj),?_⟩
 have h:=zFT (j:=j) (zHN hw).2 (qAB hj)
 rw[qAU]at h
 have e:(false||(decide (x.kind=10)&&decide (j%2=1)))=false:=by
  rcases hm with hm|hm
  ·rw[decide_eq_false hm];rfl
  ·rw[decide_eq_false (show ¬j%2=1 by omega)];simp
 rwa [e]at h
structure ExSh(x:Nd)(ks:List Tr): Prop where
 kind:1<=x.kind/\x.kind<=12
 c1:x.kind=5\/x.kind=11->ks.length=1
 c2:x.kind=6\/x.kind=7\/x.kind=8\/x.kind=12->ks.length=2
 c3:x.kind=9->ks.length=3
 c10:x.kind=10->3<=ks.length/\ks.length%2=1
 text:x.kind=2->x.text.length<=200
 kn:x.kids=(ks.length:Int)
 rc:x.kind=8->Tr.kind1 (.mk x ks)=5
theorem exSh{R:Rn}{k:Nat}{x:Nd}{ks:List Tr}(hA:At R.L k (.mk x ks))(hw:Tr.werr (.mk x ks) false=0): ExSh x ks:=by
 have hn:=(zHN hw).1
 obtain⟨h1,h2,h3⟩:=zDY hn
 have hkn:=hA.kidn
 have hk:1<=x.kind/\x.kind<=12:=by
  have h5:(1<=x.kind/\x.kind<=12)\/(21<=x.kind/\x.kind<=24):=by simpa[okK]using h1
  have h6:¬(21<=x.kind/\x.kind<=24):=by simpa[patK]using h2
  omega
 unfold cntK at h3
 refine⟨hk,fun h=>?_,fun h=>?_,fun h=>?_,fun h=>?_,fun h=>?_,hkn,fun h=>?_⟩
 ·rw[if_pos h]at h3;have:=of_decide_eq_true h3;omega
 ·rw[if_neg (by omega),if_pos h]at h3;have:=of_decide_eq_true h3;omega
 ·rw[if_neg (by omega),if_neg (by omega),if_pos h]at h3;have:=of_decide_eq_true h3;omega
 ·rw[if_neg (by omega),if_neg (by omega),if_neg (by omega),if_pos h]at h3;have:=of_decide_eq_true h3;omega
 ·unfold zE2 at hn
  split at hn
  ·cases hn
  split at hn
  ·cases hn
  split at hn
  ·cases hn
  ·rename_i hq
   rcases qAI 200 x.text.length with hl|hl
   ·exact absurd (.inl ⟨h,hl⟩) hq
   ·exact hl
 ·unfold zE2 at hn
  split at hn
  ·cases hn
  split at hn
  ·cases hn
  split at hn
  ·cases hn
  split at hn
  ·cases hn
  ·rename_i hq
   exact Classical.byContradiction fun hc=>hq ⟨h,hc⟩
theorem zMi{R:Rn}{k:Nat}{x:Nd}{ks:List Tr}(hA:At R.L k (.mk x ks))(hw:Tr.werr (.mk x ks) false=0)(hk:x.kind=8): ∃x2,R.L[kidAt k ks 0]?=some x2/\ExAt R (kidAt k ks 0+1):=by
 have hs:=exSh hA hw
 have hl:=hs.c2 (.inr (.inr (.inl hk)))
 have h0:0<ks.length:=by omega
 obtain⟨t,ht,hw2⟩:=zBp hA hw h0 (.inl (by omega))
 match t,ht,hw2 with
 | .mk x2 ks2,ht,hw2 =>
  refine⟨x2,ht.here,?_⟩
  have hk2:x2.kind=5:=by
   have h5:=hs.rc hk
   match ks,hA,h5,ht with
   |[],_,_,_=>cases h0
   |t0::r,hA,h5,ht =>
    have e2:x2=t0.hd:=by
     have:=(hA.kid (i:=0) (k:=t0) rfl).hd
     rw[ht.here]at this;injection this
    rw[e2];exact h5
  have hs2:=exSh ht hw2
  have:=zBp ht hw2 (j:=0) (by have:=hs2.c1 (.inl hk2);omega) (.inl (by omega))
  rwa [zCV]at this
theorem zM2{R:Rn}{N:Nat}{ex:S->Nat->Env->V×S}{s:S}(hx:∀k e,ExAt R k->EOk R N e->ROk R N s.steps (ex s k e))(hc:VsOk R N s.cells)(ho:s.out.length<=N){k:Nat}{x:Nd}{ks:List Tr}(hA:At R.L k (.mk x ks))(hw:Tr.werr (.mk x ks) false=0)(hodd:ks.length%2=1){v:V}(hv:VOk R N v){e:Env}(he:EOk R N e)(D:Nat): ∀c i,i%2=1->i+2*c<=ks.length->ROk R N s.steps (s.arms ex (mat R.pg D) R.pg k v e c i)
 |0,_,_,_=>.same (v:=.num 0) hc ho trivial rfl rfl rfl
 |c+1,i,hi,hb=>by
  unfold S.arms
  rw[zHe]
  by_cases hq:(matP R.pg D (R.pg.kid k i) v e).2=true
  ·rw[if_pos hq]
   refine hx _ _ ?_ (zI8 _ _ _ _ _ hv he)
   rw[R.kid_at hA (by omega)]
   exact zBp hA hw (by omega) (.inr (by omega))
  ·rw[if_neg hq]
   exact zM2 hx hc ho hA hw hodd hv he D c (i+2) (by omega) (by omega)
theorem zPm(R:Rn): ∀f s k e N,ExAt R k->EOk R N e->VsOk R N s.cells->s.out.length<=N->ROk R N s.steps (exp shwW R.pg f s k e)
 |0,s,k,e,N,_,_,hc,ho=>.same (v:=.num 0) hc ho trivial rfl rfl rfl
 |f+1,s,k,e,N,⟨.mk x ks,hA,hw⟩,he,hc,ho=>by
  have hs:=exSh hA hw
  have ih:∀t k e M,ExAt R k->EOk R M e->VsOk R M t.cells->t.out.length<=M->ROk R M t.steps (exp shwW R.pg f t k e):=zPm R f
  have same:∀{v:V} {t:S},VOk R N v->t.steps=s.steps->t.cells=s.cells->t.out=s.out->ROk R N s.steps (v,t):=fun hv h1 h2 h3=>.same hc ho hv h1 h2 h3
  have step:∀{r:V×S},ROk R N (s.steps+1) r->ROk R N s.steps r:=fun {r} h=>h.mono (by have:=h.le;omega) (by omega)
  have one:∀{v:V},VOk R N v->ROk R N s.steps (v,{ s with steps:=s.steps+1 }):=fun {v} hv=>step (.same (s:={ s with steps:=s.steps+1 }) hc ho hv rfl rfl rfl)
  have ih1:∀k e,ExAt R k->EOk R N e->ROk R N (s.steps+1) (exp shwW R.pg f { s with steps:=s.steps+1 } k e):=fun k e h1 h2=>ih { s with steps:=s.steps+1 } k e N h1 h2 hc ho
  have st:∀{r:V×S},ROk R N (s.steps+1) r->∀{v:V} {t:S},VOk R (N+(r.2.steps-(s.steps+1))) v->t.steps=r.2.steps->t.cells=r.2.cells->t.out=r.2.out->ROk R N s.steps (v,t):=fun {r} h {v t} hv h1 h2 h3=>step (h.trans (.same h.cells h.out hv h1 h2 h3))
  unfold exp
  rw[R.node_at hA.here]
  refine doP_inv.ite_r (same (v:=.num 0) trivial rfl rfl rfl) (doP_inv.ite_r (same (v:=.num 0) trivial rfl rfl rfl) ?_)
  dsimp only
  by_cases k1:x.kind=1
  ·rw[if_pos k1];exact one trivial
  rw[if_neg k1]
  by_cases k2:x.kind=2
  ·rw[if_pos k2];exact one (by show _<=1000;have:=hs.text k2;omega)
  rw[if_neg k2]
  by_cases k3:x.kind=3
  ·rw[if_pos k3];exact one (zL9 _ he)
  rw[if_neg k3]
  by_cases k4:x.kind=4
  ·rw[if_pos k4];exact one ⟨qAR _,trivial⟩
  rw[if_neg k4]
  by_cases k5:x.kind=5
  ·rw[if_pos k5,R.kid_at hA (by have:=hs.c1 (.inl k5);omega)]
   exact one ⟨zBp hA hw (by have:=hs.c1 (.inl k5);omega) (.inl (by omega)),he⟩
  rw[if_neg k5]
  by_cases k6:x.kind=6
  ·have hl:=hs.c2 (.inl k6)
   rw[if_pos k6,R.kid_at hA (j:=0) (by omega),R.kid_at hA (j:=1) (by omega)]
   have h1:=ih1 (kidAt k ks 0) e (zBp hA hw (by omega) (.inl (by omega))) he
   generalize exp shwW R.pg f { s with steps:=s.steps+1 } (kidAt k ks 0) e=r at *
   have hle1:=h1.le
   have h2:=ih r.2 (kidAt k ks 1) e _ (zBp hA hw (by omega) (.inl (by omega))) (EOk.mono (by omega) _ he) h1.cells h1.out
   generalize exp shwW R.pg f r.2 (kidAt k ks 1) e=q at *
   have hle2:=h2.le
   have h12:=h1.trans h2
   have h3:=zQO (f:=r.1) (fun k e h1 h2=>ih q.2 k e _ h1 h2 h12.cells h12.out) h12.cells h12.out (VOk.mono (by omega) _ h1.val) h12.val
   exact h3.mono (by have:=h3.le;omega) (by have:=h3.le;omega)
  rw[if_neg k6]
  by_cases k7:x.kind=7
  ·have hl:=hs.c2 (.inr (.inl k7))
   rw[if_pos k7,R.kid_at hA (j:=0) (by omega),R.kid_at hA (j:=1) (by omega)]
   have h1:=ih1 (kidAt k ks 0) e (zBp hA hw (by omega) (.inl (by omega))) he
   generalize exp shwW R.pg f { s with steps:=s.steps+1 } (kidAt k ks 0) e=r at *
   exact step (h1.trans (ih r.2 _ _ _ (zBp hA hw (by omega) (.inl (by omega))) ⟨h1.val,EOk.mono (by omega) _ he⟩ h1.cells h1.out))
  rw[if_neg k7]
  by_cases k8:x.kind=8
  ·have hl:=hs.c2 (.inr (.inr (.inl k8)))
   rw[if_pos k8,R.kid_at hA (j:=0) (by omega),R.kid_at hA (j:=1) (by omega)]
   obtain⟨x2,hx2,hr2⟩:=zMi hA hw k8
   refine doP_inv.ite_r (one (v:=.num 0) trivial |>.mono (by show s.steps<=s.steps+1;omega) (qAM _) |> fun h=>⟨h.le,h.val,h.cells,h.out⟩) ?_
   have:=ih { s with steps:=s.steps+1+1 } (kidAt k ks 1) (.cons x.text (.fn (R.pg.node (kidAt k ks 0)).text (kidAt k ks 0+1) x.text e) e) N (zBp hA hw (by omega) (.inl (by omega))) ⟨⟨hr2,he⟩,he⟩ hc ho
   exact this.mono (qAi (show s.steps<=s.steps+1+1 by omega) this.le) (by show N+(_-(s.steps+1+1))<=N+(_-s.steps);omega)
  rw[if_neg k8]
  by_cases k9:x.kind=9
  ·have hl:=hs.c3 k9
   rw[if_pos k9,R.kid_at hA (j:=0) (by omega),R.kid_at hA (j:=1) (by omega),R.kid_at hA (j:=2) (by omega)]
   have h1:=ih1 (kidAt k ks 0) e (zBp hA hw (by omega) (.inl (by omega))) he
   generalize exp shwW R.pg f { s with steps:=s.steps+1 } (kidAt k ks 0) e=r at *
   refine doP_inv.ite_r (st h1 (v:=.num 0) trivial rfl rfl rfl) ?_
   split
   ·refine doP_inv.ite_r ?_ ?_
    ·exact step (h1.trans (ih r.2 _ _ _ (zBp hA hw (by omega) (.inl (by omega))) (EOk.mono (by omega) _ he) h1.cells h1.out))
    ·exact step (h1.trans (ih r.2 _ _ _ (zBp hA hw (by omega) (.inl (by omega))) (EOk.mono (by omega) _ he) h1.cells h1.out))
   ·exact st h1 (v:=.num 0) trivial rfl rfl rfl
  rw[if_neg k9]
  by_cases k11:x.kind=11
  ·have hl:=hs.c1 (.inr k11)
   rw[if_pos k11,R.kid_at hA (j:=0) (by omega)]
   have h1:=ih1 (kidAt k ks 0) e (zBp hA hw (by omega) (.inl (by omega))) he
   generalize exp shwW R.pg f { s with steps:=s.steps+1 } (kidAt k ks 0) e=r at *
   refine doP_inv.ite_r (st h1 (v:=.num 0) trivial rfl rfl rfl) ?_
   split
   ·exact st h1 (v:=.num 0) trivial rfl rfl rfl
   ·exact st h1 (v:=.num 0) trivial rfl rfl rfl
  rw[if_neg k11]
  by_cases k12:x.kind=12
  ·have hl:=hs.c2 (.inr (.inr (.inr k12)))
   rw[if_pos k12,R.kid_at hA (j:=0) (by omega),R.kid_at hA (j:=1) (by omega)]
   have h1:=ih1 (kidAt k ks 0) e (zBp hA hw (by omega) (.inl (by omega))) he
   generalize exp shwW R.pg f { s with steps:=s.steps+1 } (kidAt k ks 0) e=r at *
   refine doP_inv.ite_r (step h1) ?_
   exact step (h1.trans (ih { r.2 with fin:=0 } _ _ _ (zBp hA hw (by omega) (.inl (by omega))) ⟨trivial,EOk.mono (by omega) _ he⟩ h1.cells h1.out))
  rw[if_neg k12]
  have hk10:x.kind=10:=by have:=hs.kind;omega
  obtain⟨hl,hodd⟩:=hs.c10 hk10
  rw[R.kid_at hA (j:=0) (by omega)]
  have h1:=ih1 (kidAt k ks 0) e (zBp hA hw (by omega) (.inr rfl)) he
  generalize exp shwW R.pg f { s with steps:=s.steps+1 } (kidAt k ks 0) e=r at *
  refine doP_inv.ite_r (step h1) (step (h1.trans ?_))
  have hkn:=hs.kn
  exact zM2 (fun k e h2 h3=>ih r.2 k e _ h2 h3 h1.cells h1.out) h1.cells h1.out hA hw hodd h1.val (EOk.mono (by omega) _ he) _ _ 1 rfl (by omega)
end Go.Proofs.YtjcgiiedaccjpaaGreatDoor
namespace Go.Proofs.YtjcgiiedaccjpaaGreatDoor
open _root_.Go.Proofs.Tryz
open Go.Sx
attribute [local irreducible] zAK Program.underlying Ylds zA3 alex zBc zBL awp zAc zBd zBi zBD zBI zBS zA5 zBT zBY zBe zBs zBN VCall
theorem zPi{L:List Nd}(hL:L.length<=2000000){m:Nat}(_ih:zGy L m)(n:Nat)(x:Nd)(ks:List Tr)(S:Bag)(F:List (List UInt8))(b:Nat)(hk:x.kind=1\/x.kind=2\/x.kind=4)(hm:Tr.sz (.mk x ks)<=m+1)(h:At L n (.mk x ks))(hw:Tr.werr (.mk x ks) false=0)(_hS:GoodB S)(_hb:∀a,lkB S a<=b)(hb2:b+Tr.sz (.mk x ks)<=1000000)(hF:F.length+Tr.sz (.mk x ks)<=1000000):
  zBD prog 143 [.ptr 0 0,.d (i64 (n:Int))] (fO L S F) (.d (i64 ((n+Tr.sz (.mk x ks):Nat):Int))) (fO L S (Tr.free (.mk x ks) S F)):=by
 obtain⟨h1,h2⟩:=zHN hw
 obtain⟨h3,h4,h5⟩:=zDY h1
 have hx:=h.here
 have hkn:=h.kidn
 have hlen:=h.len
 have hsz:Tr.sz (.mk x ks)=szL ks+1:=by rw[Tr.sz]
 have hl0:ks.length=0:=by
  have:x.kids=0:=by rcases hk with hk|hk|hk <;> (rw[hk]at h5;simpa[cntK]using h5)
  omega
 match ks,hl0 with
 |[],_ =>
  rw[hsz,szL]
  have he:Tr.free (.mk x []) S F=F:=by rw[Tr.free,if_neg (by omega),zCZ]
  rw[he]
  clear h1 h2 h3 h4 h5 hw h _hS _ih hsz hm hb2 hF he
  rcases hk with hk|hk|hk
  all_goals
   refine zB3 func143 rfl ntmps143 results143 rfl rfl rfl ?_
   intro wb St0 X fx
   repeat' first|apply en_n|apply zAE|apply zAA|apply zAD|apply w0|exact zBW rfl rfl|exact zAS rfl|(apply aJ (hd:=rfl);(first|exact zAq rfl|exact Co_bb rfl rfl rfl|exact Co_nn rfl);exact rfl;(with_reducible exact zAa);assumption;omega;exact fun _=>rfl)|(apply zBF (hd:=rfl) (hro:=rfl);(with_reducible exact zAx))|apply ay (hd:=rfl)|exact zAC rfl|exact zAB rfl|exact zAg rfl zAZ rfl|refine zBE rfl rfl ?_|exact zAj rfl rfl|exact zAG rfl|(apply zAH;exact rfl;(with_reducible first|exact fd_0|exact fn_0))|(apply zAJ;exact rfl;(with_reducible first|exact zAY|exact zAp);exact rfl;exact rfl)|refine w1 rfl rfl ?_|(refine w0' ?_)|(apply zAl;exact rfl;exact rfl;exact rfl;(with_reducible exact zAZ);exact rfl;exact rfl;exact rfl;exact rfl)|refine zAQ rfl ?_|apply zAI|apply zAO|apply zAM|apply eb_n
   all_goals try omega
   exact zBV (zAV (Le_d rfl (by congr 2) Le_nil) (zAT rfl rfl (zAT rfl rfl (zBM rfl rfl rfl zAW))) rfl rfl)

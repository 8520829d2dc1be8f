/- Parts of the proof. -/
import Derived.Test.YtcagoomibpcdlaaGreatDoorMBA
import Derived.Test.YtcagoomibpcdlaaGreatDoorMBB
import Derived.Test.YtcagoomibpcdlaaGreatDoorMBH
set_option maxHeartbeats 16000000
namespace Go.Proofs.YtcagoomibpcdlaaGreatDoor
open _root_.Go.Proofs.Tryz
open Go.Sx Go.Vm
attribute [local irreducible] zAO Program.underlying Ylds zBE alex zB0 zBk awp zAg zB9 zB8 zAU zBj zA6 zBl zBn zBC zBq zBz zB7 zBm zBc zBe
theorem zTq(m:Img)(r r':Raw){a b:Int}(hc:InsAt m r ⟨20,a,b⟩){w:Nat}(hT:zA6 prog 24 [.ptr 0 0,.d (i64 0)] (MX m (nxt r)) (w64 w))(hP:zAU prog 49 [.ptr 0 0,.d (w64 w)] (MX m (nxt r)) (.d (.tup [i64 0,bl false])) (MX m r')): zAU prog 22 [.ptr 0 0] (MX m r) .top (MX m r'):=by
 obtain⟨hpos,hat0,hbig⟩:=hc
 have hbd:=(qAA.1 hat0).1
 have hat:=zB6 (f:=enIn) hat0
 refine zA7 func22 rfl ntmps22 results22 rfl ?_
 intro wb St0 X fx
 repeat' first|(refine zBZ (id:=0) [.y (.ptr 0 0),.y (.ptr 0 0),.y (.ptr 0 (0+0)),.y (.ptr 0 (0+0+1)),.y (.d (.slice (m.code.map enIn))),.y (.ptr 0 0),.y (.ptr 0 0),.y (.ptr 0 (0+4)),.y (.ptr 0 (0+4+0)),.y (.d (i64 r.c.at_)),.y (.rptr [i64 20,i64 a,i64 b]),.y (.d (.agg (List.take 3 [i64 20,i64 a,i64 b]))),.mk ⟨2,_,46,_⟩ none] (by kernel_rfl) (by kernel_rfl) (.inr (by kernel_rfl)) ⟨⟨rfl,zAH rfl⟩,rfl,⟨rfl,zAL rfl⟩,rfl,⟨rfl,zAC rfl zBI⟩,rfl,⟨rfl,zAC rfl zA9⟩,rfl,⟨rfl,zAE rfl zBg rfl rfl⟩,rfl,⟨rfl,zAH rfl⟩,rfl,⟨rfl,zAL rfl⟩,rfl,⟨rfl,zAC rfl zAc⟩,rfl,⟨rfl,zAC rfl zAe⟩,rfl,⟨rfl,zAE rfl zAP rfl rfl⟩,rfl,⟨rfl,zCX rfl rfl zB3 hpos hat rfl (by decide)⟩,rfl,⟨rfl,zBK rfl zA8 rfl⟩,rfl,⟨rfl,rfl,rfl,zCM,by kernel_rfl,rfl⟩,rfl,trivial⟩ ?_)|(refine zBT (id:=2) (s:=[(0,.ptr 0 0),(2,.ptr 9 0)]) (h:=MA fx m (nxt r)++[inB 20 a b]) (zAS (Le_all rfl) (zCa rfl rfl rfl) rfl rfl) ?_)|apply en_n|apply zAG|apply zAA|apply zAD|apply w0|(refine zBs (by kernel_rfl) ?_;apply zAj;exact rfl;exact rfl;exact rfl;(with_reducible exact zA8);exact rfl;exact rfl;exact rfl;exact rfl)|exact zAi rfl rfl|exact zAn rfl rfl|exact zAL rfl|(apply zAE;exact rfl;(first|with_reducible exact zAa|with_reducible exact vq_tc_23);exact rfl;exact rfl)|(refine zAX ids9 [] rfl rfl zAw (hT) rfl (SArgs_all rfl) rfl (by decide) rfl rfl rfl rfl)|(refine aVMt (fx:=fx) (m:=m) (r:=nxt r) (tl:=[inB 20 a b]) zCS hP (SArgs_all rfl) rfl rfl rfl rfl ?_)|apply ay (hd:=rfl)|exact zAF rfl|exact zAB rfl|refine zBG rfl rfl ?_|exact zAk rfl rfl|exact zAH rfl|(apply zAC;exact rfl;(with_reducible first|exact zAv|exact zAe|exact zAc))|exact zAE rfl zAP rfl rfl|(refine w0' ?_)|refine zAj rfl rfl rfl zAP rfl rfl rfl rfl ?_|refine zAI rfl ?_|refine zAJ rfl ?_|apply zAK|apply zAR|apply eb_n
 all_goals first|omega|skip
 all_goals exact zBO rfl rfl
theorem zWk(m:Img)(r r':Raw){a b:Int}(hc:InsAt m r ⟨20,a,b⟩){w:Nat}{x y:Int}{t:Bool}{s:List UInt8}(hT:zA6 prog 24 [.ptr 0 0,.d (i64 0)] (MX m (nxt r)) (w64 w))(hN:zA6 prog 49 [.ptr 0 0,.d (w64 w)] (MX m (nxt r)) (.tup [i64 x,bl true]))(hb0:0<=b)(hk:m.pool[b.toNat]?=some ⟨t,y,s⟩)(hG:zAU prog 51 [.ptr 0 0,.d (i64 a),.d (bl (decide (x≠y)))] (MX m (nxt r)) .top (MX m r')): zAU prog 22 [.ptr 0 0] (MX m r) .top (MX m r'):=by
 obtain⟨hpos,hat0,hbig⟩:=hc
 have hbd:=(qAA.1 hat0).1
 have hat:=zB6 (f:=enIn) hat0
 refine zA7 func22 rfl ntmps22 results22 rfl ?_
 intro wb St0 X fx
 repeat' first|(refine zBZ (id:=0) [.y (.ptr 0 0),.y (.ptr 0 0),.y (.ptr 0 (0+0)),.y (.ptr 0 (0+0+1)),.y (.d (.slice (m.code.map enIn))),.y (.ptr 0 0),.y (.ptr 0 0),.y (.ptr 0 (0+4)),.y (.ptr 0 (0+4+0)),.y (.d (i64 r.c.at_)),.y (.rptr [i64 20,i64 a,i64 b]),.y (.d (.agg (List.take 3 [i64 20,i64 a,i64 b]))),.mk ⟨2,_,46,_⟩ none] (by kernel_rfl) (by kernel_rfl) (.inr (by kernel_rfl)) ⟨⟨rfl,zAH rfl⟩,rfl,⟨rfl,zAL rfl⟩,rfl,⟨rfl,zAC rfl zBI⟩,rfl,⟨rfl,zAC rfl zA9⟩,rfl,⟨rfl,zAE rfl zBg rfl rfl⟩,rfl,⟨rfl,zAH rfl⟩,rfl,⟨rfl,zAL rfl⟩,rfl,⟨rfl,zAC rfl zAc⟩,rfl,⟨rfl,zAC rfl zAe⟩,rfl,⟨rfl,zAE rfl zAP rfl rfl⟩,rfl,⟨rfl,zCX rfl rfl zB3 hpos hat rfl (by decide)⟩,rfl,⟨rfl,zBK rfl zA8 rfl⟩,rfl,⟨rfl,rfl,rfl,zCM,by kernel_rfl,rfl⟩,rfl,trivial⟩ ?_)|(refine zBT (id:=2) (s:=[(0,.ptr 0 0),(2,.ptr 9 0)]) (h:=MA fx m (nxt r)++[inB 20 a b]) (zAS (Le_all rfl) (zCa rfl rfl rfl) rfl rfl) ?_)|apply en_n|apply zAG|apply zAA|apply zAD|apply w0|(refine zBs (by kernel_rfl) ?_;apply zAj;exact rfl;exact rfl;exact rfl;(with_reducible exact zA8);exact rfl;exact rfl;exact rfl;exact rfl)|exact zAi rfl rfl|exact zAn rfl rfl|exact zAL rfl|(apply zAE;exact rfl;(first|with_reducible exact zAa|with_reducible exact vq_tc_23);exact rfl;exact rfl)|(refine zAX ids9 [] rfl rfl zAw (hT) rfl (SArgs_all rfl) rfl (by decide) rfl rfl rfl rfl)|(refine zAX ids9 [] rfl rfl zCS (hN) rfl (SArgs_all rfl) rfl (by decide) rfl rfl rfl rfl)|(refine zBs (by kernel_rfl) ?_;refine aVMt (fx:=fx) (m:=m) (r:=nxt r) (tl:=[inB 20 a b]) zIT hG (SArgs_all rfl) rfl rfl rfl rfl ?_)|(apply aJ (hd:=rfl);(first|exact zCQ rfl|exact zCp rfl rfl rfl|exact Co_nn rfl);exact rfl;(with_reducible exact zDF);assumption;omega;exact fun _=>rfl)|apply ay (hd:=rfl)|exact zAF rfl|exact zAB rfl|exact zDB rfl zDn|exact zCK rfl zEP|exact zIX rfl rfl|refine zBG rfl rfl ?_|exact zAk rfl rfl|exact zAH rfl|(apply zAC;exact rfl;(with_reducible first|exact zB2|exact zAv|exact zAl|exact zCE|exact zAe|exact zBI|exact zAc))|(apply zAE;exact rfl;(with_reducible first|exact zAx|exact zAP);exact rfl;exact rfl)|(refine w0' ?_)|refine zAj rfl rfl rfl zAP rfl rfl rfl rfl ?_|refine zAI rfl ?_|refine zAJ rfl ?_|apply zAK|refine zAf (by kernel_rfl) (by kernel_rfl) ?_|apply eb_n
 all_goals first|omega|skip
 all_goals exact zBO rfl rfl
theorem zYn(l:List RTy)(t:RTy): l.map enTy++[enTy t]=(l++[t]).map enTy:=by rw[qAl];rfl
theorem zWn(m:Img)(r:Raw){a b:Int}(hc:InsAt m r ⟨17,a,b⟩)(hl:r.trs.length<=1048576): zAU prog 22 [.ptr 0 0] (MX m r) .top (MX m { nxt r with trs:=r.trs++[⟨{ (nxt r).c with at_:=a },(r.stk.length:Int),(r.cls.length:Int)⟩] }):=by
 obtain⟨hpos,hat0,hbig⟩:=hc
 have hbd:=(qAA.1 hat0).1
 have hat:=zB6 (f:=enIn) hat0
 have hl':(nxt r).trs.length<=1048576:=hl
 refine zA7 func22 rfl ntmps22 results22 rfl ?_
 intro wb St0 X fx
 repeat' first|(refine zBZ (id:=39) [.y (.ptr 0 0),.y (.ptr 0 0),.y (.ptr 0 (0+4)),.y (.d (.agg [i64 (nxt r).c.at_,i64 (nxt r).c.base,w64 (nxt r).c.fn])),.y (.ptr 0 0),.y (.ptr 0 0),.y (.ptr 0 (0+3)),.y (.buf 5 (nxt r).stk.length),.y (.d (i64 ((nxt r).stk.length:Int))),.y (.ptr 0 0),.y (.ptr 0 0),.y (.ptr 0 (0+7)),.y (.buf 6 (nxt r).cls.length),.y (.d (i64 ((nxt r).cls.length:Int))),.y (.d (.agg [i64 (nxt r).c.at_,i64 (nxt r).c.base,w64 (nxt r).c.fn,i64 ((nxt r).stk.length:Int),i64 ((nxt r).cls.length:Int)])),.mk ⟨7,_,114,_⟩ none] (by kernel_rfl) (by kernel_rfl) (.inr (by kernel_rfl)) ⟨⟨rfl,zAH rfl⟩,rfl,⟨rfl,zAL rfl⟩,rfl,⟨rfl,zAC rfl zAc⟩,rfl,⟨rfl,zBA rfl zCT rfl rfl rfl⟩,rfl,⟨rfl,zAH rfl⟩,rfl,⟨rfl,zAL rfl⟩,rfl,⟨rfl,zAC rfl zCn⟩,rfl,⟨rfl,zAE rfl zBJ rfl rfl⟩,rfl,⟨rfl,zA3 rfl zCq⟩,rfl,⟨rfl,zAH rfl⟩,rfl,⟨rfl,zAL rfl⟩,rfl,⟨rfl,zAC rfl zDg⟩,rfl,⟨rfl,zAE rfl zCG rfl rfl⟩,rfl,⟨rfl,zA3 rfl zGt⟩,rfl,⟨rfl,zBr zTX zIp (PD_d rfl rfl (PD_d rfl rfl (PD_d rfl rfl zCi))) rfl⟩,rfl,⟨rfl,rfl,rfl,zIp,by kernel_rfl,rfl⟩,rfl,trivial⟩ ?_)|(refine zKA (rid:=41) [.ptr 0 0,.ptr 0 0,.ptr 0 0,.ptr 0 (0+8),.buf 7 (nxt r).trs.length,.d (.agg [i64 a,i64 (nxt r).c.base,w64 (nxt r).c.fn,i64 ((nxt r).stk.length:Int),i64 ((nxt r).cls.length:Int)]),.d (.slice [.agg [i64 a,i64 (nxt r).c.base,w64 (nxt r).c.fn,i64 ((nxt r).stk.length:Int),i64 ((nxt r).cls.length:Int)]]),.top] 7 7 (by kernel_rfl) (by kernel_rfl) rfl rfl rfl (.inr (by kernel_rfl)) ⟨.inr ⟨⟨rfl,zAH rfl⟩,rfl,rfl,.inr ⟨rfl,rfl,zAH rfl⟩⟩,⟨.inr ⟨⟨rfl,zAH rfl⟩,rfl,rfl,.inl (by kernel_rfl)⟩,⟨.inr ⟨⟨rfl,zAL rfl⟩,rfl,rfl,.inl (by kernel_rfl)⟩,⟨.inr ⟨⟨rfl,zAC rfl zC8⟩,rfl,rfl,.inl (by kernel_rfl)⟩,⟨.inr ⟨⟨rfl,zAE rfl zCD rfl rfl⟩,rfl,rfl,.inl (by kernel_rfl)⟩,⟨.inr ⟨⟨rfl,zBA rfl zCV rfl rfl rfl⟩,rfl,rfl,.inl (by kernel_rfl)⟩,⟨.inr ⟨⟨rfl,zCC zLt zEC zTO rfl rfl (zAY rfl zAM) rfl⟩,rfl,rfl,.inl (by kernel_rfl)⟩,⟨.inl rfl,trivial⟩⟩⟩⟩⟩⟩⟩⟩ rfl rfl rfl (qAC _).symm rfl zLt zEC zTU zTb rfl rfl (zDS rfl) (by simp only[qAP,qAp];omega) ?_)|(refine zBZ (id:=0) [.y (.ptr 0 0),.y (.ptr 0 0),.y (.ptr 0 (0+0)),.y (.ptr 0 (0+0+1)),.y (.d (.slice (m.code.map enIn))),.y (.ptr 0 0),.y (.ptr 0 0),.y (.ptr 0 (0+4)),.y (.ptr 0 (0+4+0)),.y (.d (i64 r.c.at_)),.y (.rptr [i64 17,i64 a,i64 b]),.y (.d (.agg (List.take 3 [i64 17,i64 a,i64 b]))),.mk ⟨2,_,46,_⟩ none] (by kernel_rfl) (by kernel_rfl) (.inr (by kernel_rfl)) ⟨⟨rfl,zAH rfl⟩,rfl,⟨rfl,zAL rfl⟩,rfl,⟨rfl,zAC rfl zBI⟩,rfl,⟨rfl,zAC rfl zA9⟩,rfl,⟨rfl,zAE rfl zBg rfl rfl⟩,rfl,⟨rfl,zAH rfl⟩,rfl,⟨rfl,zAL rfl⟩,rfl,⟨rfl,zAC rfl zAc⟩,rfl,⟨rfl,zAC rfl zAe⟩,rfl,⟨rfl,zAE rfl zAP rfl rfl⟩,rfl,⟨rfl,zCX rfl rfl zB3 hpos hat rfl (by decide)⟩,rfl,⟨rfl,zBK rfl zA8 rfl⟩,rfl,⟨rfl,rfl,rfl,zCM,by kernel_rfl,rfl⟩,rfl,trivial⟩ ?_)|(refine zBT (id:=2) (s:=[(0,.ptr 0 0),(2,.ptr 9 0)]) (h:=MA fx m (nxt r)++[inB 17 a b]) (zAS (Le_all rfl) (zCa rfl rfl rfl) rfl rfl) ?_)|apply en_n|apply zAG|apply zAA|apply zAD|apply w0|(refine zBs (by kernel_rfl) ?_;apply zAj;exact rfl;exact rfl;exact rfl;(with_reducible exact zA8);exact rfl;exact rfl;exact rfl;exact rfl)|exact zAi rfl rfl|exact zAn rfl rfl|exact zAL rfl|(refine zBs (by kernel_rfl) ?_;apply zAj;exact rfl;exact rfl;exact rfl;(first|with_reducible exact zBJ|with_reducible exact zCT|with_reducible exact zCG|with_reducible exact zCD|with_reducible exact zCV|with_reducible exact zBU|with_reducible exact zAP);exact rfl;exact rfl;exact rfl;exact rfl)|(apply zAE;exact rfl;(first|with_reducible exact zAa|with_reducible exact vq_tc_23);exact rfl;exact rfl)|apply ay (hd:=rfl)|exact zAB rfl|refine zBG rfl rfl ?_|exact zAH rfl|(apply zAC;exact rfl;(with_reducible first|exact zAv|exact zAl|exact zAe|exact zAc|exact zC8|exact zFq))|exact zAE rfl zAP rfl rfl|(refine w0' ?_)|refine zAj rfl rfl rfl zAP rfl rfl rfl rfl ?_|refine zAI rfl ?_|refine zAJ rfl ?_|apply zAK|apply eb_n
 all_goals first|omega|skip
 all_goals exact zCl ⟨rfl,zAS Le_nil (zEp rfl rfl rfl rfl qAD rfl rfl rfl rfl rfl rfl rfl (zBf rfl) (zBf rfl) (zBf (congrArg (Ob.buf true _ 5) (zYn r.trs _).symm)) rfl) rfl rfl⟩
end Go.Proofs.YtcagoomibpcdlaaGreatDoor
namespace Go.Proofs.YtcagoomibpcdlaaGreatDoor
open _root_.Go.Proofs.Tryz
open Go.Sx Go.Vm
abbrev zCJ(m:Img)(s s':St)(oth oth':List Nat): Prop:=zAU prog 22 [.ptr 0 0] (MX m (rawS s oth)) .top (MX m (rawS s' oth'))
abbrev fwd(s:St): St:=s.goto (s.c.at_+1)
theorem zHz{s:St}(oth:List Nat)(hl:s.stack.length<=4000): (rawS (fwd s) oth).stk.length<=1048576:=by rw[zBR];show s.stack.length<=_;omega
theorem zR9{s:St}(m:Img)(oth:List Nat)(hl:s.stack.length<=4000)(h:(fwd s).high 1=true): zAU prog 39 [.ptr 0 0,.d (i64 1)] (MX m (rawS (fwd s) oth)) (.d (bl true)) (MX m (rawS ((fwd s).stop 6) oth)):=by
 have h1:(((rawS (fwd s) oth).stk.length:Nat):Int)+1>4000:=by rw[zBR];exact of_decide_eq_true h
 exact zI4 m (rawS (fwd s) oth) (k:=1) (zHz oth hl) (by omega) h1
theorem zSA{s:St}(m:Img)(oth:List Nat)(hl:s.stack.length<=4000)(h:(fwd s).high 1=false): zA6 prog 39 [.ptr 0 0,.d (i64 1)] (MX m (rawS (fwd s) oth)) (bl false):=by
 have h1:¬(((rawS (fwd s) oth).stk.length:Nat):Int)+1>4000:=by rw[zBR];exact of_decide_eq_false h
 exact zIS m (rawS (fwd s) oth) (k:=1) (zHz oth hl) (by omega) h1
theorem zK8{s:St}(m:Img)(oth:List Nat)(hl:s.stack.length<=4000){k:Nat}(hk:k<s.stack.length): zA6 prog 24 [.ptr 0 0,.d (i64 (k:Int))] (MX m (rawS (fwd s) oth)) (w64 (wdN s.all s.ly (s.top k))) :=
 zB4 m (rawS (fwd s) oth) (k:=k) (by rw[zBR];exact hk) (zFH (fwd s) oth hk) (zHz oth hl)
theorem zXA{s:St}(m:Img)(oth:List Nat)(hl:s.stack.length<=4000)(r:Rf): zAU prog 40 [.ptr 0 0,.d (w64 (wdN s.all s.ly r))] (MX m (rawS (fwd s) oth)) .top (MX m (rawS ((fwd s).instead 0 r) oth)):=by
 rw[zOW]
 exact zHQ m (rawS (fwd s) oth) (zHz oth hl)
theorem st_0(m:Img)(s:St)(oth:List Nat){a b:Int}(hc:InsAt m (rawS s oth) ⟨0,a,b⟩): zCJ m s ((fwd s).stop 1) oth oth :=
 zY5 m (rawS s oth) _ hc (zEx m (rawS (fwd s) oth) 1)
theorem st_2(m:Img)(s:St)(oth:List Nat){a b:Int}(hc:InsAt m (rawS s oth) ⟨2,a,b⟩)(hl:s.stack.length<=4000)(ha:0<=a)(hk:a<s.stack.length): zCJ m s ((fwd s).push ((fwd s).top a.toNat)) oth oth:=by
 unfold zCJ St.push
 have e:a=(a.toNat:Int):=(qAy ha).symm
 split
 ·rename_i h;exact zWj m (rawS s oth) _ hc (zR9 m oth hl h)
 ·rename_i h
  have hT:=zK8 (s:=s) m oth hl (k:=a.toNat) (by omega)
  rw[<-e]at hT
  exact zY4 m (rawS s oth) _ hc (zSA m oth hl (by simpa using h)) hT (zXA m oth hl _)
theorem st_4(m:Img)(s:St)(oth:List Nat){a b:Int}(hc:InsAt m (rawS s oth) ⟨4,a,b⟩)(hl:s.stack.length<=4000): zCJ m s ((fwd s).push (fwd s).c.fun_) oth oth:=by
 unfold zCJ St.push
 split
 ·rename_i h;exact zWh m (rawS s oth) _ hc (zR9 m oth hl h)
 ·rename_i h
  exact zY2 m (rawS s oth) _ hc (zSA m oth hl (by simpa using h)) (zXA m oth hl _)
theorem st_5(m:Img)(s:St)(oth:List Nat){a b:Int}(hc:InsAt m (rawS s oth) ⟨5,a,b⟩)(hl:s.stack.length<=4000)(ha:0<=a)(hk:a<=s.stack.length): zCJ m s { fwd s with stack:=(fwd s).stack.take ((fwd s).stack.length-a.toNat) } oth oth:=by
 unfold zCJ
 have e:a=(a.toNat:Int):=(qAy ha).symm
 have hR:=zIu m (rawS (fwd s) oth) (n:=a.toNat) (zHz oth hl) (by rw[zBR];show _<=s.stack.length;omega)
 rw[<-e]at hR
 rw[zOV]
 exact zY1 m (rawS s oth) _ hc hR
theorem zaa(m:Img)(s:St)(oth:List Nat){a b:Int}(hc:InsAt m (rawS s oth) ⟨15,a,b⟩): zCJ m s ((fwd s).goto a) oth oth:=zWp m (rawS s oth) hc
theorem zaY(m:Img)(s:St)(oth:List Nat){a b:Int}(hc:InsAt m (rawS s oth) ⟨17,a,b⟩)(h:s.tries.length<=1048576): zCJ m s { fwd s with tries:=(fwd s).tries++[⟨{ (fwd s).c with at_:=a },(fwd s).stack.length,(fwd s).calls.length⟩] } oth oth:=by
 unfold zCJ
 rw[zW5]
 exact zWn m (rawS s oth) hc (by rw[zJc];exact h)
theorem zab(m:Img)(s:St)(oth:List Nat){a b:Int}(hc:InsAt m (rawS s oth) ⟨14,a,b⟩)(h1:1<=s.tries.length)(h:s.tries.length<=1048576): zCJ m s { fwd s with tries:=(fwd s).tries.dropLast } oth oth:=by
 unfold zCJ
 rw[zW6]
 exact zWq m (rawS s oth) hc (by rw[zJc];exact h1) (by rw[zJc];exact h)
def zIi(s:St): Prop:=∀t,s.tries.getLast? = some t->(0<=t.height/\t.height<=s.stack.length)/\(0<=t.calls/\t.calls<=s.calls.length)
theorem zLI(m:Img)(s:St)(oth:List Nat)(n:Int)(ht:zIi s)(hl:s.stack.length<=1048576)(hl2:s.calls.length<=1048576)(hl3:s.tries.length<=1048576):
  zAU prog 50 [.ptr 0 0,.d (i64 n)] (MX m (rawS s oth)) .top (MX m (rawS (s.raise n) oth)):=by
 cases h:s.tries.getLast? with
 |none =>
  have h0:s.tries=[]:=qBd.1 h
  rw[zMA s n oth h0]
  exact zUH m (rawS s oth) n (by show s.tries.map _=[];rw[h0];rfl)
 |some t =>
  obtain⟨h1,h2⟩:=ht t h
  rw[zRM s n oth h]
  exact zRO m (rawS s oth) n (zUE s oth h) (by rw[zBR];exact h1) (by rw[zHP];exact h2) (by rw[zBR];exact hl) (by rw[zHP];exact hl2) (by rw[zJc];exact hl3)
def RfOk(s:St): Rf->Prop
 | .n v=>Wn v=v
 | .b i=>wdN s.all s.ly (.b i)<18446744073709551616
theorem st_6(m:Img)(s:St)(oth:List Nat){a b:Int}(hc:InsAt m (rawS s oth) ⟨6,a,b⟩)(hl:s.stack.length<=4000)(ha:0<=a)(hk:a<s.stack.length): zCJ m s ((fwd s).instead (a.toNat+1) ((fwd s).top 0)) oth oth:=by
 unfold zCJ
 have e:a+1=((a.toNat+1:Nat):Int):=by omega
 have hT:=zK8 (s:=s) m oth hl (k:=0) (by omega)
 have hB:=zFC m (rawS (fwd s) oth) (n:=a.toNat+1) (w:=wdN s.all s.ly (s.top 0)) (zHz oth hl) (by rw[zBR];show _<=s.stack.length;omega)
 rw[<-e]at hB
 rw[zER]
 exact zY0 m (rawS s oth) _ hc (by omega) hT hB
theorem zY9(m:Img)(s:St)(oth:List Nat){a b:Int}{i:Nat}(hc:InsAt m (rawS s oth) ⟨13,a,b⟩)(hl:s.stack.length<=4000)(hk:1<=s.stack.length)(hr:s.top 0=.b i)(ho:RfOk s (s.top 0)): zCJ m s ((fwd s).stop 4) oth oth:=by
 rw[hr]at ho
 have hT:=zK8 (s:=s) m oth hl (k:=0) (by omega)
 rw[hr]at hT
 exact zTt m (rawS s oth) _ hc hT (zFu m (rawS (fwd s) oth) (zHd s.all s.ly ho))
theorem zac(m:Img)(s:St)(oth:List Nat){a b x:Int}(hc:InsAt m (rawS s oth) ⟨13,a,b⟩)(hl:s.stack.length<=4000)(hk:1<=s.stack.length)(hr:s.top 0=.n x)(ho:RfOk s (s.top 0))(ht:zIi s)(hl2:s.calls.length<=1048576)(hl3:s.tries.length<=1048576): zCJ m s ((fwd s).raise x) oth oth:=by
 rw[hr]at ho
 have hT:=zK8 (s:=s) m oth hl (k:=0) (by omega)
 rw[hr]at hT
 exact zWr m (rawS s oth) _ hc hT (zES m (rawS (fwd s) oth) (zGn s.all s.ly ho)) (zLI m (fwd s) oth x ht (by show s.stack.length<=_;omega) hl2 hl3)
theorem zY8(m:Img)(s:St)(oth:List Nat){a b:Int}{i:Nat}(hc:InsAt m (rawS s oth) ⟨16,a,b⟩)(hl:s.stack.length<=4000)(hk:1<=s.stack.length)(hr:s.top 0=.b i)(ho:RfOk s (s.top 0)): zCJ m s ((fwd s).stop 4) oth oth:=by
 rw[hr]at ho
 have hT:=zK8 (s:=s) m oth hl (k:=0) (by omega)
 rw[hr]at hT
 exact zTs m (rawS s oth) _ hc hT (zFu m (rawS (fwd s) oth) (zHd s.all s.ly ho))
theorem zSI(m:Img)(s:St)(oth:List Nat)(a:Int)(p:Prop)[Decidable p]: zAU prog 51 [.ptr 0 0,.d (i64 a),.d (bl (decide p))] (MX m (rawS s oth)) .top (MX m (rawS (if p then s.goto a else s) oth)):=by
 by_cases h:p
 ·rw[decide_eq_true h,if_pos h];exact zUy m (rawS s oth) a
 ·rw[decide_eq_false h,if_neg h];exact zXu m (rawS s oth) a
theorem zaZ(m:Img)(s:St)(oth:List Nat){a b x:Int}(hc:InsAt m (rawS s oth) ⟨16,a,b⟩)(hl:s.stack.length<=4000)(hk:1<=s.stack.length)(hr:s.top 0=.n x)(ho:RfOk s (s.top 0)):
  zCJ m s (if x=0 then({ fwd s with stack:=(fwd s).stack.take ((fwd s).stack.length-1) }:St).goto a else { fwd s with stack:=(fwd s).stack.take ((fwd s).stack.length-1) }) oth oth:=by
 rw[hr]at ho
 have hT:=zK8 (s:=s) m oth hl (k:=0) (by omega)
 rw[hr]at hT
 have hK:=zIu m (rawS (fwd s) oth) (n:=1) (zHz oth hl) (by rw[zBR];exact hk)
 rw[<-zOV]at hK
 exact zWo m (rawS s oth) _ hc hT (zES m (rawS (fwd s) oth) (zGn s.all s.ly ho)) hK (zSI m _ oth a (x=0))
theorem zY7(m:Img)(s:St)(oth:List Nat){a b:Int}{i:Nat}(hc:InsAt m (rawS s oth) ⟨20,a,b⟩)(hl:s.stack.length<=4000)(hk:1<=s.stack.length)(hr:s.top 0=.b i)(ho:RfOk s (s.top 0)): zCJ m s ((fwd s).stop 4) oth oth:=by
 rw[hr]at ho
 have hT:=zK8 (s:=s) m oth hl (k:=0) (by omega)
 rw[hr]at hT
 exact zTq m (rawS s oth) _ hc hT (zFu m (rawS (fwd s) oth) (zHd s.all s.ly ho))
theorem zaV(m:Img)(s:St)(oth:List Nat){a b x:Int}(hc:InsAt m (rawS s oth) ⟨20,a,b⟩)(hl:s.stack.length<=4000)(hk:1<=s.stack.length)(hr:s.top 0=.n x)(ho:RfOk s (s.top 0))(hb:0<=b)(hp:b<m.pool.length):
  zCJ m s (if x≠(m.pool.getD b.toNat default).num then(fwd s).goto a else fwd s) oth oth:=by
 rw[hr]at ho
 have hT:=zK8 (s:=s) m oth hl (k:=0) (by omega)
 rw[hr]at hT
 have hlt:b.toNat<m.pool.length:=by omega
 have hg:m.pool[b.toNat]?=some (m.pool.getD b.toNat default):=by rw[qAE,qAB hlt];rfl
 exact zWk m (rawS s oth) _ hc hT (zES m (rawS (fwd s) oth) (zGn s.all s.ly ho)) hb hg (zSI m (fwd s) oth a (x≠(m.pool.getD b.toNat default).num))
theorem st_9(m:Img)(s:St)(oth:List Nat){a b:Int}{c:Cl}(hc:InsAt m (rawS s oth) ⟨9,a,b⟩)(hl:s.stack.length<=4000)(hk:1<=s.stack.length)(hcl:s.calls.getLast? = some c)(hl2:s.calls.length<=1048576)(hb:0<=s.c.base/\s.c.base<=s.stack.length):
  zCJ m s { fwd s with stack:=(fwd s).stack.take (fwd s).c.base.toNat++[(fwd s).top 0],c:=((fwd s).calls.getLast?).getD default,calls:=(fwd s).calls.dropLast } oth oth:=by
 unfold zCJ
 rw[zUG (fwd s) oth hcl]
 have hw:(rawS (fwd s) oth).stk.getLast? = some (wdN s.all s.ly (s.top 0)):=by
  have:=zFH (fwd s) oth (k:=0) (by exact hk)
  rw[Nat.sub_zero,<-qBS]at this
  exact this
 have hg:(rawS (fwd s) oth).cls.getLast? = some (rcl s.all s.ly c):=by
  show (s.calls.map (rcl s.all s.ly)).getLast? = _
  rw[List.getLast?_map,hcl];rfl
 exact zYx m (rawS s oth) _ hc (zVD m (rawS (fwd s) oth) hg hw (by rw[zBR];exact hb) (zHz oth hl) (by rw[zHP];exact hl2))
theorem Wn_W(n:Int): Wn (W n)=Wn n:=by unfold Wn W;omega
theorem W_of{n:Int}(h:Wn n=n): W n=n:=by unfold Wn at h;unfold W;omega
theorem nW_W(n:Int): nW (W n)=nW n:=by unfold nW numR;rw[Wn_W]
theorem zK7{s:St}(oth:List Nat)(h2:2<=s.stack.length)(hl:s.stack.length<=1048576): Tops (rawS s oth) (wdN s.all s.ly (s.top 1)) (wdN s.all s.ly (s.top 0)) :=
 ⟨by rw[zBR];exact h2,zFH s oth (by omega),zFH s oth (by omega),by rw[zBR];exact hl⟩
theorem zHT(s:St)(oth:List Nat)(x:Int): ({ rawS s oth with stk:=(rawS s oth).stk.take ((rawS s oth).stk.length-2)++[nW x] }:Raw)=rawS (s.numI 2 x) oth:=(zIz s 2 x oth).symm
theorem zZd(m:Img)(s s':St)(oth:List Nat){f:FuncId}{x y:Int}(hb:zAO prog f=true)(h2:2<=s.stack.length)(hl:s.stack.length<=1048576)(h1:s.top 1=.n x)(h0:s.top 0=.n y)(o1:RfOk s (s.top 1))(o0:RfOk s (s.top 0))
  (hF:zAU prog f [.d (i64 x),.d (i64 y),.ptr 9 0] (MXb m (rawS s oth)) .top (MXb m (rawS s' oth))):zAU prog 79 [.ptr 0 0,.clo f [9]] (MXb m (rawS s oth)) .top (MXb m (rawS s' oth)):=by
 have ht:=zK7 oth h2 hl
 rw[h1]at ht o1;rw[h0]at ht o0
 exact ints_ok m (rawS s oth) _ hb ht (zGn s.all s.ly o1) (zGn s.all s.ly o0) hF
theorem zXd(m:Img)(s:St)(oth:List Nat){f:FuncId}{i:Nat}(h2:2<=s.stack.length)(hl:s.stack.length<=1048576)(h1:s.top 1=.b i)(o1:RfOk s (s.top 1)): zAU prog 79 [.ptr 0 0,.clo f [9]] (MXb m (rawS s oth)) .top (MXb m (rawS (s.stop 4) oth)):=by
 have ht:=zK7 oth h2 hl
 rw[h1]at ht o1
 exact zUm m (rawS s oth) ht (zHd s.all s.ly o1)
theorem zXe(m:Img)(s:St)(oth:List Nat){f:FuncId}{x:Int}{i:Nat}(h2:2<=s.stack.length)(hl:s.stack.length<=1048576)(h1:s.top 1=.n x)(h0:s.top 0=.b i)(o1:RfOk s (s.top 1))(o0:RfOk s (s.top 0)): zAU prog 79 [.ptr 0 0,.clo f [9]] (MXb m (rawS s oth)) .top (MXb m (rawS (s.stop 4) oth)):=by
 have ht:=zK7 oth h2 hl
 rw[h1]at ht o1;rw[h0]at ht o0
 exact zUn m (rawS s oth) ht (zGn s.all s.ly o1) (zHd s.all s.ly o0)
theorem zbC(m:Img)(s:St)(oth:List Nat)(x y:Int)(h2:2<=s.stack.length)(hl:s.stack.length<=1048576): zAU prog 80 [.d (i64 x),.d (i64 y),.ptr 9 0] (MXb m (rawS s oth)) .top (MXb m (rawS (s.ints 0 x y) oth)):=by
 have h:=pAdd m (rawS s oth) x y (by rw[zBR];exact hl) (by rw[zBR];exact h2)
 rw[nW_W,zHT]at h
 exact h
theorem zaS(m:Img)(s:St)(oth:List Nat)(x y:Int)(h2:2<=s.stack.length)(hl:s.stack.length<=1048576): zAU prog 83 [.d (i64 x),.d (i64 y),.ptr 9 0] (MXb m (rawS s oth)) .top (MXb m (rawS (s.ints 1 x y) oth)):=by
 have h:=pSub m (rawS s oth) x y (by rw[zBR];exact hl) (by rw[zBR];exact h2)
 rw[nW_W,zHT]at h
 exact h
theorem zam(m:Img)(s:St)(oth:List Nat)(x y:Int)(h2:2<=s.stack.length)(hl:s.stack.length<=1048576): zAU prog 85 [.d (i64 x),.d (i64 y),.ptr 9 0] (MXb m (rawS s oth)) .top (MXb m (rawS (s.ints 2 x y) oth)):=by
 have h:=pMul m (rawS s oth) x y (by rw[zBR];exact hl) (by rw[zBR];exact h2)
 rw[nW_W,zHT]at h
 exact h
theorem eq_m(m:Img)(s:St)(oth:List Nat)(x y:Int)(h2:2<=s.stack.length)(hl:s.stack.length<=1048576): zAU prog 92 [.d (i64 x),.d (i64 y),.ptr 9 0] (MXb m (rawS s oth)) .top (MXb m (rawS (s.ints 5 x y) oth)):=by
 have h:=pEq m (rawS s oth) x y (by rw[zBR];exact hl) (by rw[zBR];exact h2)
 rw[zHT]at h
 rw[show s.ints 5 x y=s.numI 2 (if decide (x=y)=true then 1 else 0) by simp[St.ints]]
 exact h
theorem zZa(m:Img)(s:St)(oth:List Nat)(x y:Int)(h2:2<=s.stack.length)(hl:s.stack.length<=1048576): zAU prog 94 [.d (i64 x),.d (i64 y),.ptr 9 0] (MXb m (rawS s oth)) .top (MXb m (rawS (s.ints 6 x y) oth)):=by
 have h:=zai m (rawS s oth) x y (by rw[zBR];exact hl) (by rw[zBR];exact h2)
 rw[zHT]at h
 rw[show s.ints 6 x y=s.numI 2 (if decide (x<y)=true then 1 else 0) by simp[St.ints]]
 exact h
theorem za5(m:Img)(s:St)(oth:List Nat){x y:Int}(hx:Wn x=x)(hy:Wn y=y)(h2:2<=s.stack.length)(hl:s.stack.length<=1048576)(ht:zIi s)(hl2:s.calls.length<=1048576)(hl3:s.tries.length<=1048576): zAU prog 87 [.d (i64 x),.d (i64 y),.ptr 9 0] (MXb m (rawS s oth)) .top (MXb m (rawS (s.ints 3 x y) oth)):=by
 have ex:=W_of hx
 have ey:=W_of hy
 refine pDiv m (rawS s oth) _ x y ?_
 by_cases h0:y=0
 ·rw[show s.ints 3 x y=s.raise (-2) by simp[St.ints,h0],zE0 (by rw[ey];exact h0)]
  exact zN9 m (rawS s oth) _ _ (by decide) (zLI m s oth (-2) ht hl hl2 hl3)
 ·have h:=zN8 m (rawS s oth) (divV x y) (by rw[zBR];exact hl) (by rw[zBR];exact h2)
  rw[show s.ints 3 x y=s.numI 2 (x.tdiv y) by simp[St.ints,h0],zE1 (by rw[ey];exact h0)]
  have e:nW (divV x y)=nW (x.tdiv y):=by rw[divV,if_neg (by rw[ey];exact h0),ex,ey,nW_W]
  rw[e,zHT]at h
  exact h
theorem zan(m:Img)(s:St)(oth:List Nat){x y:Int}(hx:Wn x=x)(hy:Wn y=y)(h2:2<=s.stack.length)(hl:s.stack.length<=1048576)(ht:zIi s)(hl2:s.calls.length<=1048576)(hl3:s.tries.length<=1048576): zAU prog 90 [.d (i64 x),.d (i64 y),.ptr 9 0] (MXb m (rawS s oth)) .top (MXb m (rawS (s.ints 4 x y) oth)):=by
 have ex:=W_of hx
 have ey:=W_of hy
 refine pMod m (rawS s oth) _ x y ?_
 by_cases h0:y=0
 ·rw[show s.ints 4 x y=s.raise (-2) by simp[St.ints,h0],zE0 (by rw[ey];exact h0)]
  exact zN9 m (rawS s oth) _ _ (by decide) (zLI m s oth (-2) ht hl hl2 hl3)
 ·have h:=zN8 m (rawS s oth) (modV x y) (by rw[zBR];exact hl) (by rw[zBR];exact h2)
  rw[show s.ints 4 x y=s.numI 2 (x.tmod y) by simp[St.ints,h0],zE1 (by rw[ey];exact h0)]
  have e:nW (modV x y)=nW (x.tmod y):=by rw[modV,if_neg (by rw[ey];exact h0),ex,ey]
  rw[e,zHT]at h
  exact h
def two(s:St)(p:Int): St:=match s.top 1,s.top 0 with
 | .n x,.n y=>s.ints p x y
 |_,_=>s.stop 4
theorem zUK(shw:Int->List UInt8)(s:St){p:Int}(h:0<=p/\p<7): s.prim shw p=two s p:=by
 have ht:takes p=2:=by unfold takes;rw[if_neg (by omega),if_pos (by omega)]
 unfold St.prim two
 simp only[ht,if_pos h.2]
 rfl
abbrev zHM(m:Img)(s s':St)(oth oth':List Nat)(p:Int): Prop:=zAU prog 48 [.ptr 0 0,.d (i64 p)] (MX m (rawS s oth)) .top (MX m (rawS s' oth'))
theorem zNL(m:Img)(s:St)(oth:List Nat){p:Int}{f:FuncId}(hb:zAO prog f=true)(h2:2<=s.stack.length)(hl:s.stack.length<=1048576)(o1:RfOk s (s.top 1))(o0:RfOk s (s.top 0))
  (hP:∀r',zAU prog 79 [.ptr 0 0,.clo f [9]] (MXb m (rawS s oth)) .top (MXb m r')->zAU prog 48 [.ptr 0 0,.d (i64 p)] (MX m (rawS s oth)) .top (MX m r'))
  (hO:∀x y,Wn x=x->Wn y=y->zAU prog f [.d (i64 x),.d (i64 y),.ptr 9 0] (MXb m (rawS s oth)) .top (MXb m (rawS (s.ints p x y) oth))):zHM m s (two s p) oth oth p:=by
 refine hP _ ?_
 cases h1:s.top 1 with
 |b i =>
  rw[show two s p=s.stop 4 by unfold two;rw[h1]]
  exact zXd m s oth h2 hl h1 o1
 |n x =>
  cases h0:s.top 0 with
  |b i =>
   rw[show two s p=s.stop 4 by unfold two;rw[h1,h0]]
   exact zXe m s oth h2 hl h1 h0 o1 o0
  |n y =>
   rw[show two s p=s.ints p x y by unfold two;rw[h1,h0]]
   refine zZd m s _ oth hb h2 hl h1 h0 o1 o0 (hO x y ?_ ?_)
   ·rw[h1]at o1;exact o1
   ·rw[h0]at o0;exact o0
theorem zRV(m:Img)(shw:Int->List UInt8)(s:St)(oth:List Nat){p:Int}(h:0<=p/\p<7)(h2:2<=s.stack.length)(hl:s.stack.length<=1048576)(o1:RfOk s (s.top 1))(o0:RfOk s (s.top 0))(ht:zIi s)(hl2:s.calls.length<=1048576)(hl3:s.tries.length<=1048576): zHM m s (s.prim shw p) oth oth p:=by
 rw[zUK shw s h]
 obtain rfl|rfl|rfl|rfl|rfl|rfl|rfl:p=0\/p=1\/p=2\/p=3\/p=4\/p=5\/p=6:=by omega
 ·exact zNL m s oth zMZ h2 hl o1 o0 (fun r' h=>zRc m _ r' h) fun x y _ _=>zbC m s oth x y h2 hl
 ·exact zNL m s oth zMY h2 hl o1 o0 (fun r' h=>zRb m _ r' h) fun x y _ _=>zaS m s oth x y h2 hl
 ·exact zNL m s oth zMX h2 hl o1 o0 (fun r' h=>zRa m _ r' h) fun x y _ _=>zam m s oth x y h2 hl
 ·exact zNL m s oth zMW h2 hl o1 o0 (fun r' h=>zRZ m _ r' h) fun x y hx hy=>za5 m s oth hx hy h2 hl ht hl2 hl3
 ·exact zNL m s oth zMV h2 hl o1 o0 (fun r' h=>zRY m _ r' h) fun x y hx hy=>zan m s oth hx hy h2 hl ht hl2 hl3
 ·exact zNL m s oth zMU h2 hl o1 o0 (fun r' h=>zRX m _ r' h) fun x y _ _=>eq_m m s oth x y h2 hl
 ·exact zNL m s oth zMT h2 hl o1 o0 (fun r' h=>zRW m _ r' h) fun x y _ _=>zZa m s oth x y h2 hl
theorem zMz{s:St}(oth:List Nat){n:Nat}(h:n<=s.stack.length)(h1:1<=n)(hl:s.stack.length<=1048576): Arg (rawS s oth) n (wdN s.all s.ly (s.top (n-1))) :=
 ⟨by rw[zBR];exact h,h1,zFH s oth (by omega),by rw[zBR];exact hl⟩
theorem zNV(m:Img)(s:St)(oth:List Nat)(h1:1<=s.stack.length)(hl:s.stack.length<=1048576)(o0:RfOk s (s.top 0))(ho:s.out.length<=1048576): zHM m s (s.prim shw 12) oth oth 12:=by
 have ha:=zMz oth (n:=1) h1 (by omega) hl
 have ht:takes 12=1:=rfl
 cases h0:s.top 0 with
 |n x =>
  have hx:Wn x=x:=by rw[h0]at o0;exact o0
  rw[show s.prim shw 12=s.put (shw x) by simp[St.prim,ht,h0]]
  rw[qBF,h0]at ha
  have h:=zRU m (rawS s oth) ha (zGn s.all s.ly hx) ho
  rw[W_of hx]at h
  exact h
 |b i =>
  rw[show s.prim shw 12=s.stop 4 by simp[St.prim,ht,h0]]
  rw[qBF,h0]at ha
  rw[h0]at o0
  exact zMF m (rawS s oth) ha (zHd s.all s.ly o0)
variable {m:Img}{A:Nat->Option VS}
theorem zIO{o:Thing}(h:Ov m A o): HeadOk o:=by
 refine⟨?_,h.tag,?_⟩
 ·have:=h.kind;omega
 ·unfold Thing.size Thing.need
  have h1:=h.few
  split
  ·rename_i h4;have:=(h.txt h4).2.2;omega
  ·omega
theorem zLO{o:Thing}(h:o.kind≠4): o.size=o.parts.length:=by unfold Thing.size Thing.need;rw[if_neg h];omega
theorem zHv{s:St}{i:Nat}(hi:i∈s.ly): (zB1 s.all s.ly)[offL s.all s.ly i]?=some (zCu (zAW s.all i)):=by
 have:=zMy (all:=s.all) (f:=zC1 s.all s.ly) (zDA s.all s.ly) hi (k:=0) (zF7 _)
 rw[qA2]at this
 exact this
theorem zLQ{s:St}{i k:Nat}(hi:i∈s.ly)(hk:k<(zAW s.all i).size): (zB1 s.all s.ly)[offL s.all s.ly i+1+k]?=(zFM s.all s.ly (zAW s.all i))[k]?:=by
 have:=zMy (all:=s.all) (f:=zC1 s.all s.ly) (zDA s.all s.ly) hi (k:=k+1) (by have:=zDV (zAW s.all i);omega)
 rw[show offL s.all s.ly i+1+k=offL s.all s.ly i+(k+1) by omega]
 exact this
theorem zHU{s:St}(h:Lay m A s)(hw:s.words<=1048576): (zB1 s.all s.ly).length<=1048576:=by
 rw[zEb]
 have h1:=h.used
 have h2:=h.room
 omega
theorem zIn{s:St}(h:Lay m A s)(hw:s.words<=1048576)(oth:List Nat){i:Nat}(hi:i∈s.ly):
  BlkQ (rawS s oth) (wdN s.all s.ly (.b i)) (zAW s.all i).kind (zAW s.all i).tag (if(zAW s.all i).kind=4 then 0 else((zAW s.all i).size:Int)) true :=
 zJE s.words (zB1 s.all s.ly) oth (begL s.all s.ly s.words.toNat) (zHv hi) (zIO (h.objs i (h.lt i hi))) (zHU h hw) (zJ8 hi)
theorem zOb{s:St}(h:Lay m A s)(hw:s.words<=1048576)(oth:List Nat){i k:Nat}(hi:i∈s.ly)(h4:(zAW s.all i).kind≠4)(hk:k<(zAW s.all i).parts.length):
  zA6 prog 41 [.ptr 0 0,.d (w64 (wdN s.all s.ly (.b i))),.d (i64 (k:Int))] (HO (rawS s oth).size (rawS s oth).now (rawS s oth).oth (rawS s oth).beg) (.tup [w64 (wdN s.all s.ly ((zAW s.all i).parts.getD k default)),bl true]):=by
 have hz:=zLO h4
 have hb:=zLQ hi (k:=k) (by omega)
 have hg:(zFM s.all s.ly (zAW s.all i))[k]?=some (wdN s.all s.ly ((zAW s.all i).parts.getD k default)):=by
  rw[zFM,if_neg h4,qAL,qAE,qAB hk];rfl
 rw[hg]at hb
 exact zS7 s.words (zB1 s.all s.ly) oth (begL s.all s.ly s.words.toNat) (zHv hi) (zIO (h.objs i (h.lt i hi))) (zHU h hw) (zJ8 hi) h4 (by omega) hb
theorem zQo{s:St}(h:Lay m A s)(hw:s.words<=1048576)(oth:List Nat){i:Nat}(hi:i∈s.ly)(h4:(zAW s.all i).kind=4): TxtQ (rawS s oth) (wdN s.all s.ly (.b i)) (zAW s.all i).text:=by
 have ho:=h.objs i (h.lt i hi)
 have ht:=ho.txt h4
 refine zYS s.words (zB1 s.all s.ly) oth (begL s.all s.ly s.words.toNat) (zHv hi) (zIO ho) h4 ht.2.1 ht.2.2 (zHU h hw) (zJ8 hi) fun q hq=>?_
 rw[zLQ hi hq,zFM,if_pos h4]
theorem zZO{s:St}(h:Lay m A s)(hw:s.words<=1048576){i:Nat}(hi:i∈s.ly): offL s.all s.ly i<1048576:=by
 have h1:=zML (all:=s.all) hi
 have h2:=zF7 (zAW s.all i)
 have h3:=h.used
 have h4:=h.room
 omega
theorem zRK{s:St}(h:Lay m A s)(hw:s.words<=1048576){r:Rf}(hv:Val s r): RfOk s r:=by
 cases r with
 |n v=>exact hv.num
 |b i =>
  have:=zZO h hw (hv.ly i rfl)
  show 2*offL s.all s.ly i<_
  omega
theorem of_t{s:St}(h:Lay m A s)(hw:s.words<=1048576)(oth:List Nat){r:Rf}(hv:Val s r){k:Int}(hk:s.of r k=true): zA6 prog 52 [.ptr 0 0,.d (w64 (wdN s.all s.ly r)),.d (i64 k)] (MX m (rawS s oth)) (bl true):=by
 cases r with
 |n v=>cases hk
 |b i =>
  have e:(zAW s.all i).kind=k:=of_decide_eq_true hk
  have hB:=zIn h hw oth (hv.ly i rfl)
  rw[e]at hB
  exact zFU m (rawS s oth) hB
theorem of_f{s:St}(h:Lay m A s)(hw:s.words<=1048576)(oth:List Nat){r:Rf}(hv:Val s r){k:Int}(hk:s.of r k=false): zAU prog 52 [.ptr 0 0,.d (w64 (wdN s.all s.ly r)),.d (i64 k)] (MX m (rawS s oth)) (.d (bl false)) (MX m (rawS (s.stop 4) oth)):=by
 cases r with
 |n v =>
  obtain⟨h1,h2⟩:=zOA s.all s.ly v
  exact zZP m (rawS s oth) (zTI s.words (zB1 s.all s.ly) oth (begL s.all s.ly s.words.toNat) h1 h2) (.inl rfl)
 |b i =>
  have e:(zAW s.all i).kind≠k:=of_decide_eq_false hk
  exact zZP m (rawS s oth) (zIn h hw oth (hv.ly i rfl)) (.inr e)
end Go.Proofs.YtcagoomibpcdlaaGreatDoor
namespace Go.Proofs.YtcagoomibpcdlaaGreatDoor
open _root_.Go.Proofs.Tryz
open Go.Sx Go.Vm
variable {m:Img}{A:Nat->Option VS}
theorem of_b{s:St}{r:Rf}{k:Int}(h:s.of r k=true): ∃i,r=.b i/\(zAW s.all i).kind=k:=by
 cases r with
 |n v=>cases h
 |b i=>exact⟨i,rfl,of_decide_eq_true h⟩
theorem zZ0{s:St}(h:Lay m A s)(hw:s.words<=1048576)(oth:List Nat)(tail:Bool)(h2:2<=s.stack.length)(hl:s.stack.length<=1048576)(hc:s.calls.length<=1000)(hb:0<=s.c.base/\s.c.base<=s.stack.length)(hv:Val s (s.top 1)):
  zAU prog 44 [.ptr 0 0,.d (bl tail)] (MX m (rawS s oth)) .top (MX m (rawS (s.app tail) oth)):=by
 have ht:Top2 (rawS s oth) (wdN s.all s.ly (s.top 1)) (wdN s.all s.ly (s.top 0)):=⟨by rw[zBR];exact h2,zFH s oth (by omega),zFH s oth (by omega),by rw[zBR];exact hl⟩
 cases hof:s.of (s.top 1) 2 with
 |false =>
  rw[show s.app tail=s.stop 4 by simp[St.app,hof]]
  exact zVI m (rawS s oth) tail ht (of_f h hw oth hv hof)
 |true =>
  obtain⟨i,e,hk⟩:=of_b hof
  have hi:=hv.ly i e
  have hB:=zIn h hw oth hi
  rw[hk]at hB
  rw[e]at ht
  have ho:s.of (.b i) 2=true:=e▸hof
  cases tail with
  |true =>
   rw[show s.app true = { s with stack:=s.stack.take s.c.base.toNat++[s.top 0],c:=⟨(zAW s.all i).tag,s.c.base,.b i⟩ } by simp[St.app,ho,e,St.obj,zAW],zUC]
   exact zQR m (rawS s oth) ht (by rw[zBR];exact hb) hB
  |false =>
   by_cases hq:s.calls.length>=1000
   ·rw[show s.app false=s.stop 6 by simp[St.app,hof,hq]]
    have hO:=of_t h hw oth hv hof
    rw[e]at hO
    exact zQS m (rawS s oth) ht (by rw[zHP];omega) hO
   ·rw[show s.app false = { s with calls:=s.calls++[s.c],stack:=s.stack.take (s.stack.length-2)++[s.top 0],c:=⟨(zAW s.all i).tag,(s.stack.length:Int)-2,.b i⟩ } by simp[St.app,ho,e,St.obj,zAW,hq],zUF]
    exact zQT m (rawS s oth) ht (by rw[zHP];omega) hB
theorem zGa{s:St}(h:Lay m A s): Lay m A (fwd s):=h.sub rfl rfl rfl rfl fun _r hr=>h.val hr
theorem st_7{s:St}(h:Lay m A s)(hw:s.words<=1048576)(oth:List Nat){a b:Int}(hc:InsAt m (rawS s oth) ⟨7,a,b⟩)(h2:2<=s.stack.length)(hl:s.stack.length<=4000)(hq:s.calls.length<=1000)(hb:0<=s.c.base/\s.c.base<=s.stack.length)(hv:Val s (s.top 1)): zCJ m s ((fwd s).app false) oth oth :=
 zYz m (rawS s oth) _ hc (zZ0 (s:=fwd s) (zGa h) hw oth false h2 (by show s.stack.length<=_;omega) hq hb ⟨hv.num,hv.ly⟩)
theorem st_8{s:St}(h:Lay m A s)(hw:s.words<=1048576)(oth:List Nat){a b:Int}(hc:InsAt m (rawS s oth) ⟨8,a,b⟩)(h2:2<=s.stack.length)(hl:s.stack.length<=4000)(hq:s.calls.length<=1000)(hb:0<=s.c.base/\s.c.base<=s.stack.length)(hv:Val s (s.top 1)): zCJ m s ((fwd s).app true) oth oth :=
 zYy m (rawS s oth) _ hc (zZ0 (s:=fwd s) (zGa h) hw oth true h2 (by show s.stack.length<=_;omega) hq hb ⟨hv.num,hv.ly⟩)
theorem st_3{s:St}(h:Lay m A s)(hw:s.words<=1048576)(oth:List Nat){a b:Int}{i:Nat}(hc:InsAt m (rawS s oth) ⟨3,a,b⟩)(hl:s.stack.length<=4000)(hf:s.c.fun_=.b i)(hk:(zAW s.all i).kind=2)(ha:0<=a)(hp:a<(zAW s.all i).parts.length):
  zCJ m s ((fwd s).push (((fwd s).obj (fwd s).c.fun_).parts.getD a.toNat default)) oth oth:=by
 have hi:i∈s.ly:=h.fun_.ly i hf
 have e:a=(a.toNat:Int):=(qAy ha).symm
 unfold zCJ St.push
 split
 ·rename_i hh;exact zWi m (rawS s oth) _ hc (zR9 m oth hl hh)
 ·rename_i hh
  have hX:=zOb h hw oth hi (k:=a.toNat) (by omega) (by omega)
  rw[<-e,<-hf]at hX
  have ho:((fwd s).obj (fwd s).c.fun_)=zAW s.all i:=by show s.obj s.c.fun_=_;rw[hf];rfl
  rw[ho]
  exact zY3 m (rawS s oth) _ hc (zSA m oth hl (by simpa using hh)) hX (zXA m oth hl _)
theorem zXy{s:St}(h:Lay m A s)(hw:s.words<=1048576)(oth:List Nat){a:Int}(ha:0<=a)(h1:1<=s.stack.length)(hl:s.stack.length<=1048576)(hv:Val s (s.top 0)):
  zAU prog 47 [.ptr 0 0,.d (i64 a)] (MX m (rawS s oth)) .top (MX m (rawS (if !s.of (s.top 0) 1||decide (a>=((s.obj (s.top 0)).parts.length:Int))then s.stop 4 else s.instead 1 ((s.obj (s.top 0)).parts.getD a.toNat default)) oth)):=by
 have g1:1<=(rawS s oth).stk.length:=by rw[zBR];exact h1
 have g2:(rawS s oth).stk.length<=1048576:=by rw[zBR];exact hl
 have ht:=zFH s oth (k:=0) (by omega)
 cases hof:s.of (s.top 0) 1 with
 |false=>exact zU1 m (rawS s oth) a g1 ht g2 (of_f h hw oth hv hof)
 |true =>
  obtain⟨i,e,hk⟩:=of_b hof
  have hi:=hv.ly i e
  have ho:=h.objs i (h.lt i hi)
  have hB:=zIn h hw oth hi
  have hz:=zLO (o:=zAW s.all i) (by omega)
  rw[e]at ht
  rw[hk]at hB
  have eo:s.obj (s.top 0)=zAW s.all i:=by rw[e];rfl
  rw[eo]
  by_cases hp:a>=((zAW s.all i).parts.length:Int)
  ·rw[decide_eq_true hp]
   have hP:=zYW s.words (zB1 s.all s.ly) oth (begL s.all s.ly s.words.toNat) (zHv hi) (zIO ho) (zHU h hw) (zJ8 hi) (k:=a) (by rw[if_neg (by omega),hz];exact hp)
   exact zSM m (rawS s oth) a g1 ht g2 hB hP
  ·rw[decide_eq_false hp]
   have hX:=zOb h hw oth hi (k:=a.toNat) (by omega) (by omega)
   rw[<-(qAy ha)]at *
   have hf:=zU0 m (rawS s oth) _ g1 ht g2 hB hX
   rw[<-zER]at hf
   exact hf
theorem zad{s:St}(h:Lay m A s)(hw:s.words<=1048576)(oth:List Nat){a b:Int}(hc:InsAt m (rawS s oth) ⟨11,a,b⟩)(ha:0<=a)(h1:1<=s.stack.length)(hl:s.stack.length<=4000)(hv:Val s (s.top 0)):
  zCJ m s (if !(fwd s).of ((fwd s).top 0) 1||decide (a>=(((fwd s).obj ((fwd s).top 0)).parts.length:Int))then(fwd s).stop 4 else(fwd s).instead 1 (((fwd s).obj ((fwd s).top 0)).parts.getD a.toNat default)) oth oth :=
 zWt m (rawS s oth) _ hc (zXy (s:=fwd s) (zGa h) hw oth ha h1 (by show s.stack.length<=_;omega) ⟨hv.num,hv.ly⟩)
theorem zPt(shw:Int->List UInt8){s:St}(h:Lay m A s)(hw:s.words<=1048576)(oth:List Nat)(h1:1<=s.stack.length)(hl:s.stack.length<=1048576)(hv:Val s (s.top 0)): zHM m s (s.prim shw 8) oth oth 8:=by
 have ha:=zMz oth (n:=1) h1 (by omega) hl
 rw[qBF]at ha
 have ht:takes 8=1:=rfl
 refine zNW m _ _ ?_
 cases hof:s.of (s.top 0) 4 with
 |false =>
  rw[show s.prim shw 8=s.stop 4 by simp[St.prim,ht,hof]]
  exact zRp m (rawS s oth) ha (of_f h hw oth hv hof)
 |true =>
  obtain⟨i,e,hk⟩:=of_b hof
  have hi:=hv.ly i e
  have hB:=zIn h hw oth hi
  rw[hk]at hB
  rw[e]at ha
  rw[show s.prim shw 8=s.numI 1 (zAW s.all i).text.length by simp[St.prim,ht,hof];rw[e];rfl,zIz]
  exact zRq m (rawS s oth) ha hB (zQo h hw oth hi hk)
theorem zPr(shw:Int->List UInt8){s:St}(h:Lay m A s)(hw:s.words<=1048576)(oth:List Nat)(h1:1<=s.stack.length)(hl:s.stack.length<=1048576)(hv:Val s (s.top 0))(ho:s.out.length<=1048576): zHM m s (s.prim shw 13) oth oth 13:=by
 have ha:=zMz oth (n:=1) h1 (by omega) hl
 rw[qBF]at ha
 have ht:takes 13=1:=rfl
 refine zMG m _ _ ?_
 cases hof:s.of (s.top 0) 4 with
 |false =>
  rw[show s.prim shw 13=s.stop 4 by simp[St.prim,ht,hof]]
  exact zPy m (rawS s oth) ha (of_f h hw oth hv hof)
 |true =>
  obtain⟨i,e,hk⟩:=of_b hof
  have hi:=hv.ly i e
  have hB:=zIn h hw oth hi
  rw[hk]at hB
  rw[e]at ha
  rw[show s.prim shw 13=(s.put (zAW s.all i).text).numI 1 0 by simp[St.prim,ht,hof];rw[e];rfl,zIz]
  exact zRo m (rawS s oth) ha hB (zQo h hw oth hi hk) ho
theorem zPu(shw:Int->List UInt8){s:St}(h:Lay m A s)(hw:s.words<=1048576)(oth:List Nat)(h1:1<=s.stack.length)(hl:s.stack.length<=1048576)(hv:Val s (s.top 0)): zHM m s (s.prim shw 10) oth oth 10:=by
 have ha:=zMz oth (n:=1) h1 (by omega) hl
 rw[qBF]at ha
 have ht:takes 10=1:=rfl
 refine zMI m _ _ ?_
 cases hof:s.of (s.top 0) 3 with
 |false =>
  rw[show s.prim shw 10=s.stop 4 by simp[St.prim,ht,hof]]
  exact zP0 m (rawS s oth) ha (of_f h hw oth hv hof)
 |true =>
  obtain⟨i,e,hk⟩:=of_b hof
  have hi:=hv.ly i e
  have hB:=zIn h hw oth hi
  rw[hk]at hB
  rw[e]at ha
  have hc:=(h.objs i (h.lt i hi)).cell hk
  rw[show s.prim shw 10=s.instead 1 ((zAW s.all i).parts.getD 0 default) by simp[St.prim,ht,hof];rw[e];rfl,zER]
  exact zRr m (rawS s oth) ha hB (zOb h hw oth hi (k:=0) (by omega) (by omega))
end Go.Proofs.YtcagoomibpcdlaaGreatDoor
namespace Go.Proofs.YtcagoomibpcdlaaGreatDoor
open Go.Sx Go.Vm
variable {m:Img}{A:Nat->Option VS}
theorem zaW{s:St}(h:Lay m A s)(hw:s.words<=1048576)(oth:List Nat){a b:Int}(hc:InsAt m (rawS s oth) ⟨19,a,b⟩)(h1:1<=s.stack.length)(hl:s.stack.length<=4000)(hv:Val s (s.top 0)):
  zCJ m s (if !(fwd s).of ((fwd s).top 0) 1 then(fwd s).stop 4 else if((fwd s).obj ((fwd s).top 0)).tag≠b then(fwd s).goto a else fwd s) oth oth:=by
 have hL:=zGa h
 have hT:=zK8 (s:=s) m oth hl (k:=0) (by omega)
 cases hof:s.of (s.top 0) 1 with
 |false =>
  have e:(fwd s).of ((fwd s).top 0) 1=false:=hof
  rw[e]
  exact zTr m (rawS s oth) _ hc hT (of_f (s:=fwd s) hL hw oth ⟨hv.num,hv.ly⟩ hof)
 |true =>
  have e:(fwd s).of ((fwd s).top 0) 1=true:=hof
  rw[e]
  obtain⟨i,e1,hk⟩:=of_b hof
  have hi:=hv.ly i e1
  have hB:=zIn h hw oth hi
  rw[hk]at hB
  have hO:=of_t (s:=fwd s) hL hw oth (r:=s.top 0) ⟨hv.num,hv.ly⟩ hof
  have eo:(fwd s).obj ((fwd s).top 0)=zAW s.all i:=by show s.obj (s.top 0)=_;rw[e1];rfl
  rw[eo]
  rw[<-e1]at hB
  exact zWl m (rawS s oth) _ hc hT hO hB (zSI m (fwd s) oth a ((zAW s.all i).tag≠b))
end Go.Proofs.YtcagoomibpcdlaaGreatDoor
namespace Go.Proofs.YtcagoomibpcdlaaGreatDoor
open Go.Sx Go.Vm
theorem zL9(s:St)(oth:List Nat): rtsR (rawS s oth)=s.roots.map (wdN s.all s.ly):=by
 simp[rtsR,rawS,St.roots,rcl,rty,List.map_map,Function.comp_def]
theorem zOK(all:List Thing)(ly ly':List Nat)(rest:List Nat): ∀(l:List Cl),setC (l.map (rcl all ly)) ((l.map (·.fun_)).map (wdN all ly')++rest)=l.map (rcl all ly')
 |[]=>by simp[setC]
 |c::l=>by
  have:=zOK all ly ly' rest l
  simp only[setC]at this
  simp only[setC,qAs,qBm,List.zipWith_cons_cons,this]
  rfl
theorem zOJ(all:List Thing)(ly ly':List Nat)(rest:List Nat): ∀(l:List Ty),setT (l.map (rty all ly)) ((l.map (·.c.fun_)).map (wdN all ly')++rest)=l.map (rty all ly')
 |[]=>by simp[setT]
 |c::l=>by
  have:=zOJ all ly ly' rest l
  simp only[setT]at this
  simp only[setT,qAs,qBm,List.zipWith_cons_cons,this]
  rfl
theorem zZK(s:St)(oth oth':List Nat)(ly':List Nat)(u:Int):
  rawS { s with used:=u,ly:=ly' } oth'=gcR (rawS s oth) (zB1 s.all ly') oth' (begL s.all ly' s.words.toNat) (s.roots.map (wdN s.all ly')):=by
 have hl:(rawS s oth).stk.length=(s.stack.map (wdN s.all ly')).length:=by rw[zBR,qAC]
 have hc:(rawS s oth).cls.length=((s.calls.map (·.fun_)).map (wdN s.all ly')).length:=by rw[zHP,qAC,qAC]
 have hw:s.roots.map (wdN s.all ly')=s.stack.map (wdN s.all ly')++(wdN s.all ly' s.c.fun_::((s.calls.map (·.fun_)).map (wdN s.all ly')++((s.tries.map (·.c.fun_)).map (wdN s.all ly')++[]))):=by
  simp[St.roots]
 have e1:(s.roots.map (wdN s.all ly')).take (rawS s oth).stk.length=s.stack.map (wdN s.all ly'):=by rw[hl,hw,List.take_left'];rfl
 have e2:(s.roots.map (wdN s.all ly')).getD (rawS s oth).stk.length 0=wdN s.all ly' s.c.fun_:=by
  rw[hl,hw,qAE,qAG (qAN _),qBF];rfl
 have e3:(s.roots.map (wdN s.all ly')).drop ((rawS s oth).stk.length+1)=(s.calls.map (·.fun_)).map (wdN s.all ly')++((s.tries.map (·.c.fun_)).map (wdN s.all ly')++[]):=by
  rw[<-List.drop_drop,hl,hw,List.drop_left']
  ·rfl
  ·rfl
 have e4:(s.roots.map (wdN s.all ly')).drop ((rawS s oth).stk.length+1+(rawS s oth).cls.length)=(s.tries.map (·.c.fun_)).map (wdN s.all ly')++[]:=by
  rw[<-List.drop_drop,e3,hc,List.drop_left'];rfl
 unfold gcR
 rw[e1,e2,e3,e4]
 have h5:=zOK s.all s.ly ly' ((s.tries.map (·.c.fun_)).map (wdN s.all ly')++[]) s.calls
 have h6:=zOJ s.all s.ly ly' [] s.tries
 have h5':setC (rawS s oth).cls ((s.calls.map (·.fun_)).map (wdN s.all ly')++((s.tries.map (·.c.fun_)).map (wdN s.all ly')++[]))=s.calls.map (rcl s.all ly'):=h5
 have h6':setT (rawS s oth).trs ((s.tries.map (·.c.fun_)).map (wdN s.all ly')++[])=s.tries.map (rty s.all ly'):=h6
 rw[h5',h6']
 rfl
open _root_.Go.Proofs.Tryz
variable {m:Img}{A:Nat->Option VS}
theorem zVj{s:St}(h:Lay m A s)(hw0:0<=s.words)(hw:s.words<=1048576)(hl:s.stack.length<=200000/\s.calls.length<=200000/\s.tries.length<=200000)(oth:List Nat)(n:Nat):
  ∃oth',zAU prog 76 [.ptr 0 0,.d (i64 (n:Int))] (MX m (rawS s oth)) (.d (bl (decide ((n:Int)<=(s.gc n).words-(s.gc n).used)))) (MX m (rawS (if(n:Int)<=(s.gc n).words-(s.gc n).used then s.gc n else(s.gc n).stop 5) oth')):=by
 have hlen:(((rawS s oth).now.length:Nat):Int)=s.used:=by show (((zB1 s.all s.ly).length:Nat):Int)=_;rw[zEb,h.used]
 have hn:=zHU h hw
 by_cases hq:s.words-s.used<(n:Int)
 ·have eg:s.gc n = { s with used:=(live s.all s.roots:Int),ly:=zDp s.all s.roots }:=by rw[St.gc,if_pos hq]
  have hlv:=zXX h
  have hrl:s.roots.length<=1048576:=by
   simp only[St.roots,qAD,qAP,qAC];omega
  have hsz:sumN s.all s.ly<=s.words.toNat:=by have h1:=h.used;have h2:=h.room;omega
  have hC:=zQa (all:=s.all) (ly:=s.ly) (size:=s.words.toNat) oth s.roots h.nodup h.lt h.closed
   (fun i hi=>⟨zIO (h.objs i (h.lt i hi)),by have:=(h.objs i (h.lt i hi)).kind;omega⟩) (fun i hi h4=>((h.objs i (h.lt i hi)).txt h4).1) hsz (by omega) (fun r hr i e=>h.roots i (e▸hr)) hrl
  have ew:((s.words.toNat:Nat):Int)=s.words:=qAy hw0
  rw[ew]at hC
  have hrr:(rtsR (rawS s oth)).length=s.roots.length:=by rw[zL9,qAC]
  have en:(((zB1 s.all (zDp s.all s.roots)).length:Nat):Int)=(live s.all s.roots:Int):=by rw[zEb];rfl
  have hC':zAU prog 130 [.ptr 0 0,.buf 4 (rtsR (rawS s oth)).length] (HO (rawS s oth).size (rawS s oth).now (rawS s oth).oth (rawS s oth).beg++[rowW (rtsR (rawS s oth))]) (.buf 6 (rtsR (rawS s oth)).length) (HO (rawS s oth).size (zB1 s.all (zDp s.all s.roots)) (nowM s.all s.ly (zDp s.all s.roots)) (begL s.all (zDp s.all s.roots) s.words.toNat)++[rowW (rtsR (rawS s oth)),Ob.gone,rowW (s.roots.map (wdN s.all (zDp s.all s.roots)))]):=by
   rw[hrr,zL9];exact hC
  refine⟨nowM s.all s.ly (zDp s.all s.roots),?_⟩
  rw[eg]
  have hg:=zZK s oth (nowM s.all s.ly (zDp s.all s.roots)) (zDp s.all s.roots) (live s.all s.roots:Int)
  refine zW4 m (rawS s oth) _ (n:Int) _ ⟨hw0,hw⟩ hn (by have:=h.room;omega) (by rw[hlen];show ¬(n:Int)<=s.words-s.used;omega) ⟨by rw[zBR];exact hl.1,by rw[zHP];exact hl.2.1,by rw[zJc];exact hl.2.2⟩ hC' (by rw[hrr,qAC]) ?_
  by_cases hq2:(n:Int)<=s.words-(live s.all s.roots:Int)
  ·refine .inl ⟨by rw[en];exact hq2,decide_eq_true hq2,?_⟩
   rw[if_pos hq2];exact hg
  ·refine .inr ⟨by rw[en];exact hq2,decide_eq_false hq2,?_⟩
   rw[if_neg hq2,zUD,hg]
 ·have eg:s.gc n=s:=by rw[St.gc,if_neg hq]
  have h1:(n:Int)<=s.words-s.used:=by omega
  refine⟨oth,?_⟩
  rw[eg,if_pos h1,decide_eq_true h1]
  exact zR2 (zT6 m (rawS s oth) (n:Int) ⟨hw0,hw⟩ hn (by rw[hlen];exact h1))
end Go.Proofs.YtcagoomibpcdlaaGreatDoor
namespace Go.Proofs.YtcagoomibpcdlaaGreatDoor
open Go.Sx Go.Vm
variable {m:Img}{A:Nat->Option VS}
theorem zW7{s:St}(h:Lay m A s)(oth:List Nat)(o:Thing)(ho:∀r∈o.parts,In s.ly r)(hr:s.used+(o.need:Int)<=s.words):
  rawS { s with used:=s.used+(o.need:Int),all:=s.all++[o],ly:=s.ly++[s.all.length] } oth = { rawS s oth with now:=(rawS s oth).now++zCu o::zFM s.all s.ly o,beg:=(rawS s oth).beg.set (rawS s oth).now.length true }:=by
 have hv:∀r∈s.roots,wdN (s.all++[o]) (s.ly++[s.all.length]) r=wdN s.all s.ly r:=fun r hr=>zQg h.lt fun i e=>h.roots i (e▸hr)
 have e1:s.stack.map (wdN (s.all++[o]) (s.ly++[s.all.length]))=s.stack.map (wdN s.all s.ly):=qBZ fun r hr=>hv r (zDq.2 (.inl hr))
 have e2:rcl (s.all++[o]) (s.ly++[s.all.length]) s.c=rcl s.all s.ly s.c:=by
  unfold rcl;rw[hv _ (zDq.2 (.inr (.inl rfl)))]
 have e3:s.calls.map (rcl (s.all++[o]) (s.ly++[s.all.length]))=s.calls.map (rcl s.all s.ly):=qBZ fun c hc=>by
  unfold rcl;rw[hv _ (zDq.2 (.inr (.inr (.inl ⟨c,hc,rfl⟩))))]
 have e4:s.tries.map (rty (s.all++[o]) (s.ly++[s.all.length]))=s.tries.map (rty s.all s.ly):=qBZ fun t ht=>by
  unfold rty rcl;rw[hv _ (zDq.2 (.inr (.inr (.inr ⟨t,ht,rfl⟩))))]
 have e5:=zQe (o:=o) h.lt h.closed ho
 have e6:=zYB (o:=o) (size:=s.words.toNat) h.lt (by have:=h.used;omega)
 have e7:(zB1 s.all s.ly).length=sumN s.all s.ly:=zEb _ _
 unfold rawS
 dsimp only
 rw[e1,e2,e3,e4,e5,e6,e7]
theorem zRN{s:St}(h:Lay m A s)(oth:List Nat)(o:Thing)(n:Nat)(ho:∀r∈o.parts,In s.ly r)(hr:s.used+(o.need:Int)<=s.words):
  rawS (s.new o n) oth = { rawS s oth with now:=(rawS s oth).now++zCu o::zFM s.all s.ly o,beg:=(rawS s oth).beg.set (rawS s oth).now.length true,stk:=(rawS s oth).stk.take ((rawS s oth).stk.length-n)++[2*(rawS s oth).now.length] }:=by
 have e:wdN (s.all++[o]) (s.ly++[s.all.length]) (.b s.all.length)=2*(zB1 s.all s.ly).length:=by
  rw[wdN,zI2 fun hm=>Nat.lt_irrefl _ (h.lt _ hm),zHj h.lt,zEb]
 unfold St.new
 rw[zER,zW7 h oth o ho hr]
 dsimp only
 rw[e]
 rfl
end Go.Proofs.YtcagoomibpcdlaaGreatDoor
namespace Go.Proofs.YtcagoomibpcdlaaGreatDoor
open _root_.Go.Proofs.Tryz
open Go.Sx Go.Vm
variable {m:Img}{A:Nat->Option VS}
theorem zQm{s:St}(h:Lay m A s)(hw:s.words<=1048576)(oth:List Nat){r:Rf}(hv:Val s r): zA6 prog 131 [.ptr 0 0,.d (w64 (wdN s.all s.ly r))] (HO (rawS s oth).size (rawS s oth).now (rawS s oth).oth (rawS s oth).beg) (bl true):=by
 cases r with
 |n v =>
  obtain⟨h1,h2⟩:=zOA s.all s.ly v
  exact zQl s.words (zB1 s.all s.ly) oth (begL s.all s.ly s.words.toNat) h1 h2
 |b i =>
  have hi:=hv.ly i rfl
  have h1:=zML (all:=s.all) hi
  have h2:=zF7 (zAW s.all i)
  have h3:=zEb s.all s.ly
  exact zTd s.words (zB1 s.all s.ly) oth (begL s.all s.ly s.words.toNat) (a:=offL s.all s.ly i) (by omega) (zHU h hw) (zJ8 hi)
theorem zOy(s:St)(n:Nat): (s.gc n).stack=s.stack:=by unfold St.gc;split <;> rfl
theorem zOx(s:St)(n:Nat): (s.gc n).words=s.words:=by unfold St.gc;split <;> rfl
theorem zX9{s:St}(h:Lay m A s)(hw0:0<=s.words)(hw:s.words<=1048576)(hl:s.stack.length<=4000/\s.calls.length<=200000/\s.tries.length<=200000)(oth:List Nat)(o:Thing)(ho:HeadOk o)(hk:o.kind<=3)(n:Nat)(hz:o.size=n)(hn:n<=s.stack.length)(hp:o.parts=s.partsT n):
  ∃oth',zAU prog 46 [.ptr 0 0,.d (i64 o.kind),.d (i64 o.tag),.d (i64 (n:Int))] (MX m (rawS s oth)) .top (MX m (rawS (s.block o n) oth')):=by
 subst hz
 have g1:(rawS s oth).stk.length<=1048576:=by rw[zBR];omega
 cases hh:s.high (1-o.size)with
 |true =>
  rw[show s.block o o.size=s.stop 6 by rw[St.block,hh];rfl]
  exact⟨oth,zQJ m (rawS s oth) o g1 (by omega) (by rw[zBR];exact of_decide_eq_true hh)⟩
 |false =>
  have hq:¬(((rawS s oth).stk.length:Nat):Int)+(1-(o.size:Int))>4000:=by rw[zBR];exact of_decide_eq_false hh
  rw[show s.block o o.size=(s.gc o.need).alloc o o.size by rw[St.block,hh];rfl]
  obtain⟨oth',hR⟩:=zVj h hw0 hw ⟨by omega,hl.2⟩ oth o.need
  have hs:=zDV o
  refine⟨oth',?_⟩
  have hL:=h.gc (n:=o.need)
  have es:=zOy s o.need
  have ew:=zOx s o.need
  by_cases hf:(o.need:Int)<=(s.gc o.need).words-(s.gc o.need).used
  ·rw[if_pos hf,decide_eq_true hf,hs]at hR
   rw[show (s.gc o.need).alloc o o.size=(s.gc o.need).new o o.size by rw[St.alloc,if_neg (by omega)]]
   have hb:o.kind≠4:=by omega
   have hnow:(rawS (s.gc (o.size+1)) oth').now.length=sumN (s.gc (o.size+1)).all (s.gc (o.size+1)).ly:=zEb _ _
   rw[hs]at hL es ew hf ⊢
   have hu:=hL.used
   have hro:=hL.room
   have hpp:o.parts=(s.gc (o.size+1)).stack.drop ((s.gc (o.size+1)).stack.length-o.size):=by rw[es,hp];rfl
   have hst:(rawS (s.gc (o.size+1)) oth').stk.length=s.stack.length:=by rw[zBR,es]
   have hbl:((rawS (s.gc (o.size+1)) oth').beg.length:Int)=(s.gc (o.size+1)).words:=by
    show (((begL _ _ _).length:Nat):Int)=_
    rw[zJ7 _ _ (by omega)];omega
   have hB:=zSc m (rawS s oth) (rawS (s.gc (o.size+1)) oth') o ho hk g1 (by omega) hq hR ⟨by show 0<=(s.gc _).words;omega,by show (s.gc _).words<=_;omega⟩ (by rw[hnow];show _<=(s.gc _).words;omega) hbl (by omega) (by omega) (fun i x hi hx=>by
    have hx':(((s.gc (o.size+1)).stack.map (wdN (s.gc (o.size+1)).all (s.gc (o.size+1)).ly)))[(rawS (s.gc (o.size+1)) oth').stk.length-o.size+i]?=some x:=hx
    rw[qAL]at hx'
    obtain⟨r,hr,rfl⟩:=Option.map_eq_some_iff.1 hx'
    exact zQm hL (by omega) oth' (hL.stack (qAH hr)))
   rw[zRN hL oth' o o.size (fun r hr i e=>hL.roots i (by rw[hpp]at hr;exact e▸zDq.2 (.inl (qAn hr)))) (by omega)]
   have hbody:zFM (s.gc (o.size+1)).all (s.gc (o.size+1)).ly o=(rawS (s.gc (o.size+1)) oth').stk.drop ((rawS (s.gc (o.size+1)) oth').stk.length-o.size):=by
    rw[zFM,if_neg hb,zBR]
    conv=>lhs;rw[hpp]
    rw[List.map_drop];rfl
   rw[hbody]
   exact hB
  ·rw[if_neg hf,decide_eq_false hf,hs]at hR
   rw[show (s.gc o.need).alloc o o.size=(s.gc o.need).stop 5 by rw[St.alloc,if_pos (by omega)]]
   rw[hs]
   exact zQI m (rawS s oth) _ o g1 (by omega) hq hR
end Go.Proofs.YtcagoomibpcdlaaGreatDoor
namespace Go.Proofs.YtcagoomibpcdlaaGreatDoor
open _root_.Go.Proofs.Tryz
open Go.Sx Go.Vm
variable {m:Img}{A:Nat->Option VS}
theorem zRk(s:St){n:Nat}(h:n<=s.stack.length): (s.partsT n).length=n:=by unfold St.partsT;rw[qAb];omega
theorem zXT(s:St){k tag:Int}(hk:k≠4){n:Nat}(h:n<=s.stack.length): (⟨k,tag,[],s.partsT n⟩:Thing).size=n:=by
 unfold Thing.size Thing.need
 rw[if_neg hk]
 show 1+(s.partsT n).length-1=n
 rw[zRk s h];omega
theorem zR3{s:St}(h:Lay m A s)(hw0:0<=s.words)(hw:s.words<=1048576)(hl:s.stack.length<=4000/\s.calls.length<=200000/\s.tries.length<=200000)(oth:List Nat){k tag:Int}(hk:1<=k/\k<=3)(ht:0<=tag/\tag<=1048576){n:Nat}(hn:n<=s.stack.length):
  ∃oth',zAU prog 46 [.ptr 0 0,.d (i64 k),.d (i64 tag),.d (i64 (n:Int))] (MX m (rawS s oth)) .top (MX m (rawS (s.block ⟨k,tag,[],s.partsT n⟩ n) oth')):=by
 have hz:=zXT s (k:=k) (tag:=tag) (by omega) hn
 exact zX9 h hw0 hw hl oth ⟨k,tag,[],s.partsT n⟩ ⟨by show 1<=k/\k<=4;omega,ht,by rw[hz];omega⟩ hk.2 n hz hn rfl
theorem zae{s:St}(h:Lay m A s)(hw0:0<=s.words)(hw:s.words<=1048576)(hl:s.stack.length<=4000/\s.calls.length<=200000/\s.tries.length<=200000)(oth:List Nat){a b:Int}(hc:InsAt m (rawS s oth) ⟨10,a,b⟩)(ha:0<=a/\a<=1048576)(hb:0<=b)(hn:b<=s.stack.length):
  ∃oth',zCJ m s ((fwd s).block ⟨1,a,[],(fwd s).partsT b.toNat⟩ b.toNat) oth oth':=by
 obtain⟨oth',hR⟩:=zR3 (s:=fwd s) (zGa h) hw0 hw hl oth (k:=1) (tag:=a) (by omega) ha (n:=b.toNat) (by show _<=s.stack.length;omega)
 rw[qAy hb]at hR
 exact⟨oth',zWu m (rawS s oth) _ hc hR⟩
theorem zaX{s:St}(h:Lay m A s)(hw0:0<=s.words)(hw:s.words<=1048576)(hl:s.stack.length<=4000/\s.calls.length<=200000/\s.tries.length<=200000)(oth:List Nat){a b:Int}(hc:InsAt m (rawS s oth) ⟨18,a,b⟩)(ha:0<=a/\a<=1048576)(hb:0<=b)(hn:b<=s.stack.length):
  ∃oth',zCJ m s ((fwd s).block ⟨2,a,[],(fwd s).partsT b.toNat⟩ b.toNat) oth oth':=by
 obtain⟨oth',hR⟩:=zR3 (s:=fwd s) (zGa h) hw0 hw hl oth (k:=2) (tag:=a) (by omega) ha (n:=b.toNat) (by show _<=s.stack.length;omega)
 rw[qAy hb]at hR
 exact⟨oth',zWm m (rawS s oth) _ hc hR⟩
theorem zPs(shw:Int->List UInt8){s:St}(h:Lay m A s)(hw0:0<=s.words)(hw:s.words<=1048576)(hl:s.stack.length<=4000/\s.calls.length<=200000/\s.tries.length<=200000)(oth:List Nat)(h1:1<=s.stack.length): ∃oth',zHM m s (s.prim shw 9) oth oth' 9:=by
 obtain⟨oth',hR⟩:=zR3 h hw0 hw hl oth (k:=3) (tag:=0) (by omega) (by omega) (n:=1) h1
 exact⟨oth',zUL m _ _ hR⟩
end Go.Proofs.YtcagoomibpcdlaaGreatDoor
namespace Go.Proofs.YtcagoomibpcdlaaGreatDoor
open _root_.Go.Proofs.Tryz
open Go.Sx Go.Vm
variable {m:Img}{A:Nat->Option VS}
theorem zVe{s:St}(h:Lay m A s)(hw0:0<=s.words)(hw:s.words<=1048576)(hl:s.stack.length<=4000/\s.calls.length<=200000/\s.tries.length<=200000)(oth:List Nat)(t:List UInt8)(ht:t.length<=200)(n:Nat)(hn:n<=s.stack.length):
  ∃oth',zAU prog 75 [.ptr 0 0,.d (str t),.d (i64 (n:Int))] (MX m (rawS s oth)) .top (MX m (rawS (s.block (zCF t) n) oth')):=by
 have g1:(rawS s oth).stk.length<=1048576:=by rw[zBR];omega
 have en:(zCF t).need=(t.length+7) / 8+1:=by unfold Thing.need zCF;rw[if_pos rfl];show 1+(t.length+7) / 8=_;omega
 cases hh:s.high (1-n)with
 |true =>
  rw[show s.block (zCF t) n=s.stop 6 by rw[St.block,hh];rfl]
  exact⟨oth,zQt m (rawS s oth) t n g1 (by omega) (by rw[zBR];exact of_decide_eq_true hh)⟩
 |false =>
  have hq:¬(((rawS s oth).stk.length:Nat):Int)+(1-(n:Int))>4000:=by rw[zBR];exact of_decide_eq_false hh
  rw[show s.block (zCF t) n=(s.gc (zCF t).need).alloc (zCF t) n by rw[St.block,hh];rfl]
  obtain⟨oth',hR⟩:=zVj h hw0 hw ⟨by omega,hl.2⟩ oth (zCF t).need
  refine⟨oth',?_⟩
  have hL:=h.gc (n:=(zCF t).need)
  have es:=zOy s (zCF t).need
  have ew:=zOx s (zCF t).need
  by_cases hf:((zCF t).need:Int)<=(s.gc (zCF t).need).words-(s.gc (zCF t).need).used
  ·rw[if_pos hf,decide_eq_true hf,en]at hR
   rw[show (s.gc (zCF t).need).alloc (zCF t) n=(s.gc (zCF t).need).new (zCF t) n by rw[St.alloc,if_neg (by omega)]]
   have hnow:(rawS (s.gc ((t.length+7) / 8+1)) oth').now.length=sumN (s.gc ((t.length+7) / 8+1)).all (s.gc ((t.length+7) / 8+1)).ly:=zEb _ _
   have en':=en
   rw[en]at hL es ew hf ⊢
   have hu:=hL.used
   have hro:=hL.room
   have hst:(rawS (s.gc ((t.length+7) / 8+1)) oth').stk.length=s.stack.length:=by rw[zBR,es]
   have hbl:((rawS (s.gc ((t.length+7) / 8+1)) oth').beg.length:Int)=(s.gc ((t.length+7) / 8+1)).words:=by
    show (((begL _ _ _).length:Nat):Int)=_
    rw[zJ7 _ _ (by omega)];omega
   have hB:=zTm m (rawS s oth) (rawS (s.gc ((t.length+7) / 8+1)) oth') t ht n g1 (by omega) hq hR ⟨by show 0<=(s.gc _).words;omega,by show (s.gc _).words<=_;omega⟩ (by rw[hnow,en'];show _<=(s.gc _).words;omega) hbl (by omega) (by omega)
   rw[zRN hL oth' (zCF t) n (fun r hr=>absurd hr (by simp[zCF])) (by rw[en'];omega)]
   exact hB
  ·rw[if_neg hf,decide_eq_false hf,en]at hR
   rw[show (s.gc (zCF t).need).alloc (zCF t) n=(s.gc (zCF t).need).stop 5 by rw[St.alloc,if_pos (by omega)]]
   rw[en]
   exact zQs m (rawS s oth) _ t ht n g1 (by omega) hq hR
end Go.Proofs.YtcagoomibpcdlaaGreatDoor
namespace Go.Proofs.YtcagoomibpcdlaaGreatDoor
open Go.Sx Go.Vm
variable {m:Img}{A:Nat->Option VS}
theorem st_1{s:St}(h:Lay m A s)(hi:ImgOk m)(hw0:0<=s.words)(hw:s.words<=1048576)(hl:s.stack.length<=4000/\s.calls.length<=200000/\s.tries.length<=200000)(oth:List Nat){a b:Int}(hc:InsAt m (rawS s oth) ⟨1,a,b⟩)(ha:0<=a)(hp:a<m.pool.length):
  ∃oth',zCJ m s (if(m.pool.getD a.toNat default).isText then(fwd s).block (zCF (m.pool.getD a.toNat default).text) 0 else(fwd s).push (numR (m.pool.getD a.toNat default).num)) oth oth':=by
 have hlt:a.toNat<m.pool.length:=by omega
 have hg:m.pool[a.toNat]?=some (m.pool.getD a.toNat default):=by rw[qAE,qAB hlt];rfl
 have hth:=hi.thing _ (qAH hg)
 generalize m.pool.getD a.toNat default=c at hg hth ⊢
 have e:a=(a.toNat:Int):=(qAy ha).symm
 have hpl:m.pool.length<=1048576:=by have:=hi.pool;omega
 have g2:=zHz (s:=s) oth hl.1
 obtain⟨t,x,w⟩:=c
 cases t with
 |true =>
  obtain⟨oth',hR⟩:=zVe (s:=fwd s) (zGa h) hw0 hw hl oth w (hth.1 rfl) 0 (qAV _)
  have hP:=zRg m (rawS (fwd s) oth) _ hg hpl hR
  rw[<-e]at hP
  exact⟨oth',zQ1 m (rawS s oth) _ hc hP⟩
 |false =>
  refine⟨oth,?_⟩
  show zCJ m s ((fwd s).push (numR x)) oth oth
  unfold zCJ St.push
  split
  ·rename_i hh
   have hP:=zRh m (rawS (fwd s) oth) hg hpl g2 (by rw[zBR];exact of_decide_eq_true hh)
   rw[<-e]at hP
   exact zQ1 m (rawS s oth) _ hc hP
  ·rename_i hh
   have hh':(fwd s).high 1=false:=by simpa using hh
   have hP:=zUN m (rawS (fwd s) oth) hg hpl g2 (by rw[zBR];exact of_decide_eq_false hh')
   rw[<-e]at hP
   rw[zOW]
   exact zQ1 m (rawS s oth) _ hc hP
end Go.Proofs.YtcagoomibpcdlaaGreatDoor
namespace Go.Proofs.YtcagoomibpcdlaaGreatDoor
open Go.Sx Go.Vm
variable {m:Img}{A:Nat->Option VS}
theorem zPv(shw:Int->List UInt8){s:St}(h:Lay m A s)(hw0:0<=s.words)(hw:s.words<=1048576)(hl:s.stack.length<=4000/\s.calls.length<=200000/\s.tries.length<=200000)(oth:List Nat)(h2:2<=s.stack.length)(hv1:Val s (s.top 1))(hv0:Val s (s.top 0))(hlo:zIi s): ∃oth',zHM m s (s.prim shw 7) oth oth' 7:=by
 have htk:takes 7=2:=rfl
 have ht:=zK7 oth h2 (by omega)
 cases ho1:s.of (s.top 1) 4 with
 |false =>
  refine⟨oth,zGz m _ _ ?_⟩
  rw[show s.prim shw 7=s.stop 4 by simp[St.prim,htk,ho1]]
  exact zQq m (rawS s oth) ht (of_f h hw oth hv1 ho1)
 |true =>
  obtain⟨i,e1,hk1⟩:=of_b ho1
  have hB1:=zIn h hw oth (hv1.ly i e1)
  have hX1:=zQo h hw oth (hv1.ly i e1) hk1
  rw[hk1]at hB1
  cases ho0:s.of (s.top 0) 4 with
  |false =>
   refine⟨oth,zGz m _ _ ?_⟩
   rw[show s.prim shw 7=s.stop 4 by simp[St.prim,htk,ho0]]
   rw[e1]at ht
   exact zQr m (rawS s oth) ht hB1 (of_f h hw oth hv0 ho0)
  |true =>
   obtain⟨j,e0,hk0⟩:=of_b ho0
   have hB0:=zIn h hw oth (hv0.ly j e0)
   have hX0:=zQo h hw oth (hv0.ly j e0) hk0
   rw[hk0]at hB0
   rw[e1,e0]at ht
   have l1:=((h.objs i (h.lt i (hv1.ly i e1))).txt hk1).2.2
   have l0:=((h.objs j (h.lt j (hv0.ly j e0))).txt hk0).2.2
   have eo1:s.obj (s.top 1)=zAW s.all i:=by rw[e1];rfl
   have eo0:s.obj (s.top 0)=zAW s.all j:=by rw[e0];rfl
   by_cases hg:((zAW s.all i).text.length:Int)+(zAW s.all j).text.length>200
   ·refine⟨oth,zGz m _ _ ?_⟩
    rw[show s.prim shw 7=s.raise (-3) by
     simp only[St.prim,htk,ho1,ho0,eo1,eo0,show Int.toNat 2-1=1 from rfl]
     rw[if_neg (by decide),if_pos trivial,if_neg (by decide),if_pos (by rw[qAD];omega)]]
    exact zPc m (rawS s oth) _ ht hB1 hB0 hX1 hX0 l1 l0 hg (zLI m s oth (-3) hlo (by omega) (by omega) (by omega))
   ·obtain⟨oth',hR⟩:=zVe h hw0 hw hl oth ((zAW s.all i).text++(zAW s.all j).text) (by rw[qAD];omega) 2 h2
    refine⟨oth',zGz m _ _ ?_⟩
    rw[show s.prim shw 7=s.block (zCF ((zAW s.all i).text++(zAW s.all j).text)) 2 by
     simp only[St.prim,htk,ho1,ho0,eo1,eo0,show Int.toNat 2-1=1 from rfl]
     rw[if_neg (by decide),if_pos trivial,if_neg (by decide),if_neg (by rw[qAD];omega)]]
    exact zTl m (rawS s oth) _ ht hB1 hB0 hX1 hX0 l1 l0 hg hR
end Go.Proofs.YtcagoomibpcdlaaGreatDoor
namespace Go.Proofs.YtcagoomibpcdlaaGreatDoor
open Go.Sx Go.Vm
variable {m:Img}{A:Nat->Option VS}
theorem zUB(s:St)(oth:List Nat){i:Nat}{b:Rf}(hn:s.ly.Nodup)(hi:i∈s.ly)(hlt:i<s.all.length)(hk:(zAW s.all i).kind=3)(hp:(zAW s.all i).parts.length=1):
  rawS { s with all:=s.all.set i ((zAW s.all i).with0 b) } oth = { rawS s oth with now:=(zB1 s.all s.ly).set (offL s.all s.ly i+1+0) (wdN s.all s.ly b) }:=by
 have hw:=zLq (zLE hlt b) s.ly
 have hb:=zQK (zLE hlt b) s.ly s.words.toNat
 have e:∀c:Cl,rcl (s.all.set i ((zAW s.all i).with0 b)) s.ly c=rcl s.all s.ly c:=fun c=>by unfold rcl;rw[hw]
 have e1:rcl (s.all.set i ((zAW s.all i).with0 b)) s.ly=rcl s.all s.ly:=funext e
 have e2:rty (s.all.set i ((zAW s.all i).with0 b)) s.ly=rty s.all s.ly:=funext fun t=>by unfold rty;rw[e]
 unfold rawS
 dsimp only
 rw[zQd hn hi hlt hk hp,hb,hw,e1,e2]
theorem zPq(shw:Int->List UInt8){s:St}(h:Lay m A s)(hw:s.words<=1048576)(oth:List Nat)(h2:2<=s.stack.length)(hl:s.stack.length<=1048576)(hv1:Val s (s.top 1))(hv0:Val s (s.top 0)): zHM m s (s.prim shw 11) oth oth 11:=by
 have ha:=zMz oth (n:=2) h2 (by omega) hl
 have ht:takes 11=2:=rfl
 refine zMH m _ _ ?_
 cases hof:s.of (s.top 1) 3 with
 |false =>
  rw[show s.prim shw 11=s.stop 4 by
   simp only[St.prim,ht,show Int.toNat 2-1=1 from rfl]
   rw[if_neg (by decide),if_neg (by decide),if_neg (by decide),if_neg (by decide),if_neg (by decide),if_neg (by decide),if_pos (by decide)]
   cases e:s.top 1 with
   |n v=>rfl
   |b i =>
    rw[e]at hof
    have:¬(s.all.getD i default).kind=3:=of_decide_eq_false hof
    dsimp only
    rw[if_pos this]]
  exact zPz m (rawS s oth) ha (of_f h hw oth hv1 hof)
 |true =>
  obtain⟨i,e,hk⟩:=of_b hof
  have hi:=hv1.ly i e
  have hlt:=h.lt i hi
  have ho:=h.objs i hlt
  have hB:=zIn h hw oth hi
  rw[hk]at hB
  rw[show 2-1=1 from rfl,e]at ha
  have hc:=ho.cell hk
  have hz:=zLO (o:=zAW s.all i) (by omega)
  have hx:∃x,(zB1 s.all s.ly)[offL s.all s.ly i+1+0]?=some x:=by
   rw[zLQ hi (k:=0) (by omega)]
   exact⟨_,qAB (by rw[zLg];omega)⟩
  obtain⟨x,hx⟩:=hx
  have hP:=zQY s.words (zB1 s.all s.ly) oth (begL s.all s.ly s.words.toNat) (zHv hi) (zIO ho) (zHU h hw) (zJ8 hi) (k:=0) (by omega) (by omega) hx (zQm h hw oth hv0)
  have hS:=zRn m (rawS s oth) ha (zFH s oth (k:=0) (by omega)) hB hP
  rw[show s.prim shw 11=({ s with all:=s.all.set i ((zAW s.all i).with0 (s.top 0)) }:St).numI 2 0 by
   simp only[St.prim,ht,show Int.toNat 2-1=1 from rfl]
   rw[if_neg (by decide),if_neg (by decide),if_neg (by decide),if_neg (by decide),if_neg (by decide),if_neg (by decide),if_pos (by decide)]
   rw[e]
   dsimp only
   rw[if_neg (by
    have:(s.all.getD i default).kind=3:=hk
    omega)]
   rfl]
  rw[zIz,zUB s oth h.nodup hi hlt hk hc]
  exact hS
end Go.Proofs.YtcagoomibpcdlaaGreatDoor
namespace Go.Proofs.YtcagoomibpcdlaaGreatDoor
open Go.Sx Go.Vm
variable {con:List UInt8->Bool}{m:Img}{A:Nat->Option VS}
theorem zUY{k:Int}(h:zHu m k=true)(hk:0<=k): k<m.pool.length:=by
 unfold zHu at h
 cases hp:m.pool[k.toNat]? with
 |none=>rw[hp]at h;cases h
 |some c=>have:=(qAA.1 hp).1;omega
theorem zXZ{s:St}(h:MOk con m A s): zIi s:=fun t ht=>by
 obtain⟨_,h1,h2,h3,h4⟩:=h.fr.raise t ht
 exact⟨⟨h1,h2⟩,h3,h4⟩
theorem zZe{s:St}{i:Ins}{v:VS}{ts0 ts1:List Ty}(nw:Now con m A s i v ts0 ts1)(hi:ImgOk m)(oth:List Nat): InsAt m (rawS s oth) ⟨i.op,i.a,i.b⟩ :=
 ⟨nw.here.at_,nw.at_,by have:=hi.code;omega⟩
theorem zZN{s:St}(h:Lay m A s)(hw0:0<=s.words)(hw:s.words<=1048576)(hl:s.stack.length<=4000/\s.calls.length<=200000/\s.tries.length<=200000)(ho:s.out.length<=1048576)(oth:List Nat)(hlo:zIi s){p:Int}(hp0:0<=p)(hp:p<=13)(hn:takes p<=s.stack.length): ∃oth',zHM m s (s.prim shw p) oth oth' p:=by
 have hv:∀k,k<s.stack.length->Val s (s.top k):=fun k hk=>h.stack (zEm hk)
 by_cases h7:p<7
 ·have ht:takes p=2:=by unfold takes;rw[if_neg (by omega),if_pos (by omega)]
  have h2:2<=s.stack.length:=by omega
  exact⟨oth,zRV m _ s oth ⟨hp0,h7⟩ h2 (by omega) (zRK h hw (hv 1 (by omega))) (zRK h hw (hv 0 (by omega))) hlo (by omega) (by omega)⟩
 obtain rfl|rfl|rfl|rfl|rfl|rfl|rfl:p=7\/p=8\/p=9\/p=10\/p=11\/p=12\/p=13:=by omega
 ·have h2:2<=s.stack.length:=by have:takes 7=2:=rfl;omega
  exact zPv _ h hw0 hw hl oth h2 (hv 1 (by omega)) (hv 0 (by omega)) hlo
 ·have h1:1<=s.stack.length:=by have:takes 8=1:=rfl;omega
  exact⟨oth,zPt _ h hw oth h1 (by omega) (hv 0 (by omega))⟩
 ·have h1:1<=s.stack.length:=by have:takes 9=1:=rfl;omega
  exact zPs _ h hw0 hw hl oth h1
 ·have h1:1<=s.stack.length:=by have:takes 10=1:=rfl;omega
  exact⟨oth,zPu _ h hw oth h1 (by omega) (hv 0 (by omega))⟩
 ·have h2:2<=s.stack.length:=by have:takes 11=2:=rfl;omega
  exact⟨oth,zPq _ h hw oth h2 (by omega) (hv 1 (by omega)) (hv 0 (by omega))⟩
 ·have h1:1<=s.stack.length:=by have:takes 12=1:=rfl;omega
  exact⟨oth,zNV m s oth h1 (by omega) (zRK h hw (hv 0 (by omega))) ho⟩
 ·have h1:1<=s.stack.length:=by have:takes 13=1:=rfl;omega
  exact⟨oth,zPr _ h hw oth h1 (by omega) (hv 0 (by omega)) ho⟩
structure Bnd(s:St): Prop where
 w0:0<=s.words
 w1:s.words<=1048576
 tr:s.tries.length<=200000
 out:s.out.length<=1048576
theorem zYw{s:St}(h:MOk con m A s)(hb:Bnd s)(oth:List Nat): ∃oth',zCJ m s (Go.Vm.step shw m s) oth oth':=by
 obtain⟨i,v,ts0,ts1,nw⟩:=h.now
 obtain⟨hl,hb0,hf0,hat⟩:=nw.len
 obtain⟨o0,o20,a0,a1,b0,b1,hgo⟩:=nw.ins
 obtain⟨hw0,hw,htr,hou⟩:=hb
 have hi:=zNo nw.at_
 have hc:=zZe nw h.img oth
 have hlay:=h.lay
 have h4:=h.high
 have hdp:=h.deep
 have hlo:=zXZ h
 have hlen:s.stack.length<=4000/\s.calls.length<=200000/\s.tries.length<=200000:=⟨h4,by omega,htr⟩
 have hv:∀k,k<s.stack.length->Val s (s.top k):=fun k hk=>hlay.stack (zEm hk)
 have hR:∀k,k<s.stack.length->RfOk s (s.top k):=fun k hk=>zRK hlay hw (hv k hk)
 unfold Go.Vm.step
 dsimp only
 rw[hi]
 have hfl:=nw.floor
 have hhd:=nw.holds
 obtain⟨op,a,b⟩:=i
 dsimp only at *
 by_cases c0:op=0
 ·subst c0;rw[if_pos rfl];exact⟨oth,st_0 m s oth hc⟩
 rw[if_neg c0]
 by_cases c1:op=1
 ·subst c1;rw[if_pos rfl]
  have e:eff con m ⟨1,a,b⟩ v=⟨0,1,decide (a<m.pool.length),true,false⟩:=by simp[eff]
  rw[e]at hhd
  simp only[decide_eq_true_eq]at hhd
  exact st_1 hlay h.img hw0 hw hlen oth hc a0 hhd
 rw[if_neg c1]
 by_cases c2:op=2
 ·subst c2;rw[if_pos rfl]
  have e:eff con m ⟨2,a,b⟩ v=⟨0,1,decide (a<v.height),true,false⟩:=by simp[eff]
  rw[e]at hhd
  simp only[decide_eq_true_eq]at hhd
  exact⟨oth,st_2 m s oth hc h4 a0 (by omega)⟩
 rw[if_neg c2]
 by_cases c3:op=3
 ·subst c3;rw[if_pos rfl]
  have e:eff con m ⟨3,a,b⟩ v=⟨0,1,decide (v.of>=0)&&decide (a<v.has),true,false⟩:=by simp[eff]
  rw[e]at hhd
  simp only[qAZ,decide_eq_true_eq]at hhd
  rcases nw.here.kind with hk|⟨hk,j,f1,f2,f3,f4,f5⟩
  ·omega
  ·exact⟨oth,st_3 hlay hw oth hc h4 f1 f3 a0 (by omega)⟩
 rw[if_neg c3]
 by_cases c4:op=4
 ·subst c4;rw[if_pos rfl];exact⟨oth,st_4 m s oth hc h4⟩
 rw[if_neg c4]
 by_cases c5:op=5
 ·subst c5;rw[if_pos rfl]
  have e:eff con m ⟨5,a,b⟩ v=⟨a,0,true,true,false⟩:=by simp[eff]
  rw[e]at hfl
  change zA4 v<=v.height-a at hfl
  exact⟨oth,st_5 m s oth hc h4 a0 (by omega)⟩
 rw[if_neg c5]
 by_cases c6:op=6
 ·subst c6;rw[if_pos rfl]
  have e:eff con m ⟨6,a,b⟩ v=⟨a+1,1,true,true,false⟩:=by simp[eff]
  rw[e]at hfl
  change zA4 v<=v.height-(a+1)at hfl
  exact⟨oth,st_6 m s oth hc h4 a0 (by omega)⟩
 rw[if_neg c6]
 by_cases c7:op=7
 ·subst c7;rw[if_pos rfl]
  have e:eff con m ⟨7,a,b⟩ v=⟨2,1,true,true,false⟩:=by simp[eff]
  rw[e]at hfl
  change zA4 v<=v.height-2 at hfl
  exact⟨oth,st_7 hlay hw oth hc (by omega) h4 hdp ⟨hb0,by omega⟩ (hv 1 (by omega))⟩
 rw[if_neg c7]
 by_cases c8:op=8
 ·subst c8;rw[if_pos rfl]
  have e:eff con m ⟨8,a,b⟩ v=⟨2,0,decide (v.of>=0)&&v.tries.isEmpty,false,false⟩:=by simp[eff]
  rw[e]at hfl
  change zA4 v<=v.height-2 at hfl
  exact⟨oth,st_8 hlay hw oth hc (by omega) h4 hdp ⟨hb0,by omega⟩ (hv 1 (by omega))⟩
 rw[if_neg c8]
 by_cases c9:op=9
 ·subst c9;rw[if_pos rfl]
  have e:eff con m ⟨9,a,b⟩ v=⟨1,0,decide (v.of>=0)&&v.tries.isEmpty,false,false⟩:=by simp[eff]
  rw[e]at hfl hhd
  change zA4 v<=v.height-1 at hfl
  simp only[qAZ,decide_eq_true_eq]at hhd
  obtain⟨cs,c',hcs,_⟩:=nw.here.back hhd.1
  exact⟨oth,st_9 m s oth hc h4 (by omega) (c:=c') (by rw[hcs];simp) (by omega) ⟨hb0,by omega⟩⟩
 rw[if_neg c9]
 by_cases c10:op=10
 ·subst c10;rw[if_pos rfl]
  have e:eff con m ⟨10,a,b⟩ v=⟨b,1,zFk con m a&&decide (b<=8),true,false⟩:=by simp[eff]
  rw[e]at hfl
  change zA4 v<=v.height-b at hfl
  exact zae hlay hw0 hw hlen oth hc ⟨a0,a1⟩ b0 (by omega)
 rw[if_neg c10]
 by_cases c18:op=18
 ·subst c18;rw[if_pos rfl]
  have e:eff con m ⟨18,a,b⟩ v=⟨b,1,true,true,false⟩:=by simp[eff]
  rw[e]at hfl
  change zA4 v<=v.height-b at hfl
  exact zaX hlay hw0 hw hlen oth hc ⟨a0,a1⟩ b0 (by omega)
 rw[if_neg c18]
 by_cases c12:op=12
 ·subst c12;rw[if_pos rfl]
  have e:eff con m ⟨12,a,b⟩ v=⟨takes a,1,decide (a<=13),true,false⟩:=by simp[eff]
  rw[e]at hhd hfl
  simp only[decide_eq_true_eq]at hhd
  change zA4 v<=v.height-takes a at hfl
  obtain⟨oth',hP⟩:=zZN (s:=fwd s) (zGa hlay) hw0 hw hlen hou oth hlo a0 hhd (by show takes a<=(s.stack.length:Int);omega)
  exact⟨oth',zWs m (rawS s oth) _ hc hP⟩
 rw[if_neg c12]
 by_cases c17:op=17
 ·subst c17;rw[if_pos rfl];exact⟨oth,zaY m s oth hc (by omega)⟩
 rw[if_neg c17]
 by_cases c14:op=14
 ·subst c14;rw[if_pos rfl]
  have e:eff con m ⟨14,a,b⟩ v=⟨0,0, !v.tries.isEmpty,true,false⟩:=by simp[eff]
  rw[e]at hhd
  have hne:1<=v.tries.length:=by
   cases ht:v.tries with
   |nil=>rw[ht]at hhd;cases hhd
   |cons _ _=>simp
  have:=nw.here.seg.1
  have:=nw.here.app
  exact⟨oth,zab m s oth hc (by rw[this,qAD];omega) (by omega)⟩
 rw[if_neg c14]
 by_cases c15:op=15
 ·subst c15;rw[if_pos rfl];exact⟨oth,zaa m s oth hc⟩
 rw[if_neg c15]
 by_cases c11:op=11
 ·subst c11;rw[if_pos rfl]
  have e:eff con m ⟨11,a,b⟩ v=⟨1,1,decide (a<=7),true,false⟩:=by simp[eff]
  rw[e]at hfl
  change zA4 v<=v.height-1 at hfl
  exact⟨oth,zad hlay hw oth hc a0 (by omega) h4 (hv 0 (by omega))⟩
 rw[if_neg c11]
 by_cases c19:op=19
 ·subst c19;rw[if_pos rfl]
  have e:eff con m ⟨19,a,b⟩ v=⟨0,0,decide (v.height>=1)&&zFk con m b,true,true⟩:=by simp[eff]
  rw[e]at hhd
  simp only[qAZ,decide_eq_true_eq]at hhd
  exact⟨oth,zaW hlay hw oth hc (by omega) h4 (hv 0 (by omega))⟩
 rw[if_neg c19]
 have hone:1<=s.stack.length:=by
  by_cases c13:op=13
  ·have e:eff con m ⟨op,a,b⟩ v=⟨1,0,true,false,false⟩:=by simp[eff,c13]
   rw[e]at hfl
   change zA4 v<=v.height-1 at hfl
   omega
  by_cases c16:op=16
  ·have e:eff con m ⟨op,a,b⟩ v=⟨1,0,true,true,true⟩:=by simp[eff,c16]
   rw[e]at hfl
   change zA4 v<=v.height-1 at hfl
   omega
  have e:eff con m ⟨op,a,b⟩ v=⟨0,0,decide (v.height>=1)&&zHu m b,true,true⟩:=by
   unfold eff
   simp only[c0,c1,c2,c3,c4,c5,c6,c7,c8,c9,c10,c11,c12,c13,c14,c15,c16,c17,c18,c19,if_false]
  rw[e]at hhd
  simp only[qAZ,decide_eq_true_eq]at hhd
  omega
 have hR0:=hR 0 (by omega)
 have et:(s.goto (s.c.at_+1)).top 0=s.top 0:=rfl
 rw[et]
 have hop:op=13\/op=16\/op=20:=by omega
 cases hr:s.top 0 with
 |b j =>
  dsimp only
  rcases hop with rfl|rfl|rfl
  ·exact⟨oth,zY9 m s oth hc h4 hone hr hR0⟩
  ·exact⟨oth,zY8 m s oth hc h4 hone hr hR0⟩
  ·exact⟨oth,zY7 m s oth hc h4 hone hr hR0⟩
 |n x =>
  dsimp only
  rcases hop with rfl|rfl|rfl
  ·rw[if_pos rfl];exact⟨oth,zac m s oth hc h4 hone hr hR0 hlo (by omega) (by omega)⟩
  ·rw[if_neg (by decide),if_pos rfl];exact⟨oth,zaZ m s oth hc h4 hone hr hR0⟩
  ·rw[if_neg (by decide),if_neg (by decide)]
   have e:eff con m ⟨20,a,b⟩ v=⟨0,0,decide (v.height>=1)&&zHu m b,true,true⟩:=by simp[eff]
   rw[e]at hhd
   simp only[qAZ,decide_eq_true_eq]at hhd
   exact⟨oth,zaV m s oth hc h4 hone hr hR0 b0 (zUY hhd.2 b0)⟩
end Go.Proofs.YtcagoomibpcdlaaGreatDoor
namespace Go.Proofs.YtcagoomibpcdlaaGreatDoor
open _root_.Go.Proofs.Tryz
open Go.Sx Go.Vm
def flo(s:CS): Int:=(s.tries.getLast?).getD 0
structure DoAt(m:Img)(c:CK)(k:Int)(i:Ins)(s:CS): Prop where
 k0:0<=k
 code:m.code[k.toNat]?=some i
 st:c.at_[k.toNat]?=some (some s)
 big:m.code.length<=1048576
 len:c.at_.length=m.code.length
 hgt:0<=s.height/\s.height<=2000000
 tr:s.tries.length<=2000000
 a:0<=i.a/\i.a<=1048576
 b:0<=i.b/\i.b<=1048576
 fl:flo s=(s.tries.getLast?).getD 0
abbrev DoTo(m:Img)(c c':CK)(k:Int): Prop:=zAU prog 74 [.ptr 0 0,.d (i64 k)] (CX m c) .top (CX m c')
def zFs: Nat->Code->Code
 |0,c=>c
 |n+1,.seq _ c=>zFs n c
 |_+1,c=>c
def zDt(f:Func): Code:=f.body.getD .skip
theorem zaU{C:Ctx}{Q:Exit->Sl->List Ob->Prop}{σ:Sl}{η:List Ob}{id:Nat}{c:Code}(h:Stop (awp C (.block id c) Q σ η)): awp C (.block id c) Q σ η:=by
 unfold Stop at h;exact h
theorem zEd{C:Ctx}{Q:Exit->Sl->List Ob->Prop}{σ:Sl}{η:List Ob}{id:Nat}{o:Array Oper}{dr:Bool}{c:Code}(h:Stop (awp C ((Code.region id o dr).seq c) Q σ η)): awp C ((Code.region id o dr).seq c) Q σ η:=by
 unfold Stop at h;exact h
theorem zIY{k:Option Nat}{et:Option TypeId}{cs:List SV}: WOb (.bx none none cs) (.bx k et cs):=fun g w id h=>by
 obtain⟨b,e,us,h1,h2,h3,h4,h5,h6,h7,h8⟩:=h
 exact⟨b,e,us,h1,h2,h3,h4,h5,h6,(fun c hc=>by cases hc),(fun t ht=>by cases ht)⟩
abbrev doB(op a b:Int)(s:CS): List Ob:=[.box [.ptr 0 0],.box [.d (i64 op),.d (i64 a),.d (i64 b)],.box [.d (i64 s.of),.d (i64 s.height),.d (zBW s.tries),.d (bl true)],.box [.d (i64 (flo s))]]
abbrev doS(k op:Int)(s:CS): Sl:=[(1,.d (i64 k)),(2,.ptr 4 0),(4,.ptr 5 0),(5,.ptr 6 0),(6,.ptr 7 0),(7,.d (bl (decide (s.of≠-1)))),(8,.clo 120 [6,7,4]),(41,.d (i64 op))]
attribute [local irreducible] zAO Program.underlying Ylds zBE alex zB0 zBk awp zAg zB9 zB8 zAU zBj zA6 zDJ zBl zBn zBC zBq zBz zB7 zDQ zBm zBc zBe JFit
theorem zCv(m:Img)(c:CK){k op a b:Int}{s:CS}(hd:DoAt m c k ⟨op,a,b⟩ s)(wb:World)(St0:Stab)(X:Nat->Prop)(fx:Nat->Option Nat)(Q:Exit->Sl->List Ob->Prop)
  (h:awp ⟨prog,321,wb,St0,X,0⟩ (zFs 7 (zDt Tryz.f74)) Q (doS k op s) (CA fx m c++doB op a b s)) :
  awp ⟨prog,321,wb,St0,X,0⟩ (zDt Tryz.f74) Q (zGU [.ptr 0 0,.d (i64 k)] 0) (CA fx m c):=by
 obtain⟨hk0,hat0,hst0,hbig,hlen,hh,htr,ha,hb,hfl⟩:=hd
 have hat:=zB6 (f:=enIn) hat0
 have hst:(c.at_.map enCS)[k.toNat]?=some (vD s true):=by rw[qAL,hst0];rfl
 have hr0:=(qAA.1 hst0).1
 have hr1:0<=k/\k<(c.at_.length:Int):=by omega
 have hr2:c.at_.length<=(c.at_.map enCS).length:=by rw[qAC];exact qAN _
 dsimp only at ha hb
 clear hat0 hst0
 conv at h=>arg 2;whnf
 conv=>arg 2;whnf
 repeat' first|(refine zEd (id:=2) ?_)|(refine zBZ (id:=1) [.y (.ptr 0 0),.y (.ptr 0 0),.y (.ptr 0 (0+0)),.y (.ptr 0 (0+0+1)),.y (.d (.slice (m.code.map enIn))),.y (.d (i64 k)),.y (.rptr [i64 op,i64 a,i64 b]),.y (.d (.agg (List.take 3 [i64 op,i64 a,i64 b]))),.y (.ptr 0 0),.y (.ptr 0 0),.y (.ptr 0 (0+2)),.y (.buf 1 c.at_.length),.y (.d (i64 k)),.y (.bptr 1 k.toNat 0),.y (.d (.agg [i64 s.of,i64 s.height,zBW s.tries,bl true])),.mk ⟨4,[.int .i64 0,.int .i64 0,.int .i64 0],46,[.d (i64 op),.d (i64 a),.d (i64 b)]⟩ (some 17),.mk ⟨5,[.int .i64 0,.int .i64 0,.slice none 0 0,.bool false],151,[.d (i64 s.of),.d (i64 s.height),.d (zBW s.tries),.d (bl true)]⟩ (some 18),.st 15 ⟨4,[.int .i64 0,.int .i64 0,.int .i64 0],46,[.d (i64 op),.d (i64 a),.d (i64 b)]⟩,.st 16 ⟨5,[.int .i64 0,.int .i64 0,.slice none 0 0,.bool false],151,[.d (i64 s.of),.d (i64 s.height),.d (zBW s.tries),.d (bl true)]⟩] (by kernel_rfl) (by kernel_rfl) (.inl (by kernel_rfl)) ⟨⟨rfl,zAE rfl zA1 rfl rfl⟩,rfl,⟨rfl,zAL rfl⟩,rfl,⟨rfl,zAC rfl zDK⟩,rfl,⟨rfl,zAC rfl zA9⟩,rfl,⟨rfl,zAE rfl zBg rfl rfl⟩,rfl,⟨rfl,zAF rfl⟩,rfl,⟨rfl,zCX rfl rfl zB3 hk0 hat rfl (by decide)⟩,rfl,⟨rfl,zBK rfl zA8 rfl⟩,rfl,⟨rfl,zAE rfl zA1 rfl rfl⟩,rfl,⟨rfl,zAL rfl⟩,rfl,⟨rfl,zAC rfl zE8⟩,rfl,⟨rfl,zAE rfl zEZ rfl rfl⟩,rfl,⟨rfl,zAF rfl⟩,rfl,⟨rfl,zBM rfl rfl rfl zIr hr1 hr2⟩,rfl,⟨rfl,zDw rfl zEw rfl hst rfl rfl rfl⟩,rfl,⟨rfl,rfl,rfl,zCM,by kernel_rfl,rfl⟩,rfl,⟨rfl,rfl,rfl,zEv,by kernel_rfl,rfl⟩,rfl,⟨⟨_,_,_,_,_,rfl,rfl,rfl,zA8,rfl⟩,rfl,rfl,rfl,rfl,rfl⟩,⟨⟨_,_,_,_,_,rfl,rfl,rfl,zEw,rfl⟩,rfl,rfl,rfl,rfl,rfl⟩,trivial⟩ ?_)|apply en_n|apply zAG|apply zAA|apply zAD|apply w0|refine aBox (hd:=rfl) (hro:=rfl) rfl rfl ?_
 refine Stop.go ?_
 refine zCI (s:=[(1,.d (i64 k)),(2,.ptr 4 0),(4,.ptr 5 0),(5,.ptr 6 0)]) (h:=CA fx m c++[.box [.ptr 0 0],.box [.d (i64 op),.d (i64 a),.d (i64 b)],.box [.d (i64 s.of),.d (i64 s.height),.d (zBW s.tries),.d (bl true)]]) ?_ ?_
 ·exact zAS (Le_all rfl) (zAN rfl rfl (zAN rfl rfl (zAN rfl rfl (zAN rfl rfl (zHC rfl zIY (zHC rfl zIY (zHC rfl zIY zAs))))))) rfl rfl
 repeat' first|(refine zEd (id:=5) ?_)|(refine zPD (x:=.tmp 27) rfl [(1,.d (i64 k)),(2,.ptr 4 0),(4,.ptr 5 0),(5,.ptr 6 0),(6,.ptr 7 0)] (CA fx m c++[.box [.ptr 0 0],.box [.d (i64 op),.d (i64 a),.d (i64 b)],.box [.d (i64 s.of),.d (i64 s.height),.d (zBW s.tries),.d (bl true)],.box [.d (i64 (flo s))]]) (fun hp=>?_) (fun hp=>?_) ?_)|apply en_n|apply zAG|apply zAA|apply zAD|apply w0|(apply zAE;exact rfl;(first|with_reducible exact zAP|with_reducible exact zAt|with_reducible exact zA1|with_reducible exact zAx|with_reducible exact zAa|with_reducible exact zBB|with_reducible exact zAb);exact rfl;exact rfl)|(apply zAj;exact rfl;exact rfl;exact rfl;(first|with_reducible exact zAP|with_reducible exact zAb|with_reducible exact zAt);exact rfl;exact rfl;exact rfl;exact rfl)|(apply aI (hd:=rfl);(first|exact zCQ rfl|exact zCp rfl rfl rfl|exact Co_nn rfl);exact rfl;(with_reducible exact zA5);exact fun _=>rfl;rotate_left;intro v hv;rotate_right)|(apply zDv (hd:=rfl) (hro:=rfl);(with_reducible exact zWG))|apply ay (hd:=rfl)|exact zCK rfl zAP|exact zBD rfl zCP|exact zGM rfl rfl|refine zC2 rfl rfl ?_|exact zAC rfl zBv|(refine w0' ?_)|apply zAR
 ·omega
 ·omega
 ·refine jfit (zAS (Le_all rfl) (zAN rfl rfl (zAN rfl rfl (zAN rfl rfl (zAN rfl rfl (zAN rfl rfl (zAN rfl rfl (zAN rfl rfl (zAN rfl ?_ zAs)))))))) rfl rfl)
  have e:((s.tries.length:Int)-1).toNat=s.tries.length-1:=by omega
  rw[e,<-qBS]at hv
  have e2:flo s=v:=by unfold flo;rw[hv];rfl
  rw[e2];rfl
 ·refine jfit (zAS (Le_all rfl) (zAN rfl rfl (zAN rfl rfl (zAN rfl rfl (zAN rfl rfl (zAN rfl rfl (zAN rfl rfl (zAN rfl rfl (zAN rfl ?_ zAs)))))))) rfl rfl)
  have e:s.tries=[]:=List.length_eq_zero_iff.1 (by omega)
  have e2:flo s=0:=by unfold flo;rw[e];rfl
  rw[e2];rfl
 refine Stop.go ?_
 repeat' first|(refine zaU ?_)|apply en_n|apply zAG|apply zAA|apply zAD|apply w0|(apply zAE;exact rfl;(first|with_reducible exact zAP|with_reducible exact zAt|with_reducible exact zA1|with_reducible exact zAx|with_reducible exact zAa|with_reducible exact zBB|with_reducible exact zAb);exact rfl;exact rfl)|apply ay (hd:=rfl)|exact zAB rfl|exact zIX rfl rfl|exact zIh rfl|(apply zAC;exact rfl;(with_reducible first|exact zAv|exact zC7))|exact zKX rfl
 refine Stop.go ?_
 exact zCI (zAS (Le_all rfl) (zBF _) rfl rfl) h
end Go.Proofs.YtcagoomibpcdlaaGreatDoor

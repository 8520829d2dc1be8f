import Derived.OpenShut
import Derived.LaidMore
import Derived.Lay
import Derived.Stop.Joined
import Derived.Stop.LaidErr
import Derived.Shelf.Vars
import Derived.Lib.LaidTab
import Derived.Test.YtcagoomibpcdlaaGreatDoorMAX
import Derived.Test.YtcagoomibpcdlaaGreatDoorMCE
set_option maxHeartbeats 16000000
namespace Go.Proofs.YtcagoomibpcdlaaGreatDoor
section
open _root_.Go.Proofs.Tryz
open Go.Sx Go.Vm
def zIt(fin:Int)(vs:List Nn)(num:Int)(out:List (List UInt8))(steps:Int): D:=.agg [i64 fin,.slice (vs.map nnD),i64 num,.slice (out.map str),i64 steps]
abbrev zaI: D:=zIt 0 [] 0 [] 0
attribute [local irreducible] zAL Program.underlying Ylds zA2 alex zBZ zBP awp zAb zBh zBg zAW zBF zAp zCO zBG zBR zAr zBV zBY zBe zCQ zBM zA8 zBE
theorem zb0(m:Img)(words fuel e:Int)(he:e≠0)(hV:zAb prog 18 [zCs m] (i64 e)): zAb prog 10 [zCs m,i64 words,i64 fuel] (.tup [zaI,i64 e]):=by
 refine zB0 func10 rfl ntmps10 results10 rfl ?_
 intro wb St0
 unfold zCs at *
 exact yC
theorem zYe(m:Img)(words fuel:Int)(hw:words<16\/1048576<words)(hV:zAb prog 18 [zCs m] (i64 0)): zAb prog 10 [zCs m,i64 words,i64 fuel] (.tup [zaI,i64 200]):=by
 have hN:=zb5 words hw
 refine zB0 func10 rfl ntmps10 results10 rfl ?_
 intro wb St0
 unfold zCs at *
 exact yC
theorem zYf(m:Img)(words:Nat)(fuel:Int)(hw:16<=words/\words<=1048576)(hf:fuel<0)(hV:zAb prog 18 [zCs m] (i64 0)): zAb prog 10 [zCs m,i64 (words:Int),i64 fuel] (.tup [zaI,i64 210]):=by
 have hN:=zZP words hw
 refine zB0 func10 rfl ntmps10 results10 rfl ?_
 intro wb St0
 unfold zCs at *
 exact yC
end
section
open _root_.Go.Proofs.Tryz
open Go.ChangeShapes Go.WideShapes Go.ChangeAt Go.RowKit Go.Deep Go.Sx Go.Vm
theorem zTO: prog.underlying 22=some (.slice 43):=by kernel_rfl
theorem zWc: prog.underlying 43=some (.struct #[⟨"IsText",4,0,false, "", "",0⟩,⟨"Num",2,1,false, "", "",8⟩,⟨"Text",9,2,false, "", "",16⟩]):=by kernel_rfl
theorem zYD: prog.cellsOf 43=3:=by kernel_rfl
theorem zUb: oneCellFields prog #[⟨"IsText",4,0,false, "", "",0⟩,⟨"Num",2,1,false, "", "",8⟩,⟨"Text",9,2,false, "", "",16⟩]=true:=by kernel_rfl
theorem zZr: prog.underlying 23=some (.slice 46):=by kernel_rfl
theorem zcG: prog.underlying 46=some (.struct #[⟨"Op",44,0,false, "", "",0⟩,⟨"A",3,1,false, "", "",8⟩,⟨"B",3,2,false, "", "",16⟩]):=by kernel_rfl
theorem zeE: prog.underlying 44=some (.int .i64):=by kernel_rfl
theorem zZs: prog.underlying 4=some .bool:=by kernel_rfl
theorem zdd: prog.cellsOf 46=3:=by kernel_rfl
theorem zan: oneCellFields prog #[⟨"Op",44,0,false, "", "",0⟩,⟨"A",3,1,false, "", "",8⟩,⟨"B",3,2,false, "", "",16⟩]=true:=by kernel_rfl
theorem zYn: prog.underlying 25=some (.struct #[⟨"Pool",22,0,false, "", "",0⟩,⟨"Code",23,1,false, "", "",24⟩]):=by kernel_rfl
theorem zVQ: prog.cellsOf 22=1:=by kernel_rfl
theorem zbd: prog.cellsOf 23=1:=by kernel_rfl
theorem zde: prog.cellsOf 25=2:=by kernel_rfl
set_option maxRecDepth 100000 in
theorem zVO{H:Type}{enc:TypeId×Value->H}{W:World}{fuel:Nat}{cs:List Value}{x:DataW H×List MemPlace}(h:DataW.trod enc prog W 0 (fun _=>true) true fuel 22 cs=some x):
  ∃(v:Value) (E:List Cn),cs=[v]/\v.oneCell'=true/\RepD (big W) W v (.slice (E.map enCn)):=by
 rcases zLM zTO zWc zUb zYD h with h0|⟨a,len,cap,hcs,hl,hm,hi⟩
 ·exact⟨_,[],h0,rfl,zT2⟩
 ·obtain⟨E,hL,hq⟩:=zHb (Q:=fun i (s:Cn)=>W.cell? (a.add (i*3+0))=some (.bool s.isText)/\W.cell? (a.add (i*3+1))=some (.int .i64 s.num)/\W.cell? (a.add (i*3+2))=some (.string ⟨s.text.toArray⟩)) len (fun i hil=>by
   obtain⟨n,hf⟩:=hi i hil
   obtain⟨u0,y0,c0,t0⟩:=hf 0 _ rfl
   obtain⟨u1,y1,c1,t1⟩:=hf 1 _ rfl
   obtain⟨u2,y2,c2,t2⟩:=hf 2 _ rfl
   obtain⟨b,e0,_⟩:=DataW.trod_bool zZs t0
   obtain⟨z,e1,_,_⟩:=DataW.trod_int zcH t1
   obtain⟨s,e2,_,_⟩:=DataW.trod_string zcF t2
   injection e0 with e0;injection e1 with e1;injection e2 with e2
   subst e0;subst e1;subst e2
   exact⟨⟨b,z,s.data.toList⟩,c0,c1,c2⟩)
  refine⟨_,E,hcs,rfl,zOC (sz:=3) (by rw[qAC,hL]) hl hm (zDc fun _=>rfl) (by decide) fun i d hd o c hc=>?_⟩
  rw[qAH]at hd
  cases hn:E[i]? with
  |none=>rw[hn]at hd;cases hd
  |some s =>
   rw[hn]at hd;injection hd with hd;subst hd
   obtain⟨h1,h2,h3⟩:=hq i s hn
   match o,hc with
   |0,hc=>injection hc with hc;subst hc;exact⟨_,h1,rfl,.val _⟩
   |1,hc=>injection hc with hc;subst hc;exact⟨_,h2,rfl,.val _⟩
   |2,hc=>injection hc with hc;subst hc;exact⟨_,h3,rfl,.val _⟩
   |o+3,hc=>exact absurd hc (by simp[enCn,D.flat])
set_option maxRecDepth 100000 in
theorem za9{H:Type}{enc:TypeId×Value->H}{W:World}{fuel:Nat}{cs:List Value}{x:DataW H×List MemPlace}(h:DataW.trod enc prog W 0 (fun _=>true) true fuel 23 cs=some x):
  ∃(v:Value) (E:List Ins),cs=[v]/\v.oneCell'=true/\RepD (big W) W v (.slice (E.map enIn)):=by
 rcases zLM zZr zcG zan zdd h with h0|⟨a,len,cap,hcs,hl,hm,hi⟩
 ·exact⟨_,[],h0,rfl,zT2⟩
 ·obtain⟨E,hL,hq⟩:=zHb (Q:=fun i (s:Ins)=>W.cell? (a.add (i*3+0))=some (.int .i64 s.op)/\W.cell? (a.add (i*3+1))=some (.int .i64 s.a)/\W.cell? (a.add (i*3+2))=some (.int .i64 s.b)) len (fun i hil=>by
   obtain⟨n,hf⟩:=hi i hil
   obtain⟨u0,y0,c0,t0⟩:=hf 0 _ rfl
   obtain⟨u1,y1,c1,t1⟩:=hf 1 _ rfl
   obtain⟨u2,y2,c2,t2⟩:=hf 2 _ rfl
   obtain⟨z0,e0,_,_⟩:=DataW.trod_int zeE t0
   obtain⟨z1,e1,_,_⟩:=DataW.trod_int zYm t1
   obtain⟨z2,e2,_,_⟩:=DataW.trod_int zYm t2
   injection e0 with e0;injection e1 with e1;injection e2 with e2
   subst e0;subst e1;subst e2
   exact⟨⟨z0,z1,z2⟩,c0,c1,c2⟩)
  refine⟨_,E,hcs,rfl,zOC (sz:=3) (by rw[qAC,hL]) hl hm (zDc fun _=>rfl) (by decide) fun i d hd o c hc=>?_⟩
  rw[qAH]at hd
  cases hn:E[i]? with
  |none=>rw[hn]at hd;cases hd
  |some s =>
   rw[hn]at hd;injection hd with hd;subst hd
   obtain⟨h1,h2,h3⟩:=hq i s hn
   match o,hc with
   |0,hc=>injection hc with hc;subst hc;exact⟨_,h1,rfl,.val _⟩
   |1,hc=>injection hc with hc;subst hc;exact⟨_,h2,rfl,.val _⟩
   |2,hc=>injection hc with hc;subst hc;exact⟨_,h3,rfl,.val _⟩
   |o+3,hc=>exact absurd hc (by simp[enIn,D.flat])
set_option maxRecDepth 100000 in
theorem zbA{H:Type}{enc:TypeId×Value->H}{W:World}{r:Reach}{b0:Nat}{v:Value}{d:DataW H}{p:List MemPlace}(hv:Value.okWide prog W r b0 25 v)(h:DataW.Trod enc prog W 0 (fun _=>true) true 25 v d p):
  ∃m,RepD (big W) W v (zCs m):=by
 obtain⟨cs,rfl,hsz⟩:=okWide_struct zYn hv
 obtain⟨fuel,hf⟩:=h
 obtain⟨y0,y1,n,hx,hl,h0,h1⟩:=trod_struct2 zYn hf
 rw[zde]at hsz
 obtain⟨l⟩:=cs
 match l,hsz with
 |[u0,u1],_ =>
  obtain⟨v0,E0,e0,o0,r0⟩:=zVO h0
  obtain⟨v1,E1,e1,o1,r1⟩:=za9 h1
  have e0':u0=v0:=by rw[zVQ]at e0;simpa[Value.cells]using e0
  have e1':u1=v1:=by rw[zbd]at e1;simpa[Value.cells]using e1
  subst e0';subst e1'
  refine⟨⟨E0,E1⟩,?_⟩
  refine RepD.agg (St:=big W) (w:=W) [u0,u1] [.slice (E0.map enCn),.slice (E1.map enIn)] rfl (fun u hu=>?_) (fun j u d hu hd=>?_)
  ·rcases qBL.1 hu with rfl|hu
   ·exact o0
   ·rw[qAM.1 hu];exact o1
  ·match j,hu,hd with
   |0,hu,hd=>injection hu with hu;injection hd with hd;subst hu;subst hd;exact r0
   |1,hu,hd=>injection hu with hu;injection hd with hd;subst hu;subst hd;exact r1
   |j+2,hu,_=>simp at hu
end
section
open _root_.Go.Proofs.Tryz
open Go.ChangeShapes Go.WideShapes Go.ChangeAt Go.RowKit Go.Deep Go.Sx
theorem Tryz.own: ownKnob prog.godebug=none:=by kernel_rfl
theorem Tryz.laidOut: laidOutB prog=true:=by kernel_rfl
section
variable {H:Type}{enc:TypeId×Value->H}
theorem zTB{a:Assume}{C:Checked}{os:Os}{f:FuncId}{fn:Func}{s:ChangeSpec}{conds:List PathCond}{apart fresh handsOn again:Bool}{X:World->Array Value->Prop}
  (hX:∀(w w':World) (args:Array Value),w.heap=w'.heap->X w args->X w' args)
  (own:ownKnob C.prog.godebug=none) (started:os.Started) (noInit:C.prog.inits.idxOf? f=none) (hfn:C.prog.funcs[f]?=some fn)
  (witness:∃(w:World) (tape:Tape) (i:Input),w.os=os/\(w.forCall tape i).Shaped C.prog/\i.vars=[]/\Input.okWide C.prog (w.forCall tape i) .any w.heap.size f i/\
   ((s.pre enc C.prog fn conds apart (w.forCall tape i).memory i.args/\X (w.forCall tape i).memory i.args)/\sizedMet enc C.prog fn (OpenSpec.ofChange s) apart (w.forCall tape i).memory i.args)/\a.holds C.prog (lone (Frame.enter C.prog f i.args .normal) [] (w.forCall tape i)))
  (contract:∀(W:World) (base:Nat) (args:Array Value) (ds gs:List (DataW H)) (before:List MemPlace),
   (∀(j:Nat) t v,fn.params[j]?=some t->args[j]?=some v->Value.okWide C.prog W .any base t v)->
   DataW.Whole enc C.prog fn.params.toList s.vars apart W args.toList ds gs before->X W args->W.ShapedOpen C.prog->
   Calls C.prog f args W fun e W'=>∃v,e=.returned v/\s.post enc C.prog fn apart fresh handsOn again W args v W') :
  ReturnsInHanded a C os f .any (fun w args=>(s.pre enc C.prog fn conds apart w args/\X w args)/\sizedMet enc C.prog fn (OpenSpec.ofChange s) apart w args) (s.post enc C.prog fn apart fresh handsOn again):=by
 refine returnsInHanded_of_calls own started noInit witness ?_
 intro w tape i _ hsh _ hok hpre _
 obtain⟨_,_,_,fn',hfn',_,_,_,_,hval⟩:=hok
 have e:fn'=fn:=qBA (hfn'.symm.trans hfn)
 subst e
 obtain⟨⟨⟨ds,gs,before,hw,_⟩,hx⟩,_⟩:=hpre
 have hw':=DataW.Whole.of_heap (w':=w.forCall tape i) (by rfl) hw
 refine(contract (w.forCall tape i) w.heap.size i.args ds gs before hval hw' (hX _ _ _ (by rfl) hx) hsh).mono fun e W' ⟨v,he,hp⟩=>?_
 subst he
 exact ChangeSpec.post_blind hp
end
theorem zK3{P:Program}{W:World}{n:String}{g:Nat}{cs:Array Value}(hg:P.globalNamed n=some g)(hv:W.var? P n=some cs): ∃e t,W.heap[g]?=some (.cells cs e t):=by
 simp only[World.var?,hg,Option.bind_some]at hv
 split at hv
 ·rename_i h;injection hv with hv;subst hv;exact⟨_,_,h⟩
 ·cases hv
def zK5: List (String×DataW Unit):=Rows.vmFuelsRow.laid
theorem zbS{W:World}(hsh:W.ShapedOpen prog)(hL:laidMetH prog zK5 W): Glob (big W) W:=by
 rw[MakeChecks.laidMetH_plain _ _ _ (by kernel_rfl)]at hL
 have h2:=laidMet.tail (laidMet.tail hL)
 have e2:(Rows.laid_internal_strconv_uint64pow10:DataW Unit)=Lib.tabData .u64 Lib.pow10Tab:=by kernel_rfl
 rw[e2]at h2
 have ht:=Lib.tabIs_of_head (g:=4) (t:=245) (e:=57) (n:=20) (by kernel_rfl) (by kernel_rfl) (by kernel_rfl) (by kernel_rfl) (by kernel_rfl) (by kernel_rfl) h2
 have h4:=laidMet.tail (laidMet.tail h2)
 have e4:(Rows.laid_triglyph_op_numbers:DataW Unit)=Lib.tabData .i64 opNums:=by kernel_rfl
 rw[e4]at h4
 have hn:=Lib.tabIs_of_head (g:=0) (t:=223) (e:=3) (n:=21) (by kernel_rfl) (by kernel_rfl) (by kernel_rfl) (by kernel_rfl) (by kernel_rfl) (by kernel_rfl) h4
 have h6:=laidMet.tail (laidMet.tail h4)
 have e6:(Rows.laid_strings_asciiSpace:DataW Unit)=Lib.tabData .u8 Lib.asciiSpaceTab:=by kernel_rfl
 rw[e6]at h6
 have hs:=Lib.tabIs_of_head (g:=7) (t:=240) (e:=5) (n:=256) (by kernel_rfl) (by kernel_rfl) (by kernel_rfl) (by kernel_rfl) (by kernel_rfl) (by kernel_rfl) h6
 obtain⟨cs8,hh8,_,_⟩:=hsh.1 9 #[.pointer none] 264 (of_decide_eq_true (by kernel_rfl)) (by kernel_rfl)
 have hsz:9<W.heap.size:=(qAt.1 hh8).1
 obtain⟨m,hm⟩:=cell_of_shapedOpen_int (P:=prog) (g:=1) (t:=3) (zero:=#[.int .i64 0]) hsh (of_decide_eq_true (by kernel_rfl)) (by kernel_rfl) rfl (by kernel_rfl) (by kernel_rfl) uint
 obtain⟨cs0,hh,hc0,_⟩:=hsh.1 1 #[.int .i64 0] 3 (of_decide_eq_true (by kernel_rfl)) (by kernel_rfl)
 have hc:cs0 = #[.int .i64 m]:=by
  obtain⟨l⟩:=cs0
  match l,hc0 with
  |[c],_ =>
   simp[World.cell?,hh]at hm
   rw[hm]
 subst hc
 obtain⟨e9,t9,h9⟩:=zK3 (g:=0) (by kernel_rfl) hn
 obtain⟨csN,hhN,_,_⟩:=hsh.1 0 (Array.replicate 21 (.int .i64 0)) 223 (of_decide_eq_true (by kernel_rfl)) (by kernel_rfl)
 have hN:=h9.symm.trans hhN
 injection hN with hN;injection hN with hN1 hN2 hN3
 subst hN1;subst hN2;subst hN3
 exact⟨⟨fun k hk o=>qAa hk hsz,_,h9⟩,⟨m,_,_,hh⟩,zK3 (by kernel_rfl) ht,zK3 (by kernel_rfl) hs⟩
end
section
open _root_.Go.Proofs.Tryz
open Go.Sx Go.Vm
section
variable {P:Program}{η:List Ob}{σ:Sl}{dst:Option Nat}{ty:TypeId}{pos:String}{after:Array Edge}{gd:Option (Nat×Bool)}{t:TypeId}{x y:Operand}{yt:TypeId}
theorem zRm{xs:List D}(hx:oval σ x=.d (.slice xs))(hy:oval σ y=.nil)(hu:(zBb P t).isSome=true): Ylds P η σ ⟨dst,.binOp .eql t x y yt,ty,pos,after,gd⟩ (.p isB):=by
 obtain⟨e,he⟩:=qBB.1 hu
 refine Ylds.same fun g w a hi h=>?_
 have h1:=h x (by simp[Op.operands]);rw[hx]at h1
 have h2:=h y (by simp[Op.operands]);rw[hy]at h2
 change RepD _ _ _ _ at h1
 change _=_ at h2
 generalize hv:a.eval x=v at h1
 cases h1 with
 |slice ad len cap sz _ us hlen hcap hm hsz hus hone hcell =>
  obtain⟨b,hb,_⟩:=zLC (P:=P) (x:=x) (y:=y) w he ad len cap
  refine⟨.bool b,?_,b,rfl⟩
  simp only[Sem.run_bind]at hb
  simp only[execOp,hv,h2,Sem.run_bind,hb,Result.andThen_ok,Sem.run_pure]
end
attribute [local irreducible] zAL Program.underlying Ylds zA2 alex zBZ zBP awp zAb zBh zBg zAW zBF zAp zCO zBG zBR zAr zBV zBY zBe zCQ zBM zA8 zBE JFit
theorem zPT(l:List Int)(hl:l.length<=2000000): zAb prog 123 [zBU l] (zBU l):=by
 refine zAj func123 rfl ntmps123 results123 rfl ?_
 intro wb St0
 by_cases hne:l=[]
 ·subst hne
  repeat' first|apply en_n|apply zAE|apply zAA|apply zAB|apply w0|(refine zRm rfl rfl zCp)|(refine zLt rfl ?_ ?_)|(apply zJ6 (hd:=rfl) (hro:=rfl);exact zBn;exact zBf;exact zET;exact rfl)|(apply aApp (hd:=rfl) (hro:=rfl);exact rfl;exact rfl;(first|exact zA0 rfl|exact zBX rfl rfl rfl|exact Co_nn rfl);(first|exact rfl|(simp;done));exact rfl;(with_reducible exact zBn);(with_reducible exact zBf);(with_reducible exact zHg);(with_reducible exact zFk);(first|exact zDc (fun _=>rfl)|exact zCu rfl))|refine ayA rfl ?_|apply ay (hd:=rfl)|apply zAP|apply zAM|apply en_r|apply zAS|refine zef rfl ?_|(apply zaO;exact rfl;exact rfl;(first|exact rfl|(simp;done)))
  ·rfl
  ·exact⟨by decide,by decide⟩
  ·rfl
 ·skip
  repeat' first|apply en_n|apply zAE|apply zAA|apply zAB|apply w0|(apply zRn;exact rfl;exact rfl;exact(by simpa using hne);with_reducible exact zCp)|(apply zJ6 (hd:=rfl) (hro:=rfl);exact zBn;exact zBf;exact zET;exact rfl)|(apply aApp (hd:=rfl) (hro:=rfl);exact rfl;exact rfl;(first|exact zA0 rfl|exact zBX rfl rfl rfl|exact Co_nn rfl);(first|exact rfl|(simp;done));exact rfl;(with_reducible exact zBn);(with_reducible exact zBf);(with_reducible exact zHg);(with_reducible exact zFk);(first|exact zDc (fun _=>rfl)|exact zCu rfl))|refine ayA rfl ?_|apply ay (hd:=rfl)|refine zAI rfl ?_|apply zAP|apply zAM|apply zAS
  ·simp only[qAC];omega
  ·exact⟨_,_,_,rfl,by simp,by rw[qAe (by simp)];rfl⟩
theorem CloneI_row(l:List Int)(hl:l.length<=2000000): zCO prog 123 [.d (zBU l)] [] l.length 3 1 (l.map ival):=by
 refine zRI func123 rfl ntmps123 results123 rfl ?_
 intro wb St0
 by_cases hne:l=[]
 ·subst hne
  repeat' first|apply en_n|apply zAE|apply zAA|apply zAB|apply w0|(refine zRm rfl rfl zCp)|(refine zLt rfl ?_ ?_)|(apply zJ6 (hd:=rfl) (hro:=rfl);exact zBn;exact zBf;exact zET;exact rfl;refine zHG 0 rfl ?_)|(apply aApp (hd:=rfl) (hro:=rfl);exact rfl;exact rfl;(first|exact zA0 rfl|exact zBX rfl rfl rfl|exact Co_nn rfl);(first|exact rfl|(simp;done));exact rfl;(with_reducible exact zBn);(with_reducible exact zBf);(with_reducible exact zHg);(with_reducible exact zFk);(first|exact zDc (fun _=>rfl)|exact zCu rfl))|refine ayA rfl ?_|apply ay (hd:=rfl)|apply zAP|apply zAM|apply en_r
  ·exact zHC ⟨_,rfl,.inl ⟨rfl,rfl,rfl⟩⟩
  ·exact⟨by decide,by decide⟩
  ·exact zHC ⟨_,rfl,.inr ⟨0,rfl,rfl,rfl⟩⟩
 ·skip
  repeat' first|apply en_n|apply zAE|apply zAA|apply zAB|apply w0|(apply zRn;exact rfl;exact rfl;exact(by simpa using hne);with_reducible exact zCp)|(apply zJ6 (hd:=rfl) (hro:=rfl);exact zBn;exact zBf;exact zET;exact rfl;refine zHG 0 rfl ?_)|(apply aApp (hd:=rfl) (hro:=rfl);exact rfl;exact rfl;(first|exact zA0 rfl|exact zBX rfl rfl rfl|exact Co_nn rfl);(first|exact rfl|(simp;done));exact rfl;(with_reducible exact zBn);(with_reducible exact zBf);(with_reducible exact zHg);(with_reducible exact zFk);(first|exact zDc (fun _=>rfl)|exact zCu rfl))|refine ayA rfl ?_|apply ay (hd:=rfl)|refine zAI rfl ?_|apply zAP|apply zAM
  ·rw[qAC];omega
  ·exact zHC ⟨_,rfl,.inr ⟨0,rfl,(by show SV.buf 0 (0+(l.map ival).length)=_;rw[qAC,qAY]),rfl⟩⟩
theorem zZy{C:Ctx}{Q:Exit->Sl->List Ob->Prop}{σ:Sl}{η:List Ob}{id:Nat}{o:Array Oper}(h:Stop (awp C (.region id o true) Q σ η)): awp C (.region id o true) Q σ η:=by
 unfold Stop at h;exact h
theorem zdb(m:Img)(c:CK){k a b:Int}{s:CS}(hd:DoAt m c k ⟨14,a,b⟩ s)(ht:s.tries=[]): DoTo m c { c with bad:=true } k:=by
 have hCl:=zPT s.tries (by rw[ht];simp)
 have ht0:¬(s.tries.length:Int)>0:=by rw[ht];simp
 refine zH1 func74 rfl ntmps74 results74 rfl ?_
 intro wb St0 X fx
 refine zI6 m c hd wb St0 X fx _ ?_
 obtain⟨hk0,hat0,hst0,hbig,hlen,hh,htr,ha,hb,_⟩:=hd
 have hr0:=(qAA.1 hst0).1
 have hk1:k<(c.at_.length:Int):=by omega
 dsimp only at ha hb
 clear hat0 hst0
 conv=>arg 2;whnf
 exact yN
theorem zez(m:Img)(c c':CK){k a b:Int}{s:CS}(hd:DoAt m c k ⟨14,a,b⟩ s)(ht:s.tries≠[])(hS:zDH m c c' { s with tries:=s.tries.dropLast } true 0 0 0 true (.d (zBU [k+1]))): DoTo m c c' k:=by
 have hCl:=zPT s.tries hd.tr
 have hpos:=qA3.2 ht
 have ht0:(s.tries.length:Int)>0:=by omega
 refine zH1 func74 rfl ntmps74 results74 rfl ?_
 intro wb St0 X fx
 refine zI6 m c hd wb St0 X fx _ ?_
 obtain⟨hk0,hat0,hst0,hbig,hlen,hh,htr,ha,hb,_⟩:=hd
 have hr0:=(qAA.1 hst0).1
 have hk1:k<(c.at_.length:Int):=by omega
 dsimp only at ha hb
 clear hat0 hst0
 conv=>arg 2;whnf
 repeat' first|(refine zCi (id:=39) ?_)|apply en_n|apply zAE|apply zAA|apply zAB|apply w0|exact ycA zFL hCl|(apply zAG;exact rfl;(first|with_reducible exact zAY|with_reducible exact zB1|with_reducible exact zDJ|with_reducible exact zB5|with_reducible exact zAw|with_reducible exact zEJ|with_reducible exact zAm);exact rfl;exact rfl)|refine aStA ?_|refine ayA rfl ?_|refine ayQ rfl ?_|apply ay (hd:=rfl)|(refine w0' ?_)|refine zAJ rfl ?_|refine zAI rfl ?_|apply zAO
 all_goals first|omega|skip
 refine Stop.go ?_
 have hdl:s.tries.take ((s.tries.length:Int)-1).toNat=s.tries.dropLast:=by rw[qBF];congr 1;omega
 repeat' first|(refine zGk (id:=40) (s:=[(1,.d (i64 k)),(5,.ptr 6 0),(6,.ptr 7 0),(8,.clo 120 [6,7,4])]) (h:=CA fx m c++[.box [.ptr 0 0],.box [.d (i64 14),.d (i64 a),.d (i64 b)],.box [.d (i64 s.of),.d (i64 s.height),.d (zBU s.tries.dropLast),.d (bl true)],.box [.d (i64 0)]]) (zAU (Le_all rfl) (zAK rfl rfl (zAK rfl rfl (zAK rfl rfl (zAK rfl rfl (zAK rfl rfl (zAK rfl rfl (zAK rfl (by rw[<-hdl];rfl) (zAK rfl rfl zAe)))))))) rfl rfl) ?_)|apply en_n|apply zAE|apply zAA|apply zAB|apply w0|(refine zGm (L:=s.tries) (enc:=ival) (zA0 rfl) zBf rfl (fun _=>rfl) ?_)|(refine zCA zBn zBf zET rfl rfl (zAN rfl zAH) rfl)|(refine zQH [0,1,2,3,6,7,4] [4,5,6] rfl rfl zFK (hS) rfl (SArgs_all rfl) rfl rfl (by decide) rfl rfl rfl rfl rfl rfl ?_)|(apply zAG;exact rfl;(first|with_reducible exact zAY|with_reducible exact zB1|with_reducible exact zDJ|with_reducible exact zB5|with_reducible exact zAw|with_reducible exact zEJ|with_reducible exact zAm);exact rfl;exact rfl)|refine aStA ?_|refine ayA rfl ?_|apply ay (hd:=rfl)|refine zBp rfl rfl ?_|refine zCe rfl rfl ?_|(refine w0' ?_)|apply eb_n
 all_goals first|omega|skip
 all_goals exact zFi rfl
theorem zev(m:Img)(c c1 c':CK){k a b:Int}{s:CS}(hd:DoAt m c k ⟨18,a,b⟩ s)(hS:zDH m c c1 s true (flo s) b 1 true (.d (zBU [k+1])))(hB:zQM m c1 c' a b): DoTo m c c' k:=by
 refine zH1 func74 rfl ntmps74 results74 rfl ?_
 intro wb St0 X fx
 refine zI6 m c hd wb St0 X fx _ ?_
 obtain⟨hk0,hat0,hst0,hbig,hlen,hh,htr,ha,hb,_⟩:=hd
 have hr0:=(qAA.1 hst0).1
 have hk1:k<(c.at_.length:Int):=by omega
 dsimp only at ha hb
 clear hat0 hst0
 conv=>arg 2;whnf
 repeat' first|(refine zGk (id:=51) (s:=[(2,.ptr 4 0),(4,.ptr 5 0)]) (h:=CA fx m c1++doB 18 a b s) (zAU (Le_all rfl) (zA4 _) rfl rfl) ?_)|apply en_n|apply zAE|apply zAA|apply zAB|apply w0|(refine aCK (r:=c1) (tl:=doB 18 a b s) (tl':=doB 18 a b s) zP2 hB (SArgs_all rfl) rfl rfl rfl rfl ?_)|(refine zCA zBn zBf zET rfl rfl (zAN rfl zAH) rfl)|(refine zQH [0,1,2,3,6,7,4] [4,5,6] rfl rfl zFK (hS) rfl (SArgs_all rfl) rfl rfl (by decide) rfl rfl rfl rfl rfl rfl ?_)|(apply zAG;exact rfl;(first|with_reducible exact zAY|with_reducible exact zB1|with_reducible exact zDJ|with_reducible exact zB5|with_reducible exact zAw|with_reducible exact zEJ|with_reducible exact zAm);exact rfl;exact rfl)|refine ayA rfl ?_|refine ayQ rfl ?_|apply ay (hd:=rfl)|refine zBp rfl rfl ?_|refine zAJ rfl ?_|refine zAI rfl ?_|apply zAO|apply eb_n
 all_goals first|omega|skip
 all_goals exact zFi rfl
theorem zew(m:Img)(c c1 c':CK){k a b:Int}{s:CS}(hd:DoAt m c k ⟨17,a,b⟩ s)(hS:zDH m c c1 s true (flo s) 0 1 true (.d (zBU [a])))(hC:zJk m c1 c' (k+1) ⟨s.of,s.height,s.tries++[s.height]⟩): DoTo m c c' k:=by
 have hCl:=CloneI_row s.tries hd.tr
 refine zH1 func74 rfl ntmps74 results74 rfl ?_
 intro wb St0 X fx
 refine zI6 m c hd wb St0 X fx _ ?_
 obtain⟨hk0,hat0,hst0,hbig,hlen,hh,htr,ha,hb,_⟩:=hd
 have hr0:=(qAA.1 hst0).1
 have hk1:k<(c.at_.length:Int):=by omega
 dsimp only at ha hb
 clear hat0 hst0
 conv=>arg 2;whnf
 have hk2:-9223372036854775808<=k+1/\k+1<=9223372036854775807:=by omega
 repeat' first|(refine zZy (id:=48) ?_)|apply en_n|apply zAE|apply zAA|apply zAB|apply w0|(refine zCA zBn zBf zET rfl rfl (zAN rfl zAH) rfl)|(refine zQH [0,1,2,3,6,7,4] [4,5,6] rfl rfl zFK (hS) rfl (SArgs_all rfl) rfl rfl (by decide) rfl rfl rfl rfl rfl rfl ?_)|(apply zAG;exact rfl;(first|with_reducible exact zAY|with_reducible exact zB1|with_reducible exact zDJ|with_reducible exact zB5|with_reducible exact zAw|with_reducible exact zEJ|with_reducible exact zAm);exact rfl;exact rfl)|refine ayA rfl ?_|refine ayQ rfl ?_|apply ay (hd:=rfl)|refine zAJ rfl ?_|refine zAI rfl ?_|apply zAO
 all_goals first|omega|skip
 refine Stop.go ?_
 refine zBW (s:=[(1,.d (i64 k)),(2,.ptr 4 0),(4,.ptr 5 0),(5,.ptr 6 0)]) (h:=CA fx m c1++doB 17 a b s) (zAU (Le_all rfl) (zA4 _) rfl rfl) ?_
 have hη2:((zGM 8 (CA fx m c1++doB 17 a b s++[.buf true 3 1 (s.tries.map ival)])).set 8 (.buf true 3 1 (s.tries.map ival++[i64 s.height]))).set 8 (.buf false 3 1 (s.tries.map ival++[i64 s.height]))=CA fx m c1++doB 17 a b s++[.buf false 3 1 (s.tries.map ival++[i64 s.height])]:=rfl
 have hG2:∀(τ:Sl) (t:Nat),get ((267,.d (zBU (s.tries++[s.height])))::(267,.buf 8 (s.tries.length+1))::zGY 8 τ) t=get ((267,FF (za4 8) 2 (.d (zBU (s.tries++[s.height]))))::za3 8 1 τ) t:=fun τ t=>by
  rw[zBx,zBx,zBx]
  by_cases h:267=t
  ·rw[if_pos h,if_pos h];rfl
  ·rw[if_neg h,if_neg h,if_neg h];rfl
 refine zVf [.ptr 0 0,.d (i64 k),.d (i64 (k+1)),.ptr 6 (0+0),.d (i64 s.of),.ptr 6 (0+1),.d (i64 s.height),.ptr 6 (0+2),.d (zBU s.tries),.buf 8 s.tries.length,.ptr 6 (0+1),.d (i64 s.height),.d (.slice [i64 s.height]),.d (zBU (s.tries++[s.height])),.d (.agg [i64 s.of,i64 s.height,zBU (s.tries++[s.height]),bl false])] [9,13] [CA fx m c1++doB 17 a b s,CA fx m c1++doB 17 a b s++[.buf true 3 1 (s.tries.map ival)],CA fx m c1++doB 17 a b s++[.buf false 3 1 (s.tries.map ival++[i64 s.height])]] (za4 8) (za3 8) (by kernel_rfl) (by kernel_rfl) (by kernel_rfl) (.inr (by kernel_rfl)) (by kernel_rfl) (by kernel_rfl) rfl rfl (zdM 8) ?_ ?_
 ·refine zFF 0 rfl rfl rfl rfl rfl (by decide +kernel) (fun _=>zAG rfl zDJ rfl rfl) (fun _=>zAG rfl zDJ rfl rfl) (zAG rfl zDJ rfl rfl) ?_
  refine zFF 0 rfl rfl rfl rfl rfl (by decide +kernel) (fun _=>zAD rfl) (fun _=>zAD rfl) (zAD rfl) ?_
  refine zFF 0 rfl rfl rfl rfl rfl (by decide +kernel) (fun _=>zBp rfl rfl hk2) (fun _=>zBp rfl rfl hk2) (zBp rfl rfl hk2) ?_
  refine zFF 0 rfl rfl rfl rfl rfl (by decide +kernel) (fun _=>zAF rfl zEp) (fun _=>zAF rfl zEp) (zAF rfl zEp) ?_
  refine zFF 0 rfl rfl rfl rfl rfl (by decide +kernel) (fun _=>zAG rfl zAY rfl rfl) (fun _=>zAG rfl zAY rfl rfl) (zAG rfl zAY rfl rfl) ?_
  refine zFF 0 rfl rfl rfl rfl rfl (by decide +kernel) (fun _=>zAF rfl zDN) (fun _=>zAF rfl zDN) (zAF rfl zDN) ?_
  refine zFF 0 rfl rfl rfl rfl rfl (by decide +kernel) (fun _=>zAG rfl zAY rfl rfl) (fun _=>zAG rfl zAY rfl rfl) (zAG rfl zAY rfl rfl) ?_
  refine zFF 0 rfl rfl rfl rfl rfl (by decide +kernel) (fun _=>zAF rfl zDa) (fun _=>zAF rfl zDa) (zAF rfl zDa) ?_
  refine zFF 0 rfl rfl rfl rfl rfl (by decide +kernel) (fun _=>zAG rfl zB1 rfl rfl) (fun _=>zAG rfl zB1 rfl rfl) (zAG rfl zB1 rfl rfl) ?_
  refine zYr 0 263 rfl rfl rfl rfl ?_ ?_
  ·intro τ hτ
   have h262:get τ 262=.d (zBU s.tries):=(hτ 262 (by decide +kernel)).trans rfl
   refine EStep.of (ops:=#[]) ?_
   refine zZF [] zFL hCl ?_ rfl rfl (by decide) rfl rfl rfl rfl rfl ?_
   ·exact SArgs_cons h262 SArgs_nil
   ·exact zAB ⟨fun t=>rfl,rfl⟩
  refine zFF 0 rfl rfl rfl rfl rfl (by decide +kernel) (fun _=>zAF rfl zDN) (fun _=>zAF rfl zDN) (zAF rfl zDN) ?_
  refine zFF 0 rfl rfl rfl rfl rfl (by decide +kernel) (fun _=>zAG rfl zAY rfl rfl) (fun _=>zAG rfl zAY rfl rfl) (zAG rfl zAY rfl rfl) ?_
  refine zFF 0 rfl rfl rfl rfl rfl (by decide +kernel) (fun _=>zCA zBn zBf zET rfl rfl (zAN rfl zAH) rfl) (fun _=>zCA zBn zBf zET rfl rfl (zAN rfl zAH) rfl) (zCA zBn zBf zET rfl rfl (zAN rfl zAH) rfl) ?_
  refine zYr 1 267 rfl rfl rfl rfl ?_ ?_
  ·intro τ hτ
   have h263:get τ 263=.buf 8 s.tries.length:=(hτ 263 (by decide +kernel)).trans rfl
   have h266:get τ 266=.d (.slice [i64 s.height]):=(hτ 266 (by decide +kernel)).trans rfl
   refine EStep.of (ops:=#[]) ?_
   refine aApp (id:=8) (n:=s.tries.length) (m:=1) (ys:=[i64 s.height]) (mu:=true) (xs:=s.tries.map ival) h263 rfl (zA0 h266) (qAC _).symm rfl zBn zBf zHg zFk rfl rfl (fun d hd=>by rw[qAM]at hd;subst hd;rfl) (by omega) ?_
   refine zQG 8 rfl rfl rfl ?_
   refine zS0 267 (d:=zBU (s.tries++[s.height])) rfl ?_ ?_
   ·rw[show zBU (s.tries++[s.height])=.slice (s.tries.map ival++[i64 s.height])from by unfold zBU;rw[qAU];rfl]
    exact zDr rfl (by rw[qAE,qAC];rfl)
   ·exact zAB ⟨fun t=>hG2 τ t,hη2⟩
  refine zFF 2 rfl rfl rfl rfl rfl (by decide +kernel) (fun h=>absurd h (by decide)) (fun h=>absurd h (by decide)) (zBI (cs:=[i64 s.of,i64 s.height,zBU (s.tries++[s.height]),bl false]) zID zFt (PD_d rfl rfl (PD_d rfl rfl (PD_d rfl rfl zCI))) rfl) ?_
  exact zWz
 ·skip
  exact yZ
end
section
open Go.Sx Go.Vm
variable {m:Img}
theorem zVP(him:ImgOk m){c:CK}(hc:CInv m c)(hb:CB c){k:Int}(hk:0<=k)(s:CS): zJk m c (c.come k s) k s:=by
 have h1:=zMY c
 have h2:=hc.len
 have h3:=him.code
 have h4:=hb.wrk
 exact zbc m c k s hk hc (by omega) (by omega) fun q x hq=>by have:=(hb.hgt q x hq).2;omega
theorem zbb(him:ImgOk m){s:CS}{c:CK}(hc:CInv m c)(hb:CB c){l:List Int}(h0:∀t∈l,0<=t)(hs:s.of = -1\/(0<=s.of/\0<getI c.has s.of))(ht:TrOk (fullV c s))(h1:s.height<=cnt c+1)(h2:s.tries.length<=cnt c+1):
  ∀i t,l[i]?=some t->zJk m ((l.take i).foldl (fun c t=>c.come t s) c) ((l.take (i+1)).foldl (fun c t=>c.come t s) c) t s:=by
 intro i t hi
 have hm:=qAF hi
 have hlt:=(qAA.1 hi).1
 have e:l.take (i+1)=l.take i++[t]:=by
  rw[List.take_succ_eq_append_getElem hlt,(qAA.1 hi).2]
 rw[e,List.foldl_append,List.foldl_cons,List.foldl_nil]
 obtain⟨_,c2,_⟩:=zLm (l.take i) hc (fun t ht=>h0 t (qAW ht)) hs ht
 obtain⟨b2,_⟩:=zNU (s:=s) (l.take i) hb h1 h2
 exact zVP him c2 b2 (h0 t hm) s
theorem zTh(him:ImgOk m){c:CK}(hc:CInv m c)(hb:CB c){s:CS}(b:Bool){fl takes puts:Int}{holds:Bool}{l:List Int}(h0:∀t∈l,0<=t)(hl:l.length<=1000)(hs:s.of = -1\/(0<=s.of/\0<getI c.has s.of))(ht:TrOk (fullV c s))(hf:zA1 (fullV c s)<=fl\/zA1 (fullV c s)<=s.height-takes)
  (htk:0<=takes/\takes<=1048577) (hp:0<=puts/\puts<=1) (hg:s.height<=cnt c/\s.tries.length<=cnt c):zDH m c (c.stepC s fl takes puts holds l) s b fl takes puts holds (.d (zBU l)):=by
 have q1:=zMY c
 have q2:=hc.len
 have q3:=him.code
 have q4:0<=s.height:=ht.nn
 unfold CK.stepC
 cases holds with
 |false=>exact zQZ m c s b fl takes puts _
 |true =>
  by_cases h:s.height-takes<fl
  ·rw[if_pos (by simp[h])]
   exact zNz m c s b fl takes puts _ h ⟨q4,by omega,by omega,by omega⟩
  ·rw[if_neg (by simp[h])]
   have htr:TrOk (fullV c ⟨s.of,s.height-takes+puts,s.tries⟩):=ht.tw (h:=s.height-takes+puts) (by rcases hf with h|h <;> omega)
   have hC:=zbb him (s:=⟨s.of,s.height-takes+puts,s.tries⟩) hc hb h0 hs htr (by show s.height-takes+puts<=_;omega) (by show s.tries.length<=_;omega)
   have:=zWn m s b fl takes puts l (fun i=>(l.take i).foldl (fun c t=>c.come t ⟨s.of,s.height-takes+puts,s.tries⟩) c) h ⟨q4,by omega,by omega,by omega,by omega,by omega⟩ hl hC
   rw[qAw]at this
   exact this
theorem zaF(him:ImgOk m){c:CK}(hc:CInv m c)(_hb:CB c){s:CS}(b:Bool){fl takes puts:Int}{holds:Bool}(ht:TrOk (fullV c s))(htk:0<=takes/\takes<=1048577)(hp:0<=puts/\puts<=1)(hg:s.height<=cnt c): zDH m c (c.stepC s fl takes puts holds []) s b fl takes puts holds .nil:=by
 have q1:=zMY c
 have q2:=hc.len
 have q3:=him.code
 have q4:0<=s.height:=ht.nn
 unfold CK.stepC
 cases holds with
 |false=>exact zQZ m c s b fl takes puts _
 |true =>
  by_cases h:s.height-takes<fl
  ·rw[if_pos (by simp[h])]
   exact zNz m c s b fl takes puts _ h ⟨q4,by omega,by omega,by omega⟩
  ·rw[if_neg (by simp[h])]
   exact zTe m s b fl takes puts c h ⟨q4,by omega,by omega,by omega,by omega,by omega⟩
theorem zbi(him:ImgOk m){c:CK}(hc:CInv m c)(hb:CB c){k n:Int}(hk:0<=k)(hn:0<=n/\n<=1048576): zQM m c (c.begin k n) k n:=by
 refine zYG m c k n hn ?_
 have h1:=zMY c
 have h2:=hc.len
 have h3:=him.code
 have h4:=hb.wrk
 have hl:=hc.len
 have ek:k=(k.toNat:Int):=(qA0 hk).symm
 unfold CK.come
 dsimp only
 cases h:c.at_[k.toNat]? with
 |none =>
  have:=qBP.1 h
  exact zRU m _ k _ (by omega)
 |some o =>
  cases o with
  |none =>
   have:=zRW m { c with has:=putI c.has k (n+1) } k.toNat ⟨k,1,[]⟩ hl h (by show c.work.length<=_;omega) (by omega)
   rw[<-ek]at this;exact this
  |some s' =>
   have:=zRV m { c with has:=putI c.has k (n+1) } k.toNat ⟨k,1,[]⟩ s' hl h (by have:=(hb.hgt _ _ h).2;omega) (by omega)
   rw[<-ek]at this;exact this
end
section
open Go.Sx Go.Vm
variable {m:Img}
theorem do_m(him:ImgOk m){c:CK}(hc:CInv m c)(hb:CB c){k:Int}{s:CS}(hk:0<=k)(hat:c.at_[k.toNat]?=some (some s)): DoTo m c (c.doC conF m k s) k:=by
 have hs:=hc.of _ _ hat
 have ht:=hc.tr _ _ hat
 have hlt:=zKD hc hat
 have hgt:=hb.hgt _ _ hat
 have q1:=zMY c
 have q2:=hc.len
 have q3:=him.code
 have hnn:0<=s.height:=ht.nn
 obtain⟨i,hi⟩:∃i,m.code[k.toNat]?=some i:=⟨_,qAB hlt⟩
 have hg:m.code.getD k.toNat default=i:=by rw[qAD,hi];rfl
 obtain⟨o0,o20,a0,a1,b0,b1,hgo⟩:=him.ins i (qAF hi)
 have hd:DoAt m c k i s:=⟨hk,hi,hat,by omega,q2,⟨hnn,by omega⟩,by omega,⟨a0,a1⟩,⟨b0,b1⟩,rfl⟩
 obtain⟨op,a,b⟩:=i
 dsimp only at *
 have hof:decide ((fullV c s).of>=0) = !decide (s.of = -1):=by
  show decide (s.of>=0)=_
  by_cases h:s.of = -1
  ·rw[decide_eq_true h,decide_eq_false (by omega)];rfl
  ·rw[decide_eq_false h,decide_eq_true (by omega)];rfl
 have hte:(fullV c s).tries.isEmpty=decide ((s.tries.length:Int)=0):=by
  show s.tries.isEmpty=_
  cases s.tries with
  |nil=>rfl
  |cons x r=>exact(decide_eq_false (by simp;omega)).symm
 have hS:∀(takes puts:Int) (holds:Bool) (l:List Int),(∀t∈l,0<=t)->l.length<=1000->0<=takes->takes<=1048577->0<=puts->puts<=1->zDH m c (c.stepC s (zA1 (fullV c s)) takes puts holds l) s true (flo s) takes puts holds (.d (zBU l)) :=
  fun takes puts holds l h0 hl g0' g1' g2' g3'=>zTh him hc hb true h0 hl hs ht (.inl (qBO _)) ⟨g0',g1'⟩ ⟨g2',g3'⟩ hgt
 have hN:∀(takes puts:Int) (holds:Bool),0<=takes->takes<=1048577->0<=puts->puts<=1->zDH m c (c.stepC s (zA1 (fullV c s)) takes puts holds []) s true (flo s) takes puts holds .nil :=
  fun takes puts holds g0' g1' g2' g3'=>zaF him hc hb true ht ⟨g0',g1'⟩ ⟨g2',g3'⟩ hgt.1
 have m1:∀t∈[k+1],0<=t:=fun t ht=>by rw[qAM]at ht;omega
 have m2:∀t∈[a,k+1],0<=t:=fun t ht=>by simp at ht;omega
 have ma:∀t∈[a],0<=t:=fun t ht=>by rw[qAM]at ht;omega
 unfold CK.doC
 dsimp only
 rw[hg]
 dsimp only
 by_cases c14:op=14
 ·subst c14
  rw[if_pos rfl]
  by_cases he:s.tries=[]
  ·rw[if_pos (by rw[he];rfl)]
   exact zdb m c hd he
  ·rw[if_neg (by cases hq:s.tries with|nil=>exact absurd hq he|cons x r=>simp)]
   have ht':TrOk (fullV c { s with tries:=s.tries.dropLast }):=⟨ht.pw.sublist (List.dropLast_sublist _),fun x hx=>ht.le x (qBb _ hx),ht.nn⟩
   have hf':zA1 (fullV c { s with tries:=s.tries.dropLast })<=s.height-0:=by
    cases hq:s.tries.dropLast.getLast? with
    |none =>have:zA1 (fullV c { s with tries:=s.tries.dropLast })=0:=by unfold zA1;show (s.tries.dropLast.getLast?).getD 0=0;rw[hq];rfl
            omega
    |some x=>rw[zEu (v:=fullV c { s with tries:=s.tries.dropLast }) (h:=x) hq];have:=(ht'.le x (qBc hq)).2;show x<=s.height-0;change x<=s.height at this;omega
   exact zez m c _ hd he (zTh him hc hb true m1 (by simp) hs ht' (.inr hf') (by omega) (by omega) ⟨hgt.1,by show s.tries.dropLast.length<=_;rw[qAy];omega⟩)
 rw[if_neg c14]
 by_cases c17:op=17
 ·subst c17
  rw[if_pos rfl]
  have hst:=hS 0 1 true [a] ma (by simp) (by omega) (by omega) (by omega) (by omega)
  have x2:CInv m (c.stepC s (zA1 (fullV c s)) 0 1 true [a]):=zN0 hc [a] ma hs ht (.inl (qBO _)) (by decide)
  obtain⟨y1,y2⟩:=zIK hb (s:=s) (fl:=zA1 (fullV c s)) (a:=0) (b:=1) (h:=true) (l:=[a]) (by omega) (by omega)
  exact zew m c _ _ hd hst (zVP him x2 y1 (by omega) _)
 rw[if_neg c17]
 by_cases c18:op=18
 ·subst c18
  rw[if_pos rfl]
  have hst:=hS b 1 true [k+1] m1 (by simp) b0 (by omega) (by omega) (by omega)
  have x2:CInv m (c.stepC s (zA1 (fullV c s)) b 1 true [k+1]):=zN0 hc [k+1] m1 hs ht (.inl (qBO _)) (by decide)
  obtain⟨y1,y2⟩:=zIK hb (s:=s) (fl:=zA1 (fullV c s)) (a:=b) (b:=1) (h:=true) (l:=[k+1]) (by omega) (by omega)
  exact zev m c _ _ hd hst (zbi him x2 y1 a0 ⟨b0,b1⟩)
 rw[if_neg c18]
 have hop:op=0\/op=1\/op=2\/op=3\/op=4\/op=5\/op=6\/op=7\/op=8\/op=9\/op=10\/op=11\/op=12\/op=13\/op=15\/op=16\/op=19\/op=20:=by omega
 rcases hop with rfl|rfl|rfl|rfl|rfl|rfl|rfl|rfl|rfl|rfl|rfl|rfl|rfl|rfl|rfl|rfl|rfl|rfl
 ·have e:eff conF m ⟨0,a,b⟩ (fullV c s)=⟨1,0, !decide ((fullV c s).of>=0)&&(fullV c s).tries.isEmpty,false,false⟩:=by simp[eff]
  rw[e,hof,hte,Bool.not_not]
  exact do_0 m c _ hd (hN 1 0 _ (by omega) (by omega) (by omega) (by omega))
 ·have e:eff conF m ⟨1,a,b⟩ (fullV c s)=⟨0,1,decide (a<m.pool.length),true,false⟩:=by simp[eff]
  rw[e]
  exact do_1 m c _ hd (hS 0 1 _ [k+1] m1 (by simp) (by omega) (by omega) (by omega) (by omega))
 ·have e:eff conF m ⟨2,a,b⟩ (fullV c s)=⟨0,1,decide (a<(fullV c s).height),true,false⟩:=by simp[eff]
  rw[e]
  exact do_2 m c _ hd (hS 0 1 _ [k+1] m1 (by simp) (by omega) (by omega) (by omega) (by omega))
 ·have e:eff conF m ⟨3,a,b⟩ (fullV c s)=⟨0,1,decide ((fullV c s).of>=0)&&decide (a<(fullV c s).has),true,false⟩:=by simp[eff]
  have e2:(decide ((fullV c s).of>=0)&&decide (a<(fullV c s).has))=(!decide (s.of = -1)&&decide (a<getI c.has s.of-1)):=by
   rw[hof]
   by_cases h:s.of = -1
   ·rw[decide_eq_true h];rfl
   ·show (_&&decide (a<if s.of = -1 then 0 else getI c.has s.of-1))=_
    rw[if_neg h]
  rw[e,e2]
  have hgi:0<=getI c.has s.of/\getI c.has s.of<=2000000:=by
   have:=hb.has s.of
   by_cases h0:getI c.has s.of=0
   ·omega
   ·have:=hc.has _ h0;omega
  exact do_3 m c _ hd hgi (hS 0 1 _ [k+1] m1 (by simp) (by omega) (by omega) (by omega) (by omega))
 ·have e:eff conF m ⟨4,a,b⟩ (fullV c s)=⟨0,1,decide ((fullV c s).of>=0),true,false⟩:=by simp[eff]
  have e2:decide ((fullV c s).of>=0)=decide (s.of≠-1):=by rw[hof];by_cases h:s.of = -1 <;> simp[h]
  rw[e,e2]
  exact do_4 m c _ hd (hS 0 1 _ [k+1] m1 (by simp) (by omega) (by omega) (by omega) (by omega))
 ·have e:eff conF m ⟨5,a,b⟩ (fullV c s)=⟨a,0,true,true,false⟩:=by simp[eff]
  rw[e]
  exact do_5 m c _ hd (hS a 0 _ [k+1] m1 (by simp) (by omega) (by omega) (by omega) (by omega))
 ·have e:eff conF m ⟨6,a,b⟩ (fullV c s)=⟨a+1,1,true,true,false⟩:=by simp[eff]
  rw[e]
  exact do_6 m c _ hd (hS (a+1) 1 _ [k+1] m1 (by simp) (by omega) (by omega) (by omega) (by omega))
 ·have e:eff conF m ⟨7,a,b⟩ (fullV c s)=⟨2,1,true,true,false⟩:=by simp[eff]
  rw[e]
  exact do_7 m c _ hd (hS 2 1 _ [k+1] m1 (by simp) (by omega) (by omega) (by omega) (by omega))
 ·have e:eff conF m ⟨8,a,b⟩ (fullV c s)=⟨2,0,decide ((fullV c s).of>=0)&&(fullV c s).tries.isEmpty,false,false⟩:=by simp[eff]
  rw[e,hof,hte]
  exact do_8 m c _ hd (hN 2 0 _ (by omega) (by omega) (by omega) (by omega))
 ·have e:eff conF m ⟨9,a,b⟩ (fullV c s)=⟨1,0,decide ((fullV c s).of>=0)&&(fullV c s).tries.isEmpty,false,false⟩:=by simp[eff]
  rw[e,hof,hte]
  exact do_9 m c _ hd (hN 1 0 _ (by omega) (by omega) (by omega) (by omega))
 ·have e:eff conF m ⟨10,a,b⟩ (fullV c s)=⟨b,1,zGS conF m a&&decide (b<=8),true,false⟩:=by simp[eff]
  rw[e]
  exact ze3 m c _ hd (zY6 m c a a0) (hS b 1 _ [k+1] m1 (by simp) (by omega) (by omega) (by omega) (by omega))
 ·have e:eff conF m ⟨11,a,b⟩ (fullV c s)=⟨1,1,decide (a<=7),true,false⟩:=by simp[eff]
  have e2:decide (a<=7)=decide (a<8):=decide_eq_decide.2 (by omega)
  rw[e,e2]
  exact ze2 m c _ hd (hS 1 1 _ [k+1] m1 (by simp) (by omega) (by omega) (by omega) (by omega))
 ·have e:eff conF m ⟨12,a,b⟩ (fullV c s)=⟨takes a,1,decide (a<=13),true,false⟩:=by simp[eff]
  have e2:decide (a<=13)=decide (takes a>0):=decide_eq_decide.2 (by unfold takes;split <;> (try split) <;> omega)
  have e3:0<=takes a/\takes a<=2:=by unfold takes;split <;> (try split) <;> omega
  rw[e,e2]
  exact ze1 m c _ hd (hS (takes a) 1 _ [k+1] m1 (by simp) (by omega) (by omega) (by omega) (by omega))
 ·have e:eff conF m ⟨13,a,b⟩ (fullV c s)=⟨1,0,true,false,false⟩:=by simp[eff]
  rw[e]
  exact ze0 m c _ hd (hN 1 0 _ (by omega) (by omega) (by omega) (by omega))
 ·have e:eff conF m ⟨15,a,b⟩ (fullV c s)=⟨0,0,true,false,true⟩:=by simp[eff]
  rw[e]
  exact zey m c _ hd (hS 0 0 _ [a] ma (by simp) (by omega) (by omega) (by omega) (by omega))
 ·have e:eff conF m ⟨16,a,b⟩ (fullV c s)=⟨1,0,true,true,true⟩:=by simp[eff]
  rw[e]
  exact zex m c _ hd (hS 1 0 _ [a,k+1] m2 (by simp) (by omega) (by omega) (by omega) (by omega))
 ·have e:eff conF m ⟨19,a,b⟩ (fullV c s)=⟨0,0,decide ((fullV c s).height>=1)&&zGS conF m b,true,true⟩:=by simp[eff]
  have e2:decide ((fullV c s).height>=1)=decide (s.height>0):=decide_eq_decide.2 (by show s.height>=1↔_;omega)
  rw[e,e2]
  exact zeu m c _ hd (zY6 m c b b0) (hS 0 0 _ [a,k+1] m2 (by simp) (by omega) (by omega) (by omega) (by omega))
 ·have e:eff conF m ⟨20,a,b⟩ (fullV c s)=⟨0,0,decide ((fullV c s).height>=1)&&zIb m b,true,true⟩:=by simp[eff]
  have e2:decide ((fullV c s).height>=1)=decide (s.height>0):=decide_eq_decide.2 (by show s.height>=1↔_;omega)
  rw[e,e2]
  exact zet m c _ hd (zdE m c b b0) (hS 0 0 _ [a,k+1] m2 (by simp) (by omega) (by omega) (by omega) (by omega))

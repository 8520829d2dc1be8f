/- Parts of the proof. -/
import Derived.OpenShut
import Derived.LaidMore
import Derived.Lay
import Derived.Stop.Joined
import Derived.Stop.LaidErr
import Derived.Shelf.Vars
import Derived.Lib.LaidTab
import Derived.Test.YtcagoomibpcdlaaGreatDoorMBC
set_option maxHeartbeats 16000000
namespace Go.Proofs.YtcagoomibpcdlaaGreatDoor
open _root_.Go.Proofs.Tryz
open Go.Sx Go.Vm
def zCm(m:Img): D:=.agg [.slice (m.pool.map enCn),.slice (m.code.map enIn)]
def zRC(fin:Int)(vs:List Nn)(num:Int)(out:List (List UInt8))(steps:Int): D:=.agg [i64 fin,.slice (vs.map nnD),i64 num,.slice (out.map str),i64 steps]
abbrev zWy: D:=zRC 0 [] 0 [] 0
attribute [local irreducible] zAO Program.underlying Ylds zBE alex zB0 zBk awp zAg zB9 zB8 zAU zBj zA6 zDJ zBl zBn zBC zBq zBz zB7 zDQ zBm zBc zBe
theorem zYT(m:Img)(words fuel e:Int)(he:e≠0)(hV:zAg prog 18 [zCm m] (i64 e)): zAg prog 10 [zCm m,i64 words,i64 fuel] (.tup [zWy,i64 e]):=by
 refine zDU func10 rfl ntmps10 results10 rfl ?_
 intro wb St0
 unfold zCm at *
 repeat' first|apply en_n|apply zAG|apply zAA|apply zAD|apply w0|(refine zBQ ?_)|(refine zBp ?_)|(refine RV_c rfl rfl zCd rfl rfl ?_ ?_)|(refine RV_d rfl ?_ ?_)|exact zCh|(with_reducible exact rfl)|(refine zBr (cs:=[i64 0,.slice [],i64 0,.slice [],i64 0]) zNI zFd zCi rfl)|refine zAj rfl rfl rfl zCd rfl rfl rfl rfl ?_|exact zGh rfl rfl|(refine zAd zD0 hV (CoLA rfl))|refine aBox (hd:=rfl) (hro:=rfl) rfl rfl ?_|(apply zDv (hd:=rfl) (hro:=rfl);(with_reducible exact zFd))|apply ay (hd:=rfl)|exact zAF rfl|exact zAB rfl|exact zBA rfl zCt rfl rfl rfl|(refine w0' ?_)|refine zAI rfl ?_|apply zAQ|apply en_r
 all_goals rfl
theorem zVT(m:Img)(words fuel:Int)(hw:words<16\/1048576<words)(hV:zAg prog 18 [zCm m] (i64 0)): zAg prog 10 [zCm m,i64 words,i64 fuel] (.tup [zWy,i64 200]):=by
 have hN:=zYX words hw
 refine zDU func10 rfl ntmps10 results10 rfl ?_
 intro wb St0
 unfold zCm at *
 repeat' first|apply en_n|apply zAG|apply zAA|apply zAD|apply w0|(refine zBQ ?_)|(refine zBp ?_)|(refine RV_c rfl rfl zCd rfl rfl ?_ ?_)|(refine RV_d rfl ?_ ?_)|exact zCh|(with_reducible exact rfl)|(refine zBr (cs:=[i64 0,.slice [],i64 0,.slice [],i64 0]) zNI zFd zCi rfl)|refine zAj rfl rfl rfl zCd rfl rfl rfl rfl ?_|exact zGh rfl rfl|exact zGi rfl rfl|(refine zAd zD0 hV (CoLA rfl))|(refine zAd zHY hN (CoLA rfl))|refine aBox (hd:=rfl) (hro:=rfl) rfl rfl ?_|(apply zDv (hd:=rfl) (hro:=rfl);(with_reducible exact zFd))|apply ay (hd:=rfl)|exact zAF rfl|exact zAB rfl|exact zAk rfl rfl|exact zBA rfl zCt rfl rfl rfl|(refine w0' ?_)|refine zAI rfl ?_|refine zAJ rfl ?_|apply zAR|apply zAQ|apply en_r
 all_goals rfl
theorem zVU(m:Img)(words:Nat)(fuel:Int)(hw:16<=words/\words<=1048576)(hf:fuel<0)(hV:zAg prog 18 [zCm m] (i64 0)): zAg prog 10 [zCm m,i64 (words:Int),i64 fuel] (.tup [zWy,i64 210]):=by
 have hN:=zWC words hw
 refine zDU func10 rfl ntmps10 results10 rfl ?_
 intro wb St0
 unfold zCm at *
 repeat' first|apply en_n|apply zAG|apply zAA|apply zAD|apply w0|(refine zBQ ?_)|(refine zBp ?_)|(refine RV_c rfl rfl zCd rfl rfl ?_ ?_)|(refine RV_d rfl ?_ ?_)|exact zCh|(with_reducible exact rfl)|(refine zBr (cs:=[i64 0,.slice [],i64 0,.slice [],i64 0]) zNI zFd zCi rfl)|refine zAj rfl rfl rfl zCd rfl rfl rfl rfl ?_|exact zKG rfl|exact zV8 rfl|exact zV7 rfl|exact zCf rfl rfl|exact zGi rfl rfl|refine k0u (hd:=rfl) rfl rfl ?_|(refine zAd zD0 hV (CoLA rfl))|(refine zPH [] zHY hN (SArgs_all rfl) rfl rfl (by decide) rfl rfl rfl rfl rfl rfl ?_)|refine aBox (hd:=rfl) (hro:=rfl) rfl rfl ?_|(apply zDv (hd:=rfl) (hro:=rfl);(with_reducible exact zFd))|apply ay (hd:=rfl)|exact zAF rfl|exact zAB rfl|exact zAZ rfl rfl|exact zFc rfl|exact zBA rfl zCt rfl rfl rfl|(refine w0' ?_)|refine zAI rfl ?_|refine zAJ rfl ?_|apply zAR|apply zAQ|apply en_r
 all_goals rfl
end Go.Proofs.YtcagoomibpcdlaaGreatDoor
namespace Go.Proofs.YtcagoomibpcdlaaGreatDoor
open _root_.Go.Proofs.Tryz
open Go.ChangeShapes Go.WideShapes Go.ChangeAt Go.RowKit Go.Deep Go.Sx Go.Vm
theorem zQn: prog.underlying 22=some (.slice 43):=by kernel_rfl
theorem zTf: prog.underlying 43=some (.struct #[⟨"IsText",4,0,false, "", "",0⟩,⟨"Num",2,1,false, "", "",8⟩,⟨"Text",9,2,false, "", "",16⟩]):=by kernel_rfl
theorem zU6: prog.cellsOf 43=3:=by kernel_rfl
theorem zRu: oneCellFields prog #[⟨"IsText",4,0,false, "", "",0⟩,⟨"Num",2,1,false, "", "",8⟩,⟨"Text",9,2,false, "", "",16⟩]=true:=by kernel_rfl
theorem zWb: prog.underlying 23=some (.slice 46):=by kernel_rfl
theorem zYi: prog.underlying 46=some (.struct #[⟨"Op",44,0,false, "", "",0⟩,⟨"A",3,1,false, "", "",8⟩,⟨"B",3,2,false, "", "",16⟩]):=by kernel_rfl
theorem zaP: prog.underlying 44=some (.int .i64):=by kernel_rfl
theorem zWc: prog.underlying 4=some .bool:=by kernel_rfl
theorem zZs: prog.cellsOf 46=3:=by kernel_rfl
theorem zXJ: oneCellFields prog #[⟨"Op",44,0,false, "", "",0⟩,⟨"A",3,1,false, "", "",8⟩,⟨"B",3,2,false, "", "",16⟩]=true:=by kernel_rfl
theorem zVd: prog.underlying 25=some (.struct #[⟨"Pool",22,0,false, "", "",0⟩,⟨"Code",23,1,false, "", "",24⟩]):=by kernel_rfl
theorem zSU: prog.cellsOf 22=1:=by kernel_rfl
theorem zX5: prog.cellsOf 23=1:=by kernel_rfl
theorem zZt: prog.cellsOf 25=2:=by kernel_rfl
set_option maxRecDepth 100000 in
theorem zSS{H:Type}{enc:TypeId×Value->H}{W:World}{fuel:Nat}{cs:List Value}{x:DataW H×List MemPlace}(h:DataW.trod enc prog W 0 (fun _=>true) true fuel 22 cs=some x):
  ∃(v:Value) (E:List Cn),cs=[v]/\v.oneCell'=true/\RepD (big W) W v (.slice (E.map enCn)):=by
 rcases zJh zQn zTf zRu zU6 h with h0|⟨a,len,cap,hcs,hl,hm,hi⟩
 ·exact⟨_,[],h0,rfl,zRL⟩
 ·obtain⟨E,hL,hq⟩:=zGI (Q:=fun i (s:Cn)=>W.cell? (a.add (i*3+0))=some (.bool s.isText)/\W.cell? (a.add (i*3+1))=some (.int .i64 s.num)/\W.cell? (a.add (i*3+2))=some (.string ⟨s.text.toArray⟩)) len (fun i hil=>by
   obtain⟨n,hf⟩:=hi i hil
   obtain⟨u0,y0,c0,t0⟩:=hf 0 _ rfl
   obtain⟨u1,y1,c1,t1⟩:=hf 1 _ rfl
   obtain⟨u2,y2,c2,t2⟩:=hf 2 _ rfl
   obtain⟨b,e0,_⟩:=DataW.trod_bool zWc t0
   obtain⟨z,e1,_,_⟩:=DataW.trod_int zYj t1
   obtain⟨s,e2,_,_⟩:=DataW.trod_string zYh t2
   injection e0 with e0;injection e1 with e1;injection e2 with e2
   subst e0;subst e1;subst e2
   exact⟨⟨b,z,s.data.toList⟩,c0,c1,c2⟩)
  refine⟨_,E,hcs,rfl,zL8 (sz:=3) (by rw[qAC,hL]) hl hm (zFE fun _=>rfl) (by decide) fun i d hd o c hc=>?_⟩
  rw[qAL]at hd
  cases hn:E[i]? with
  |none=>rw[hn]at hd;cases hd
  |some s =>
   rw[hn]at hd;injection hd with hd;subst hd
   obtain⟨h1,h2,h3⟩:=hq i s hn
   match o,hc with
   |0,hc=>injection hc with hc;subst hc;exact⟨_,h1,rfl,.val _⟩
   |1,hc=>injection hc with hc;subst hc;exact⟨_,h2,rfl,.val _⟩
   |2,hc=>injection hc with hc;subst hc;exact⟨_,h3,rfl,.val _⟩
   |o+3,hc=>exact absurd hc (by simp[enCn,D.flat])
set_option maxRecDepth 100000 in
theorem zXf{H:Type}{enc:TypeId×Value->H}{W:World}{fuel:Nat}{cs:List Value}{x:DataW H×List MemPlace}(h:DataW.trod enc prog W 0 (fun _=>true) true fuel 23 cs=some x):
  ∃(v:Value) (E:List Ins),cs=[v]/\v.oneCell'=true/\RepD (big W) W v (.slice (E.map enIn)):=by
 rcases zJh zWb zYi zXJ zZs h with h0|⟨a,len,cap,hcs,hl,hm,hi⟩
 ·exact⟨_,[],h0,rfl,zRL⟩
 ·obtain⟨E,hL,hq⟩:=zGI (Q:=fun i (s:Ins)=>W.cell? (a.add (i*3+0))=some (.int .i64 s.op)/\W.cell? (a.add (i*3+1))=some (.int .i64 s.a)/\W.cell? (a.add (i*3+2))=some (.int .i64 s.b)) len (fun i hil=>by
   obtain⟨n,hf⟩:=hi i hil
   obtain⟨u0,y0,c0,t0⟩:=hf 0 _ rfl
   obtain⟨u1,y1,c1,t1⟩:=hf 1 _ rfl
   obtain⟨u2,y2,c2,t2⟩:=hf 2 _ rfl
   obtain⟨z0,e0,_,_⟩:=DataW.trod_int zaP t0
   obtain⟨z1,e1,_,_⟩:=DataW.trod_int zVc t1
   obtain⟨z2,e2,_,_⟩:=DataW.trod_int zVc t2
   injection e0 with e0;injection e1 with e1;injection e2 with e2
   subst e0;subst e1;subst e2
   exact⟨⟨z0,z1,z2⟩,c0,c1,c2⟩)
  refine⟨_,E,hcs,rfl,zL8 (sz:=3) (by rw[qAC,hL]) hl hm (zFE fun _=>rfl) (by decide) fun i d hd o c hc=>?_⟩
  rw[qAL]at hd
  cases hn:E[i]? with
  |none=>rw[hn]at hd;cases hd
  |some s =>
   rw[hn]at hd;injection hd with hd;subst hd
   obtain⟨h1,h2,h3⟩:=hq i s hn
   match o,hc with
   |0,hc=>injection hc with hc;subst hc;exact⟨_,h1,rfl,.val _⟩
   |1,hc=>injection hc with hc;subst hc;exact⟨_,h2,rfl,.val _⟩
   |2,hc=>injection hc with hc;subst hc;exact⟨_,h3,rfl,.val _⟩
   |o+3,hc=>exact absurd hc (by simp[enIn,D.flat])
set_option maxRecDepth 100000 in
theorem zXg{H:Type}{enc:TypeId×Value->H}{W:World}{r:Reach}{b0:Nat}{v:Value}{d:DataW H}{p:List MemPlace}(hv:Value.okWide prog W r b0 25 v)(h:DataW.Trod enc prog W 0 (fun _=>true) true 25 v d p):
  ∃m,RepD (big W) W v (zCm m):=by
 obtain⟨cs,rfl,hsz⟩:=okWide_struct zVd hv
 obtain⟨fuel,hf⟩:=h
 obtain⟨y0,y1,n,hx,hl,h0,h1⟩:=trod_struct2 zVd hf
 rw[zZt]at hsz
 obtain⟨l⟩:=cs
 match l,hsz with
 |[u0,u1],_ =>
  obtain⟨v0,E0,e0,o0,r0⟩:=zSS h0
  obtain⟨v1,E1,e1,o1,r1⟩:=zXf h1
  have e0':u0=v0:=by rw[zSU]at e0;simpa[Value.cells]using e0
  have e1':u1=v1:=by rw[zX5]at e1;simpa[Value.cells]using e1
  subst e0';subst e1'
  refine⟨⟨E0,E1⟩,?_⟩
  refine RepD.agg (St:=big W) (w:=W) [u0,u1] [.slice (E0.map enCn),.slice (E1.map enIn)] rfl (fun u hu=>?_) (fun j u d hu hd=>?_)
  ·rcases qBE.1 hu with rfl|hu
   ·exact o0
   ·rw[qAO.1 hu];exact o1
  ·match j,hu,hd with
   |0,hu,hd=>injection hu with hu;injection hd with hd;subst hu;subst hd;exact r0
   |1,hu,hd=>injection hu with hu;injection hd with hd;subst hu;subst hd;exact r1
   |j+2,hu,_=>simp at hu
end Go.Proofs.YtcagoomibpcdlaaGreatDoor
namespace Go.Proofs.YtcagoomibpcdlaaGreatDoor
open _root_.Go.Proofs.Tryz
open Go.ChangeShapes Go.WideShapes Go.ChangeAt Go.RowKit Go.Deep Go.Sx
theorem Tryz.own: ownKnob prog.godebug=none:=by kernel_rfl
theorem Tryz.laidOut: laidOutB prog=true:=by kernel_rfl
section
variable {H:Type}{enc:TypeId×Value->H}
theorem zQc{a:Assume}{C:Checked}{os:Os}{f:FuncId}{fn:Func}{s:ChangeSpec}{conds:List PathCond}{apart fresh handsOn again:Bool}{X:World->Array Value->Prop}
  (hX:∀(w w':World) (args:Array Value),w.heap=w'.heap->X w args->X w' args)
  (own:ownKnob C.prog.godebug=none) (started:os.Started) (noInit:C.prog.inits.idxOf? f=none) (hfn:C.prog.funcs[f]?=some fn)
  (witness:∃(w:World) (tape:Tape) (i:Input),w.os=os/\(w.forCall tape i).Shaped C.prog/\i.vars=[]/\Input.okWide C.prog (w.forCall tape i) .any w.heap.size f i/\
   ((s.pre enc C.prog fn conds apart (w.forCall tape i).memory i.args/\X (w.forCall tape i).memory i.args)/\sizedMet enc C.prog fn (OpenSpec.ofChange s) apart (w.forCall tape i).memory i.args)/\a.holds C.prog (lone (Frame.enter C.prog f i.args .normal) [] (w.forCall tape i)))
  (contract:∀(W:World) (base:Nat) (args:Array Value) (ds gs:List (DataW H)) (before:List MemPlace),
   (∀(j:Nat) t v,fn.params[j]?=some t->args[j]?=some v->Value.okWide C.prog W .any base t v)->
   DataW.Whole enc C.prog fn.params.toList s.vars apart W args.toList ds gs before->X W args->W.ShapedOpen C.prog->
   Calls C.prog f args W fun e W'=>∃v,e=.returned v/\s.post enc C.prog fn apart fresh handsOn again W args v W') :
  ReturnsInHanded a C os f .any (fun w args=>(s.pre enc C.prog fn conds apart w args/\X w args)/\sizedMet enc C.prog fn (OpenSpec.ofChange s) apart w args) (s.post enc C.prog fn apart fresh handsOn again):=by
 refine returnsInHanded_of_calls own started noInit witness ?_
 intro w tape i _ hsh _ hok hpre _
 obtain⟨_,_,_,fn',hfn',_,_,_,_,hval⟩:=hok
 have e:fn'=fn:=qBB (hfn'.symm.trans hfn)
 subst e
 obtain⟨⟨⟨ds,gs,before,hw,_⟩,hx⟩,_⟩:=hpre
 have hw':=DataW.Whole.of_heap (w':=w.forCall tape i) (by rfl) hw
 refine(contract (w.forCall tape i) w.heap.size i.args ds gs before hval hw' (hX _ _ _ (by rfl) hx) hsh).mono fun e W' ⟨v,he,hp⟩=>?_
 subst he
 exact ChangeSpec.post_blind hp
end
theorem zJS{P:Program}{W:World}{n:String}{g:Nat}{cs:Array Value}(hg:P.globalNamed n=some g)(hv:W.var? P n=some cs): ∃e t,W.heap[g]?=some (.cells cs e t):=by
 simp only[World.var?,hg,Option.bind_some]at hv
 split at hv
 ·rename_i h;injection hv with hv;subst hv;exact⟨_,_,h⟩
 ·cases hv
def zJT: List (String×DataW Unit):=Rows.vmFuelsRow.laid
theorem zXv{W:World}(hsh:W.ShapedOpen prog)(hL:laidMetH prog zJT W): Glob (big W) W:=by
 rw[MakeChecks.laidMetH_plain _ _ _ (by kernel_rfl)]at hL
 have h2:=laidMet.tail (laidMet.tail hL)
 have e2:(Rows.laid_internal_strconv_uint64pow10:DataW Unit)=Lib.tabData .u64 Lib.pow10Tab:=by kernel_rfl
 rw[e2]at h2
 have ht:=Lib.tabIs_of_head (g:=4) (t:=245) (e:=57) (n:=20) (by kernel_rfl) (by kernel_rfl) (by kernel_rfl) (by kernel_rfl) (by kernel_rfl) (by kernel_rfl) h2
 have h4:=laidMet.tail (laidMet.tail h2)
 have e4:(Rows.laid_triglyph_op_numbers:DataW Unit)=Lib.tabData .i64 opNums:=by kernel_rfl
 rw[e4]at h4
 have hn:=Lib.tabIs_of_head (g:=0) (t:=223) (e:=3) (n:=21) (by kernel_rfl) (by kernel_rfl) (by kernel_rfl) (by kernel_rfl) (by kernel_rfl) (by kernel_rfl) h4
 have h6:=laidMet.tail (laidMet.tail h4)
 have e6:(Rows.laid_strings_asciiSpace:DataW Unit)=Lib.tabData .u8 Lib.asciiSpaceTab:=by kernel_rfl
 rw[e6]at h6
 have hs:=Lib.tabIs_of_head (g:=7) (t:=240) (e:=5) (n:=256) (by kernel_rfl) (by kernel_rfl) (by kernel_rfl) (by kernel_rfl) (by kernel_rfl) (by kernel_rfl) h6
 obtain⟨cs8,hh8,_,_⟩:=hsh.1 9 #[.pointer none] 264 (of_decide_eq_true (by kernel_rfl)) (by kernel_rfl)
 have hsz:9<W.heap.size:=(qAr.1 hh8).1
 obtain⟨m,hm⟩:=cell_of_shapedOpen_int (P:=prog) (g:=1) (t:=3) (zero:=#[.int .i64 0]) hsh (of_decide_eq_true (by kernel_rfl)) (by kernel_rfl) rfl (by kernel_rfl) (by kernel_rfl) uint
 obtain⟨cs0,hh,hc0,_⟩:=hsh.1 1 #[.int .i64 0] 3 (of_decide_eq_true (by kernel_rfl)) (by kernel_rfl)
 have hc:cs0 = #[.int .i64 m]:=by
  obtain⟨l⟩:=cs0
  match l,hc0 with
  |[c],_ =>
   simp[World.cell?,hh]at hm
   rw[hm]
 subst hc
 obtain⟨e9,t9,h9⟩:=zJS (g:=0) (by kernel_rfl) hn
 obtain⟨csN,hhN,_,_⟩:=hsh.1 0 (Array.replicate 21 (.int .i64 0)) 223 (of_decide_eq_true (by kernel_rfl)) (by kernel_rfl)
 have hN:=h9.symm.trans hhN
 injection hN with hN;injection hN with hN1 hN2 hN3
 subst hN1;subst hN2;subst hN3
 exact⟨⟨fun k hk o=>qAW hk hsz,_,h9⟩,⟨m,_,_,hh⟩,zJS (by kernel_rfl) ht,zJS (by kernel_rfl) hs⟩
end Go.Proofs.YtcagoomibpcdlaaGreatDoor
namespace Go.Proofs.YtcagoomibpcdlaaGreatDoor
open _root_.Go.Proofs.Tryz
open Go.Sx Go.Vm
section
variable {P:Program}{η:List Ob}{σ:Sl}{dst:Option Nat}{ty:TypeId}{pos:String}{after:Array Edge}{gd:Option (Nat×Bool)}{t:TypeId}{x y:Operand}{yt:TypeId}
theorem zPJ{xs:List D}(hx:oval σ x=.d (.slice xs))(hy:oval σ y=.nil)(hu:(zBd P t).isSome=true): Ylds P η σ ⟨dst,.binOp .eql t x y yt,ty,pos,after,gd⟩ (.p isB):=by
 obtain⟨e,he⟩:=qA4.1 hu
 refine Ylds.same fun g w a hi h=>?_
 have h1:=h x (by simp[Op.operands]);rw[hx]at h1
 have h2:=h y (by simp[Op.operands]);rw[hy]at h2
 change RepD _ _ _ _ at h1
 change _=_ at h2
 generalize hv:a.eval x=v at h1
 cases h1 with
 |slice ad len cap sz _ us hlen hcap hm hsz hus hone hcell =>
  obtain⟨b,hb,_⟩:=zJY (P:=P) (x:=x) (y:=y) w he ad len cap
  refine⟨.bool b,?_,b,rfl⟩
  simp only[Sem.run_bind]at hb
  simp only[execOp,hv,h2,Sem.run_bind,hb,Result.andThen_ok,Sem.run_pure]
end
attribute [local irreducible] zAO Program.underlying Ylds zBE alex zB0 zBk awp zAg zB9 zB8 zAU zBj zA6 zDJ zBl zBn zBC zBq zBz zB7 zDQ zBm zBc zBe JFit
theorem zNE(l:List Int)(hl:l.length<=2000000): zAg prog 123 [zBW l] (zBW l):=by
 refine zAr func123 rfl ntmps123 results123 rfl ?_
 intro wb St0
 by_cases hne:l=[]
 ·subst hne
  repeat' first|apply en_n|apply zAG|apply zAA|apply zAD|apply w0|(refine zPJ rfl rfl zCP)|(refine zKB rfl ?_ ?_)|(apply zNz (hd:=rfl) (hro:=rfl);(with_reducible exact zA0);(with_reducible exact zA5);(with_reducible exact zCL);exact rfl)|(apply aApp (hd:=rfl) (hro:=rfl);exact rfl;exact rfl;(first|exact zCQ rfl|exact zCp rfl rfl rfl|exact Co_nn rfl);(first|exact rfl|(simp;done));exact rfl;(with_reducible exact zA0);(with_reducible exact zA5);(with_reducible exact zHD);(with_reducible exact zFl);(first|exact zFE (fun _=>rfl)|exact zDS rfl))|apply ay (hd:=rfl)|exact zAF rfl|exact zBN rfl|exact zAp rfl|apply zAR|apply zAQ|apply en_r|apply zAT|refine zaf rfl ?_|(apply zag;exact rfl;exact rfl;(first|exact rfl|(simp;done)))
  ·rfl
  ·exact⟨by decide,by decide⟩
  ·rfl
 ·skip
  repeat' first|apply en_n|apply zAG|apply zAA|apply zAD|apply w0|(apply zPK;exact rfl;exact rfl;exact(by simpa using hne);with_reducible exact zCP)|(apply zNz (hd:=rfl) (hro:=rfl);(with_reducible exact zA0);(with_reducible exact zA5);(with_reducible exact zCL);exact rfl)|(apply aApp (hd:=rfl) (hro:=rfl);exact rfl;exact rfl;(first|exact zCQ rfl|exact zCp rfl rfl rfl|exact Co_nn rfl);(first|exact rfl|(simp;done));exact rfl;(with_reducible exact zA0);(with_reducible exact zA5);(with_reducible exact zHD);(with_reducible exact zFl);(first|exact zFE (fun _=>rfl)|exact zDS rfl))|apply ay (hd:=rfl)|exact zAF rfl|exact zBN rfl|exact zAp rfl|refine zAJ rfl ?_|apply zAR|apply zAQ|apply zAT
  ·simp only[qAC];omega
  ·exact⟨_,_,_,rfl,by simp,by rw[qAi (by simp)];rfl⟩
theorem CloneI_row(l:List Int)(hl:l.length<=2000000): zDJ prog 123 [.d (zBW l)] [] l.length 3 1 (l.map ival):=by
 refine zOw func123 rfl ntmps123 results123 rfl ?_
 intro wb St0
 by_cases hne:l=[]
 ·subst hne
  repeat' first|apply en_n|apply zAG|apply zAA|apply zAD|apply w0|(refine zPJ rfl rfl zCP)|(refine zKB rfl ?_ ?_)|(apply zNz (hd:=rfl) (hro:=rfl);exact zA0;exact zA5;exact zCL;exact rfl;refine zH7 0 rfl ?_)|(apply aApp (hd:=rfl) (hro:=rfl);exact rfl;exact rfl;(first|exact zCQ rfl|exact zCp rfl rfl rfl|exact Co_nn rfl);(first|exact rfl|(simp;done));exact rfl;(with_reducible exact zA0);(with_reducible exact zA5);(with_reducible exact zHD);(with_reducible exact zFl);(first|exact zFE (fun _=>rfl)|exact zDS rfl))|apply ay (hd:=rfl)|exact zAF rfl|exact zBN rfl|exact zAp rfl|apply zAR|apply zAQ|apply en_r
  ·exact zFy ⟨_,rfl,.inl ⟨rfl,rfl,rfl⟩⟩
  ·exact⟨by decide,by decide⟩
  ·exact zFy ⟨_,rfl,.inr ⟨0,rfl,rfl,rfl⟩⟩
 ·skip
  repeat' first|apply en_n|apply zAG|apply zAA|apply zAD|apply w0|(apply zPK;exact rfl;exact rfl;exact(by simpa using hne);with_reducible exact zCP)|(apply zNz (hd:=rfl) (hro:=rfl);exact zA0;exact zA5;exact zCL;exact rfl;refine zH7 0 rfl ?_)|(apply aApp (hd:=rfl) (hro:=rfl);exact rfl;exact rfl;(first|exact zCQ rfl|exact zCp rfl rfl rfl|exact Co_nn rfl);(first|exact rfl|(simp;done));exact rfl;(with_reducible exact zA0);(with_reducible exact zA5);(with_reducible exact zHD);(with_reducible exact zFl);(first|exact zFE (fun _=>rfl)|exact zDS rfl))|apply ay (hd:=rfl)|exact zAF rfl|exact zBN rfl|exact zAp rfl|refine zAJ rfl ?_|apply zAR|apply zAQ
  ·rw[qAC];omega
  ·exact zFy ⟨_,rfl,.inr ⟨0,rfl,(by show SV.buf 0 (0+(l.map ival).length)=_;rw[qAC,qAU]),rfl⟩⟩
end Go.Proofs.YtcagoomibpcdlaaGreatDoor

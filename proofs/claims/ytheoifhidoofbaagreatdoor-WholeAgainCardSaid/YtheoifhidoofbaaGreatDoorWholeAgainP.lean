/-
  The law crucibletop.WholeAgain: whatever the input, the call gives back true and leaves its arguments as they were. Condition: the package variable 'crucible/script.bounds' holds what the program's text lays there; the card ties that to the text.
-/
import Derived.Test.YtheoifhidoofbaaGreatDoorTie
import Derived.Test.YtheoifhidoofbaaGreatDoorCards
import Derived.WalkKit
import Derived.ProofKit
import Derived.LaidMore
import Derived.Carry
import Derived.Stop.Joined
import Derived.Test.YtheoifhidoofbaaGreatDoorM12
namespace Go.Proofs.YtheoifhidoofbaaGreatDoor.wholeAgain
open Go.ChangeShapes Go.WideShapes Go.ChangeAt Go.RowKit
theorem own:ownKnob Tryz.prog.godebug=none:=by kernel_rfl
theorem laidOut:laidOutB Tryz.prog=true:=by kernel_rfl
theorem gB:Tryz.prog.globalNamed (Rows.wholeAgainRow.named.getD 0 default)=some 0:=by kernel_rfl
theorem tB:(Tryz.prog.globals[0]?).map (·.type)=some 182:=by kernel_rfl
set_option maxRecDepth 1000000
def lds:List (String×DataW Unit):=[(Rows.wholeAgainRow.named.getD 0 default,Rows.laid_crucible_script_bounds)]
theorem dm0:(lds.filter fun x=>x.2.handleName?.isNone)=lds:=by kernel_rfl
noncomputable def dw(os:Os)(args:Array Value):World:=((World.doorLaid Tryz.prog 400 os).forCall (fun _ _=>0) ⟨#[],args,[]⟩).memory
theorem dm1(os:Os)(args:Array Value):(DataW.laidRun Tryz.prog (dw os args) 8 (lds.map (·.1))).map (·.1)=some lds:=by kernel_rfl
theorem dm2(os:Os)(args:Array Value):(DataW.laidRun Tryz.prog (dw os args) 8 (lds.map (·.1))).map (fun x=>decide x.2.Nodup && laidRowsB Tryz.prog (dw os args) x.2)=some true:=by kernel_rfl
theorem dm3(os:Os)(args:Array Value):laidMet Tryz.prog lds (dw os args):=laidMet_of_run' 8 (dm1 os args) (dm2 os args)
theorem dm4(os:Os)(args:Array Value):(lds.filter fun x=>x.2.handleName?.isSome && x.2.funcsIn?.isNone).all (handleAtB Tryz.prog (dw os args))=true:=by kernel_rfl
theorem dm5(os:Os)(args:Array Value):funcsRun Tryz.prog (dw os args) 8 ((funcsListed lds).map (·.1))=some ((funcsListed lds).map (·.2.funcsOut)):=by kernel_rfl
theorem door_met(os:Os)(args:Array Value):laidMetH Tryz.prog lds ((World.doorLaid Tryz.prog 400 os).forCall (fun _ _=>0) ⟨#[],args,[]⟩).memory:=
 laidMetH_of_parts3 (w:=dw os args) (fuel:=8) (dm0.symm▸dm3 os args) (dm4 os args) (dm5 os args)
section
variable {H:Type}{enc:TypeId×Value→H}{W:World}{base:Nat}{spare:Nat→Bool}{held:Bool}{fuel:Nat}
theorem pair_at {cs:List Value} {p:List MemPlace} {a b:Int} (h:DataW.trod enc Tryz.prog W base spare held fuel 181 cs=some (.agg [.lit (.int .i64 a),.lit (.int .i64 b)],p)):cs=[.int .i64 a,.int .i64 b]:=by
 obtain⟨xs,m,_,hx,hl,hn,hel⟩:=DataW.trod_array Tryz.underlying181 h
 rw[show Tryz.prog.cellsOf 181=2 by kernel_rfl]at hl
 match cs,hl,xs,hn with
 |[c0,c1],_,[x0,x1],_=>
  have h0:=hel 0 (by decide)
  have h1:=hel 1 (by decide)
  rw[show Tryz.prog.cellsOf 3=1 by kernel_rfl]at h0 h1
  obtain⟨k0,e0,g0,_⟩:=DataW.trod_int Tryz.underlying3 (show DataW.trod enc Tryz.prog W base spare held m 3 [c0]=some x0 from h0)
  obtain⟨k1,e1,g1,_⟩:=DataW.trod_int Tryz.underlying3 (show DataW.trod enc Tryz.prog W base spare held m 3 [c1]=some x1 from h1)
  cases e0;cases e1
  subst g0 g1
  simp only[Prod.mk.injEq,List.map_cons,List.map_nil,DataW.agg.injEq,List.cons.injEq,DataW.lit.injEq,Lit.int.injEq,true_and,and_true]at hx
  obtain⟨⟨rfl,rfl⟩,_⟩:=hx
  rfl
end
theorem of_laid {W:World} (h:laidMetH Tryz.prog lds W):Go.Cru.GLB (Go.Cru.allL W):=by
 rw[MakeChecks.laidMetH_plain _ _ _ (by kernel_rfl)]at h
 obtain⟨ps,⟨g0,t0,cs0,f0,p0,q0,hg0,ht0,hv0,hd0,_,_⟩,_,_⟩:=h
 obtain rfl:=Option.some.inj (gB.symm.trans hg0)
 obtain rfl:=Option.some.inj (tB.symm.trans ht0)
 obtain⟨xs,m,_,hx,hl,hn,hel⟩:=DataW.trod_array Tryz.underlying182 hd0
 rw[show Tryz.prog.cellsOf 182=18 by kernel_rfl]at hl
 have key:cs0.toList=Go.Cru.bndL.map (Value.int .i64):=by
  match xs,hn with
  |[x0,x1,x2,x3,x4,x5,x6,x7,x8],_=>
   simp only[Rows.laid_crucible_script_bounds,Prod.mk.injEq,List.map_cons,List.map_nil,DataW.agg.injEq,List.cons.injEq,and_true]at hx
   obtain⟨⟨e0,e1,e2,e3,e4,e5,e6,e7,e8⟩,_⟩:=hx
   rw[show Tryz.prog.cellsOf 181=2 by kernel_rfl]at hel
   have q0:=pair_at (p:=x0.2) ((hel 0 (by decide)).trans (by rw[e0];rfl))
   have q1:=pair_at (p:=x1.2) ((hel 1 (by decide)).trans (by rw[e1];rfl))
   have q2:=pair_at (p:=x2.2) ((hel 2 (by decide)).trans (by rw[e2];rfl))
   have q3:=pair_at (p:=x3.2) ((hel 3 (by decide)).trans (by rw[e3];rfl))
   have q4:=pair_at (p:=x4.2) ((hel 4 (by decide)).trans (by rw[e4];rfl))
   have q5:=pair_at (p:=x5.2) ((hel 5 (by decide)).trans (by rw[e5];rfl))
   have q6:=pair_at (p:=x6.2) ((hel 6 (by decide)).trans (by rw[e6];rfl))
   have q7:=pair_at (p:=x7.2) ((hel 7 (by decide)).trans (by rw[e7];rfl))
   have q8:=pair_at (p:=x8.2) ((hel 8 (by decide)).trans (by rw[e8];rfl))
   generalize cs0.toList=l at*
   match l,hl with
   |[c0,c1,c2,c3,c4,c5,c6,c7,c8,c9,c10,c11,c12,c13,c14,c15,c16,c17],_=>
    cases q0;cases q1;cases q2;cases q3;cases q4;cases q5;cases q6;cases q7;cases q8
    rfl
 intro i u hu
 rw[←key]at hu
 refine Go.Cru.PAt.all ?_
 rw[World.var?_cell hg0 hv0 i,←Array.getElem?_toList]
 exact hu
theorem walk (c:Go.Cru.CfM) (hs:c.seed<18446744073709551616) (a1:Option Addr) (c1:Nat) (ss:List Go.Cru.SpM) (scs:List Value) (node:Int) (a3:Option Addr) (c3:Nat) (zs:List Int) (W:World) (hG:Go.Cru.GLB (Go.Cru.allL W)) (hsl:ss.length≤maxLen) (hss:Go.Cru.Rws (Go.Cru.SpR (Go.Cru.allL W)) scs ss) (hps:Go.Cru.PSl (Go.Cru.allL W) (.slice a1 ss.length c1) ss.length scs) (hzl:zs.length≤maxLen) (hzs:Go.Cru.PSl (Go.Cru.allL W) (.slice a3 zs.length c3) zs.length (Go.Cru.iv zs)):
  Calls Tryz.prog 3 #[.agg (Go.Cru.cfv c).toArray,.slice a1 ss.length c1,.int .i64 node,.slice a3 zs.length c3] W fun e w'=>e= .returned (.bool true)∧Below W.heap.size W w':=
 Go.Cru.allL_law (Go.Cru.whole_spec (Go.Cru.allL W) hG c hs a1 c1 ss scs hsl hss (fun _ q=>Go.Cru.Reads.pool (hps.le q)) node a3 c3 zs hzl (fun _ q=>Go.Cru.Reads.pool (hzs.le q)))
theorem lifted (os:Os) (started:os.Started) (H:Type) (enc:TypeId×Value→H):
  ReturnsInHanded {} Tryz.checked os 3 .any (fun w args=>(Rows.wholeAgainSpec.pre enc Tryz.prog Tryz.f3 [] false w args∧laidMetH Tryz.prog lds w)∧sizedMet enc Tryz.prog Tryz.f3 (OpenSpec.ofChange Rows.wholeAgainSpec) false w args)
   (Rows.wholeAgainSpec.post enc Tryz.prog Tryz.f3 false true false false):=by
 refine returnsInHanded_of_change_and (C:=Tryz.checked) (X:=fun w _=>laidMetH Tryz.prog lds w) (fun _ _ _ hh h=>h.of_heap hh) own started (by kernel_rfl) Tryz.func3
  (ChangeSpec.witness_shaped (enc:=enc) (C:=Tryz.checked) (os:=os) (X:=fun w _=>laidMetH Tryz.prog lds w) false (World.doorLaid Tryz.prog 400 os) #[.agg #[.int .i64 0,.int .i64 0,.int .i64 0,.int .i64 0,.int .i64 0,.int .i64 0,.int .i64 0,.int .i64 0,.int .i64 0,.int .u64 0,.int .i64 0,.int .i64 0,.int .i64 0,.int .i64 0,.int .i64 0,.int .i64 0],.slice none 0 0,.int .i64 0,.slice none 0 0] 8 rfl (World.shaped_of_RefB (by kernel_rfl) (by kernel_rfl)) (by kernel_rfl) (by kernel_rfl) (by kernel_rfl) (door_met os _)) ?_
 intro W base args ds gs before hval0 hW _ _ hL _
 have hval:∀(j:Nat) t v,Tryz.f3.params[j]? =some t→args[j]? =some v→Value.okWide Tryz.prog W .any base t v:=hval0
 have hW':=hW
 obtain⟨p,q,hA0,hV,rfl,hfz,hnd⟩:=hW
 have hA:DataW.TrodAll enc Tryz.prog W 0 (fun _=>true) true Tryz.f3.params.toList args.toList ds p:=hA0
 rw[Tryz.params3]at hA hval
 obtain⟨v0,vs0,d0,ds0,p0,q0,hargs,rfl,rfl,h0,r0⟩:=trodAll_cons hA
 obtain⟨v1,vs1,d1,ds1,p1,q1,rfl,rfl,rfl,h1,r1⟩:=trodAll_cons r0
 obtain⟨v2,vs2,d2,ds2,p2,q2,rfl,rfl,rfl,h2,r2⟩:=trodAll_cons r1
 obtain⟨v3,vs3,d3,ds3,p3,q3,rfl,rfl,rfl,h3,r3⟩:=trodAll_cons r2
 obtain⟨rfl,rfl,rfl⟩:=trodAll_nil r3
 obtain rfl:args= #[v0,v1,v2,v3]:=by cases args;simp_all
 obtain⟨rfl,rfl⟩:=trodVars_none hV
 have k0:=h0
 have lt0:∀x∈p0,x.block<W.heap.size:=by obtain⟨m,hm⟩:=k0;exact DataW.trod_lt m _ _ _ hm
 have k1:=h1
 have lt1:∀x∈p1,x.block<W.heap.size:=by obtain⟨m,hm⟩:=k1;exact DataW.trod_lt m _ _ _ hm
 have k3:=h3
 have lt3:∀x∈p3,x.block<W.heap.size:=by obtain⟨m,hm⟩:=k3;exact DataW.trod_lt m _ _ _ hm
 obtain⟨c,rfl,hs⟩:=Go.Cru.open_conf (hval 0 26 v0 rfl rfl) h0
 obtain⟨a1,c1,ss,scs,rfl,hsl,hss,hps⟩:=Go.Cru.open_script (hval 1 27 v1 rfl rfl) h1
 obtain⟨node,rfl,rfl,rfl,w2⟩:=open_int Tryz.underlying3 (hval 2 3 v2 rfl rfl) h2
 obtain⟨a3,c3,zs,rfl,hzl,hzs⟩:=Go.Cru.open_nums (hval 3 28 v3 rfl rfl) h3
 clear hA0 hval0
 refine(walk c hs a1 c1 ss scs node a3 c3 zs W (of_laid hL) hsl hss hps hzl hzs).mono fun e W' ⟨he,bel⟩=>?_
 subst he
 exact⟨_,rfl,_,_,_,[],_,[],hW',trodAll_mk1 (shut_bool Tryz.underlying4 _),(trodAll_cons_mk (Below.trod laidOut (by kernel_rfl) (of_decide_eq_true (by kernel_rfl)) k0 bel lt0) (trodAll_cons_mk (Below.trod laidOut (by kernel_rfl) (of_decide_eq_true (by kernel_rfl)) k1 bel lt1) (trodAll_cons_mk (shut_int Tryz.underlying3 w2) (trodAll_cons_mk (Below.trod laidOut (by kernel_rfl) (of_decide_eq_true (by kernel_rfl)) k3 bel lt3) trodAll_mk0)))),rfl,bel.frame _,fun h=>by cases h⟩
theorem over:Rows.wholeAgainRow.holds Tryz.pinned (OpenSpec.ofChange Rows.wholeAgainSpec):=
 OpenClaim.holds_of_wide 3 Tryz.f3 rfl rfl rfl rfl rfl rfl rfl ⟨rfl,rfl,rfl,rfl,rfl⟩ rfl rfl rfl rfl rfl (by kernel_rfl) Tryz.func3 (by kernel_rfl)
  (of_decide_eq_true (by kernel_rfl)) (by unfold Func.isWrapper;first|(rw[if_pos (by decide+kernel)];kernel_rfl)|(rw[if_neg (by decide+kernel)];exact⟨rfl,rfl⟩))
  (fun os started H enc _=>lifted os started H enc)
theorem proved:Rows.WholeAgainCardSaid:=
 Claim7.holds_tied_plain_at .later [] [.data] true (true, "f5de587050f7f365e22c4d8c28004c7a79c4307401aed7bd7457a0c3086e9894") false
  over (fun _ h=>by cases h) (by kernel_rfl) (fun _ h=>by cases h) wholeAgain_row_tie rfl ⟨rfl,rfl⟩ (by kernel_rfl) rfl
  (fun f fn hf hfn=>by
   obtain rfl:f=3:=Option.some.inj ((show Tryz.prog.funcNamed Rows.wholeAgainRow.func=some 3 by kernel_rfl).symm.trans hf) |>.symm
   obtain rfl:fn=Tryz.f3:=(Option.some.inj (Tryz.func3.symm.trans hfn)).symm
   exact⟨by kernel_rfl,fun j t ht=>by
    rw[Tryz.params3]at ht
    have h3:t=26∨t=27∨t=3∨t=28:=by
     rcases j with _|_|_|_|j
     ·simpa using Or.inl ht.symm
     ·simpa using Or.inr (Or.inl ht.symm)
     ·simpa using Or.inr (Or.inr (Or.inl ht.symm))
     ·simpa using Or.inr (Or.inr (Or.inr ht.symm))
     ·simp at ht
    rcases h3 with rfl|rfl|rfl|rfl
    ·exact(show Tryz.prog.wantsStandIn 26=false by kernel_rfl)
    ·exact(show Tryz.prog.wantsStandIn 27=false by kernel_rfl)
    ·exact(show Tryz.prog.wantsStandIn 3=false by kernel_rfl)
    ·exact(show Tryz.prog.wantsStandIn 28=false by kernel_rfl)⟩)
  (by kernel_rfl)
#print axioms proved
end Go.Proofs.YtheoifhidoofbaaGreatDoor.wholeAgain

import Derived.Lib.Overlaps
import Derived.Lib.AppendZerosOnto
import Derived.Test.YtheoifhidoofbaaGreatDoorM05
set_option maxRecDepth 100000
set_option maxHeartbeats 2000000
namespace Go.Cru
open Go Go.Proofs
open Go.Proofs.Tryz renaming prog→P0
def CG.rdQ(c:CG)(i:Int):Bool:=decide (0<(c.reads i).length)
def CG.goA(c:CG)(i:Int)(q:Int->Bool):CG:={c with at_:=c.first i q}
def CG.go4(c:CG)(i:Int):CG:=let d:CG:={c with stage:=4};let e:=d.goA i d.conc;if e.at_<e.shards then e else {e with stage:=5}
def CG.go7(c:CG)(i:Int):CG:=let d:CG:={c with stage:=7};let e:=d.goA i d.conc;if e.at_<e.shards then e else {e with stage:=8}
def CG.go1(c:CG)(i:Int):CG:=let d:CG:={c with stage:=1};let e:=d.goA i d.rdQ;if e.at_<e.shards then e else if e.ops.any (fun o=>decide (o.kind=2))=true then e.go4 0 else {e with result:=2,stage:=8}
def CG.go(c:CG)(s i:Int):CG:=if s=1 then c.go1 i else if s=4 then c.go4 i else c.go7 i
def CG.failA(c:CG):CG:={c with result:=3,fin:=⟨c.id,false,0⟩,stage:=6}
def CG.fail(c:CG):CG:=if c.failA.shards<=c.failA.where_ then {c.failA with stage:=8}else c.failA
theorem Pc(q:Int->Bool):∀(k:Nat) (i:Int),i<=IG q k i/\IG q k i<=i+k
 |0,i=>⟨AK _,by show i<=i+0;omega⟩
 |k+1,i=>by
  obtain⟨h1,h2⟩:=Pc q k (i+1)
  unfold IG
  split
  ·exact⟨AK _,by omega⟩
  ·exact⟨by omega,by omega⟩
theorem Qbk{c:CG}(hf:c.Fit){i:Int}(h0:0<=i)(h1:i<=5)(q:Int->Bool):0<=c.first i q/\c.first i q<=5:=by
 have:=hf.shards
 obtain⟨h2,h3⟩:=Pc q (c.shards-i).toNat i
 unfold CG.first
 omega
theorem CG.Fit.goA{c:CG}(hf:c.Fit){i:Int}(h0:0<=i)(h1:i<=5)(q:Int->Bool):(c.goA i q).Fit:=⟨hf.ops,hf.key,hf.shards,hf.patience,Qbk hf h0 h1 q,hf.waited,hf.values⟩
theorem CG.Fit.st{c:CG}(hf:c.Fit)(s r:Int):CG.Fit {c with stage:=s,result:=r}:=⟨hf.ops,hf.key,hf.shards,hf.patience,hf.at_,hf.waited,hf.values⟩
theorem CG.go4_fit{c:CG}(hf:c.Fit){i:Int}(h0:0<=i)(h1:i<=5):(c.go4 i).Fit:=by
 have h:CG.Fit {c with stage:=4}:=hf.st 4 c.result
 unfold CG.go4
 simp only
 split
 ·exact h.goA h0 h1 _
 ·exact(h.goA h0 h1 _).st 5 _
theorem CG.go7_fit{c:CG}(hf:c.Fit){i:Int}(h0:0<=i)(h1:i<=5):(c.go7 i).Fit:=by
 have h:CG.Fit {c with stage:=7}:=hf.st 7 c.result
 unfold CG.go7
 simp only
 split
 ·exact h.goA h0 h1 _
 ·exact(h.goA h0 h1 _).st 8 _
theorem CG.go1_fit{c:CG}(hf:c.Fit){i:Int}(h0:0<=i)(h1:i<=5):(c.go1 i).Fit:=by
 have h:CG.Fit {c with stage:=1}:=hf.st 1 c.result
 unfold CG.go1
 simp only
 split
 ·exact h.goA h0 h1 _
 ·split
  ·exact CG.go4_fit (h.goA h0 h1 _) (AK 0) (by decide)
  ·exact(h.goA h0 h1 _).st 8 2
theorem MZ(id:Int)(ops:List Es)(b:Bool)(sh k:Int)(L:PL)(oa:A_)(oc:Nat)(ho:Dx L (.slice oa ops.length oc) Et ops)(hl:ops.length<=1048576):Sp P0 64 [Cs id,.slice oa ops.length oc,.bool b,Cs sh,Cs k] [pool L] fun v h=>∃p S L',Le L L'/\v= .pointer (some ⟨p,0,none⟩)/\h=[cm S (Ev p L' (CG.new id ops b sh k)),pool L']:=by
 refine Sq Tryz.func64 fun w0 b_=>?_
 refine OA 8 ?_
 refine Oc rfl (en 49) rfl (.p0 .d) (GX oa ops.length oc (ops.flatMap Et) _ ho.rd (Ft (g:=Et) (s:=3) (fun _=>rfl) _) (GH fun _=>rfl) (by omega)) ?_
 rintro _ _ ⟨i,j,rfl,rfl⟩
 refine OA 2 ?_
 refine O1 (Zq rfl rfl rfl) ?_
 refine O1 (Zo rfl rfl rfl) ?_
 refine O1 DC ?_
 refine O6 (YS gI) fun d=>?_
 refine O1 (Xb bt222.h) ?_
 refine O6 YR fun c=>?_
 refine OA 2 ?_
 refine Cx (Zg (.p0 (.p0 .d))) ?_
 rintro _ ⟨L2,e,f,rfl⟩
 refine Tx (YL (.p1 (.p0 .d)) (A:=Ev c L2 (CG.new id ops b sh k)) ⟨i,j,d,rfl,f⟩) fun l=>Tp (.t1 (.t0 .e)) ?_
 exact Cu (CB rfl rfl (.refl _) ⟨c,l,L2,e,rfl,rfl⟩)
theorem Yb(p b:Nat)(c:CG)(hf:c.Fit)(oa:A_)(oc d:Nat)(L:PL)(ho:Dx L (.slice oa c.ops.length oc) Et c.ops)(i:Int):Sp P0 253 [Cs i,Cr b] [Io p c oa oc d,pool L,blk b (.cells #[Cr p] 142 (0,0))] fun v h=>v= .bool (c.rdQ i)/\h=[Io p c oa oc d,pool L,blk b (.cells #[Cr p] 142 (0,0))]:=by
 refine Sq Tryz.func253 fun w0 b_=>?_
 refine OA 8 ?_
 refine Oc rfl (en 175) rfl (.p0 (.p0 .d)) (Fv p c hf oa oc d L ho i) ?_
 rintro _ _ ⟨e,f,rfl,rfl⟩
 refine OA 4 ?_
 refine Tp (.t1 (.t1 (.t0 .e))) ?_
 exact Cu (CB rfl (CT rfl (by unfold CG.rdQ;exact congrArg Value.bool (AN.2 (by omega)))) (.refl _) ⟨rfl,rfl⟩)
theorem XA(o:Es)(L:PL)(S:N_)(A:Mem->Prop):Sp P0 254 [gO o] [pool L,cm S A] fun v h=>v= .bool (decide (o.kind=2))/\∃b,h=[pool L,cm b A]:=by
 refine Sq Tryz.func254 fun w0 b_=>?_
 refine OA 2 ?_
 refine O6 YR fun b1=>?_
 refine OA 9 ?_
 exact Cu (CB rfl rfl (.cons_cons _ (.cons_cons _ (An _))) ⟨rfl,_,rfl⟩)
theorem LN(p:Nat)(S:N_)(L:PL)(c:CG)(hf:c.Fit):Sp P0 229 [Cr p] [cm S (Ev p L c),pool L] fun v h=>v= .tuple #[]/\∃i,h=[cm i (Ev p L c.fail),pool L]:=by
 have g:c.failA.Fit:=⟨hf.ops,hf.key,hf.shards,hf.patience,hf.at_,hf.waited,hf.values⟩
 refine Sq Tryz.func229 fun w0 b_=>?_
 refine Cx (Cv.op (.p0 .d)) ?_
 rintro _ ⟨_,⟨oa,oc,d,rfl,ho⟩,rfl⟩
 refine OA 23 ?_
 refine Ti (Cv.to [Io p c.failA oa oc d,pool L,Dm d gI c.values]) (Ts (Cw (.t .d) rfl (fun j=>false) ?_))
 intro k
 refine DA [0,2,3,4,5] ?_
 refine Da 1 ?_
 refine DB rfl rfl (en 176) rfl (.p0 (.p0 .d)) (JJ p c.failA g oa oc d L ho) ?_
 rintro _ _ ⟨rfl,rfl⟩
 refine ys (D1 6 rfl Xge ?_)
 refine D0 (Cy rfl (fun b=>?_) (fun b=>?_))
 ·rw[show c.fail= {c.failA with stage:=8} by unfold CG.fail;rw[Ah b]]
  refine OA 6 ?_
  refine Dk rfl (Cv.then (YL (.p1 (.p0 .d)) (A:=Ev p L {c.failA with stage:=8}) ⟨oa,oc,d,rfl,ho⟩) ?_)
  rintro _ ⟨f,rfl⟩
  exact Cv.then (YN (.t1 (.t0 .e))) fun _ e=>YM ⟨rfl,f,e⟩
 rw[show c.fail=c.failA by unfold CG.fail;rw[Aa b]]
 refine Tk (Dk rfl (Cv.then (YL (.p1 (.p0 .d)) (A:=Ev p L c.failA) ⟨oa,oc,d,rfl,ho⟩) ?_))
 rintro _ ⟨f,rfl⟩
 exact Cv.then (YN (.t1 (.t0 .e))) fun _ e=>YM ⟨rfl,f,e⟩
def CG.goQ(c:CG)(s:Int):Int->Bool:=if s=1 then ({c with stage:=s}:CG).rdQ else ({c with stage:=s}:CG).conc
def GoS(s:Int):Prop:=∀(p:Nat) (S:N_) (L:PL) (c:CG),c.Fit->∀i:Int,0<=i->i<=5->Sp P0 227 [Cr p,Cs s,Cs i] [cm S (Ev p L c),pool L] fun v h=>v= .tuple #[]/\∃b,h=[cm b (Ev p L (c.go s i)),pool L]
theorem MT(s:Int)(hs:s=1∨s=4∨s=7)(hr:s=1->GoS 4):GoS s:=by
 intro p S L c hf i h0 h5
 obtain⟨d,b⟩:∃d:CG,d= {c with stage:=s}:=⟨_,rfl⟩
 have hd:d.Fit:=b▸hf.st s c.result
 obtain⟨e,g⟩:∃e:CG,e=d.goA i (c.goQ s):=⟨_,rfl⟩
 have he:e.Fit:=g▸hd.goA h0 h5 _
 have hq:c.goQ s=if s=1 then d.rdQ else d.conc:=by rw[b];rfl
 have hgo:c.go s i=if e.at_<e.shards then e else if s=7 then {e with stage:=8}else if s=4 then {e with stage:=5}else if e.ops.any (fun o=>decide (o.kind=2))=true then e.go4 0 else {e with result:=2,stage:=8}:=by
  rcases hs with rfl|rfl|rfl
  ·rw[g,b];rfl
  ·rw[g,b];rfl
  ·rw[g,b];rfl
 rw[hgo]
 refine Sq Tryz.func227 fun w0 b_=>?_
 refine Cx (Cv.op (.p0 .d)) ?_
 rintro _ ⟨_,⟨oa,oc,f,rfl,ho⟩,rfl⟩
 have w:Dx L (.slice oa d.ops.length oc) Et d.ops:=by rw[b];exact ho
 have hv:c.values=e.values:=by rw[g,b];rfl
 have n:Dx L (.slice oa e.ops.length oc) Et e.ops:=by rw[g];exact w
 refine OA 2 ?_
 refine O6 YR fun b3=>?_
 refine OA 9 ?_
 refine Ti (Cv.to [Io p {c with stage:=s} oa oc f,pool L,blk b3 (.cells #[Cr p] 142 (0,0)),Dm f gI c.values]) ?_
 rw[<-b,hv]
 refine OA 3 ?_
 refine O1 (Qa2 (xs:=[.tmp 11]) (ys:=[]) (us:=[_]) (vs:=[]) rfl rfl rfl) ?_
 refine OA 8 ?_
 refine CP (fun(y:Value)=>(6,y)::[(0,Cr p),(1,Cs s),(2,Cs i),(3,Cr b3)]) (fun _=>[Io p d oa oc f,pool L,blk b3 (.cells #[Cr p] 142 (0,0)),Dm f gI e.values]) (fun y=>∀k,Cl P0 y [gI k] [Io p d oa oc f,pool L,blk b3 (.cells #[Cr p] 142 (0,0))] fun v h=>v= .bool (c.goQ s k)/\h=[Io p d oa oc f,pool L,blk b3 (.cells #[Cr p] 142 (0,0))]) ?_ ?_
 ·refine Cy rfl (fun q=>?_) (fun q=>?_)
  ·refine Tr (O1 (Qaa (ys:=[.tmp 3]) (vs:=[_]) rfl rfl) ?_)
   refine OA 2 ?_
   rw[Ah q]at hq
   exact⟨_,fun k=>⟨253,[],[_],rfl,(en 253),by rw[hq];exact Yb p b3 d hd oa oc f L w k⟩,Sb5,.refl _⟩
  refine Tk ?_
  rw[Aa q]at hq
  exact⟨_,fun k=>⟨213,[_],[],rfl,(en 213),by rw[hq];exact(Sp.frame (.p0 (.p0 .d)) (Pe p d hd oa oc f L w k)).imp fun _ _ v h ⟨_,⟨h1,h2⟩,h3⟩=>by subst h1 h2 h3;exact Cv.then (YN (.t1 (.t1 (.t0 .e)))) fun _ e=>YM ⟨rfl,e⟩⟩,Sb5,.refl _⟩
 intro y hfv
 refine OA 2 ?_
 refine Cw (.s2 (.t .d)) rfl (fun j=>Nat.beq j 7) ?_
 intro B
 refine DA [0,1,2,3] ?_
 refine Da 4 ?_
 refine DB rfl rfl (en 212) rfl (.p0 (.p0 (.p0 .d))) (MR p d hd oa oc f L i ⟨h0,by omega⟩ y (c.goQ s) [blk b3 (.cells #[Cr p] 142 (0,0))] hfv) ?_
 rintro _ _ ⟨rfl,rfl⟩
 refine ys (D2 5 rfl (fun _=>Hl) ?_)
 refine D1 6 rfl (Ct.fld 8 10 10 u222) ?_
 refine Da 7 ?_
 refine D8 rfl YO ?_
 refine D0 (Ti (Cv.to [Io p (d.goA i (c.goQ s)) oa oc f,pool L,blk b3 (.cells #[Cr p] 142 (0,0)),Dm f gI e.values]) ?_)
 rw[<-g]
 refine Ts (Cw (.t (.s (.t .d))) rfl (fun j=>false) ?_)
 intro B
 refine DA [0,1,2,3,4,5,6,7,8] ?_
 refine D0 (Cy rfl (fun r=>?_) (fun r=>?_))
 ·rw[Ah r]
  refine Tx (YL (.p0 (.p2 .d)) (A:=Ev p L e) ⟨oa,oc,f,rfl,n⟩) fun u=>Tp (.t2 (.t0 .e)) ?_
  exact Cu (JY rfl (.refl _) ⟨rfl,u,rfl⟩)
 rw[Aa r]
 refine OA 8 ?_
 refine Cy rfl (fun l=>?_) (fun l=>?_)
 ·rw[Ah l]
  refine OA 6 ?_
  refine Dk rfl (Cv.then (YL (.p0 (.p2 .d)) (A:=Ev p L {e with stage:=8}) ⟨oa,oc,f,rfl,n⟩) ?_)
  rintro _ ⟨u,rfl⟩
  exact Cv.then (YN (.t2 (.t0 .e))) fun _ h=>YM ⟨rfl,u,h⟩
 rw[Aa l]
 refine OA 6 ?_
 refine Cy rfl (fun m=>?_) (fun m=>?_)
 ·rw[Ah m]
  refine OA 6 ?_
  refine Dk rfl (Cv.then (YL (.p0 (.p2 .d)) (A:=Ev p L {e with stage:=5}) ⟨oa,oc,f,rfl,n⟩) ?_)
  rintro _ ⟨u,rfl⟩
  exact Cv.then (YN (.t2 (.t0 .e))) fun _ h=>YM ⟨rfl,u,h⟩
 rw[Aa m]
 refine OA 6 ?_
 refine CL (YL .d (A:=fun rs=>rs=[]) rfl) ?_
 rintro _ ⟨u,rfl⟩
 refine Oc rfl (en 199) rfl (.p1 (.p3 .d)) (JS (.func (.func 254) #[] #[]) (fun rs=>rs=[]) L u oa oc e.ops (fun o=>decide (o.kind=2)) n (fun x _ S=>⟨254,[],[],rfl,(en 254),XA x L S _⟩)) ?_
 rintro _ _ ⟨rfl,E,rfl⟩
 refine OA 3 ?_
 refine Tp (.t0 (.t2 (.t0 (.t0 .e)))) (CE rfl (fun t=>?_) (fun t=>?_))
 ·have ha:e.ops.any (fun o=>decide (o.kind=2))=false:=by simpa using t
  rw[Aa (by rw[ha];exact AS)]
  refine Cw (.s2 (.t .d)) rfl (fun j=>false) ?_
  intro B
  refine DA [0,1,2,3] ?_
  refine Da 4 ?_
  refine D7 rfl YO ?_
  rintro _ _ ⟨rfl,rfl⟩
  refine ys (DA [5,6] ?_)
  refine Da 7 ?_
  refine D7 rfl YO ?_
  rintro _ _ ⟨rfl,rfl⟩
  refine ys (D0 (Dk rfl (Cv.then (YL (.p0 (.p2 .d)) (A:=Ev p L {e with result:=2,stage:=8}) ⟨oa,oc,f,rfl,n⟩) ?_)))
  rintro _ ⟨C,rfl⟩
  exact Cv.then (YN (.t2 (.t0 .e))) fun _ h=>YM ⟨rfl,C,h⟩
 have ha:e.ops.any (fun o=>decide (o.kind=2))=true:=by simpa using t
 rw[Ah ha,show e.go4 0=e.go 4 0 from rfl]
 have hs1:s=1:=by rcases hs with h|h|h;exact h;exact absurd h m;exact absurd h l
 refine OA 2 ?_
 refine CL (YL (.p0 (.p2 .d)) (A:=Ev p L e) ⟨oa,oc,f,rfl,n⟩) ?_
 rintro _ ⟨C,rfl⟩
 refine Oc rfl (en 227) rfl (.p2 (.p0 .d)) (hr hs1 p C L e he 0 (AK 0) (by decide)) ?_
 rintro _ _ ⟨rfl,D,rfl⟩
 refine On ?_
 exact Ef rfl (.cons _ (.refl _)) ⟨rfl,D,rfl⟩
theorem Ta:GoS 4:=MT 4 (.inr (.inl rfl)) fun h=>absurd h (by decide)
theorem To:GoS 7:=MT 7 (.inr (.inr rfl)) fun h=>absurd h (by decide)
theorem RZ:GoS 1:=MT 1 (.inl rfl) fun _=>Ta
def ak0:AkM:=⟨0,cm0⟩
def CG.inDoubt(c:CG):CG:={c with doubt:=c.doubt || c.fin.commit}
def CG.next(c:CG):CG×AkM×Bool:=
 if c.wait=true then (c,ak0,false)
 else if c.stage=0∨c.stage=5 then (c,⟨0,⟨1,Hx,Ma⟩⟩,true)
 else if c.stage=1 then (c,⟨c.at_,⟨2,⟨c.id,0,c.start,[],c.reads c.at_⟩,Ma⟩⟩,true)
 else if c.stage=2 then (c,⟨c.home,⟨4,Hx,⟨c.by_.txn,false,0⟩⟩⟩,true)
 else if c.stage=3 then (c,⟨c.at_,⟨5,Hx,c.by_⟩⟩,true)
 else if c.stage=4 then (c,⟨c.at_,⟨3,⟨c.id,c.where_,c.start,c.writes c.at_,if c.serial=true then c.reads c.at_ else []⟩,Ma⟩⟩,true)
 else if c.stage=6 then (c.inDoubt,⟨c.inDoubt.where_,⟨4,Hx,c.fin⟩⟩,true)
 else if c.stage=7 then (c,⟨c.at_,⟨5,Hx,c.fin⟩⟩,true)
 else (c,ak0,false)
theorem Gm:Hx.Fit:=⟨by decide,by decide⟩
theorem Qag{c:CG}(hf:c.Fit)(i:Int):(c.writes i).length<=16777216:=by have:=QaG c i c.ops;have:=hf.ops;unfold CG.writes;omega
theorem ZY{c:CG}(hf:c.Fit)(i:Int):(c.reads i).length<=16777216:=by have:=Qap c i c.ops [] [];have:=hf.ops;unfold CG.reads;simp only[List.length_nil]at*;omega
theorem PK(p:Nat)(S:N_)(L:PL)(c:CG)(hf:c.Fit):Sp P0 129 [Cr p] [cm S (Ev p L c),pool L] fun v h=>∃L' B cs,Le L L'/\v= .tuple #[gA cs,.bool c.next.2.2]/\AkR L' cs c.next.2.1/\c.next.2.1.cmd.ready.Fit/\h=[cm B (Ev p L' c.next.1),pool L']:=by
 refine Sq Tryz.func129 fun w0 b_=>?_
 refine Cx (Cv.op (.p0 .d)) ?_
 rintro _ ⟨_,⟨oa,oc,i,rfl,ho⟩,rfl⟩
 refine OA 2 ?_
 refine O6 (YQ zr212) fun b2=>?_
 refine OA 14 ?_
 refine CE rfl (fun r=>?_) (fun r=>?_)
 ·rw[show c.next=(c,ak0,false) by unfold CG.next;rw[Ah r]]
  refine OA 6 ?_
  refine Tx (YL (.p1 (.p1 .d)) (A:=Ev p L c) ⟨oa,oc,i,rfl,ho⟩) fun t=>Tp (.t2 (.t0 (.t0 .e))) ?_
  exact Cu (Ec u212 (.cons_cons _ (.cons_cons _ (An _))) ⟨L,_,_,.refl _,rfl,⟨_,_,rfl,Dx.nil _ _,Dx.nil _ _⟩,Gm,rfl⟩)
 have h0:¬c.wait=true:=by rw[r];exact AS
 refine OA 8 ?_
 refine O6 (YQ Lx) fun b4=>?_
 refine OA 17 ?_
 refine Cy rfl (fun b=>?_) (fun b=>?_)
 ·have ha0:=b
  refine Tk (Cy rfl (fun b=>?_) (fun b=>?_))
  ·rw[show c.next=(c,⟨0,⟨1,Hx,Ma⟩⟩,true) by unfold CG.next;rw[Aa h0,Ah (.inl ha0)]]
   refine OA 7 ?_
   refine Tx (YL (.p1 (.p1 .d)) (A:=Ev p L c) ⟨oa,oc,i,rfl,ho⟩) fun t=>Tp (.t3 (.t0 (.t0 .e))) ?_
   exact Cu (Ec u212 (.cons_cons _ (.cons_cons _ (An _))) ⟨L,_,_,.refl _,rfl,⟨_,_,rfl,Dx.nil _ _,Dx.nil _ _⟩,Gm,rfl⟩)
  exact absurd ha0 b
 have ha:=b
 refine OA 4 ?_
 refine Cy rfl (fun b=>?_) (fun b=>?_)
 ·rw[show c.next=(c,⟨0,⟨1,Hx,Ma⟩⟩,true) by unfold CG.next;rw[Aa h0,Ah (.inr b)]]
  refine OA 7 ?_
  refine Tx (YL (.p1 (.p1 .d)) (A:=Ev p L c) ⟨oa,oc,i,rfl,ho⟩) fun t=>Tp (.t3 (.t0 (.t0 .e))) ?_
  exact Cu (Ec u212 (.cons_cons _ (.cons_cons _ (An _))) ⟨L,_,_,.refl _,rfl,⟨_,_,rfl,Dx.nil _ _,Dx.nil _ _⟩,Gm,rfl⟩)
 have h1:¬(c.stage=0∨c.stage=5):=fun h=>h.elim ha b
 refine OA 5 ?_
 refine Cy rfl (fun d=>?_) (fun d=>?_)
 ·rw[show c.next=(c,⟨c.at_,⟨2,⟨c.id,0,c.start,[],c.reads c.at_⟩,Ma⟩⟩,true) by unfold CG.next;rw[Aa h0,Aa h1,Ah d]]
  refine Ts (Cw (.s (.t .d)) rfl (fun j=>false) ?_)
  intro l
  refine DA [0,1,2,3,4,5,6,7,8,10] ?_
  refine Da 9 ?_
  refine DB rfl rfl (en 175) rfl (.p1 (.p0 .d)) (Fv p c hf oa oc i L ho c.at_) ?_
  rintro _ _ ⟨C,D,rfl,rfl⟩
  refine ys (Da 11 ?_)
  refine D7 rfl YO ?_
  rintro _ _ ⟨rfl,rfl⟩
  refine ys (D1 12 rfl (Ct.fld 4 4 4 u201) ?_)
  refine Da 13 ?_
  refine D7 rfl YO ?_
  rintro _ _ ⟨rfl,rfl⟩
  refine ys (OA 2 ?_)
  refine Cw (.s2 (.t (.t .d))) rfl (fun j=>false) ?_
  intro l
  refine DA [0,1,2,3,4,5,6] ?_
  refine Da 7 ?_
  refine D7 rfl YO ?_
  rintro _ _ ⟨rfl,rfl⟩
  refine ys (D1 8 rfl FC ?_)
  refine D0 (Cx (Zg (.p4 (.p4 .d))) ?_)
  rintro _ ⟨L2,k,q,rfl⟩
  refine Tx (YL (.p3 (.p0 .d)) (A:=Ev p L2 c) ⟨oa,oc,i,rfl,ho.le k⟩) fun t=>Tp (.t3 (.t2 (.t0 .e))) ?_
  exact Cu (Ec u212 (.cons_cons _ (.cons_cons _ (An _))) ⟨L2,_,_,k,rfl,⟨_,_,rfl,Dx.nil _ _,q⟩,⟨Af _,ZY hf _⟩,rfl⟩)
 refine OA 5 ?_
 refine Cy rfl (fun e=>?_) (fun e=>?_)
 ·rw[show c.next=(c,⟨c.home,⟨4,Hx,⟨c.by_.txn,false,0⟩⟩⟩,true) by unfold CG.next;rw[Aa h0,Aa h1,Aa d,Ah e]]
  refine Ts (Cw (.s (.t .d)) rfl (fun j=>false) ?_)
  intro l
  refine DA [0,1,2,3,4,5,6,7,8,9,10,11] ?_
  refine Da 12 ?_
  refine D7 rfl YO ?_
  rintro _ _ ⟨rfl,rfl⟩
  refine ys (D1 13 rfl FC ?_)
  refine D0 (Tx (YL (.p1 (.p1 .d)) (A:=Ev p L c) ⟨oa,oc,i,rfl,ho⟩) fun t=>Tp (.t3 (.t0 (.t0 .e))) ?_)
  exact Cu (Ec u212 (.cons_cons _ (.cons_cons _ (An _))) ⟨L,_,_,.refl _,rfl,⟨_,_,rfl,Dx.nil _ _,Dx.nil _ _⟩,Gm,rfl⟩)
 refine OA 5 ?_
 refine Cy rfl (fun f=>?_) (fun f=>?_)
 ·rw[show c.next=(c,⟨c.at_,⟨5,Hx,c.by_⟩⟩,true) by unfold CG.next;rw[Aa h0,Aa h1,Aa d,Aa e,Ah f]]
  refine Ts (Cw (.s (.t .d)) rfl (fun j=>false) ?_)
  intro l
  refine DA [0,1,2,3,4,5,6,7,8,9] ?_
  refine Da 10 ?_
  refine D7 rfl YO ?_
  rintro _ _ ⟨rfl,rfl⟩
  refine ys (D1 11 rfl FC ?_)
  refine D0 (Tx (YL (.p1 (.p1 .d)) (A:=Ev p L c) ⟨oa,oc,i,rfl,ho⟩) fun t=>Tp (.t3 (.t0 (.t0 .e))) ?_)
  exact Cu (Ec u212 (.cons_cons _ (.cons_cons _ (An _))) ⟨L,_,_,.refl _,rfl,⟨_,_,rfl,Dx.nil _ _,Dx.nil _ _⟩,Gm,rfl⟩)
 refine OA 5 ?_
 refine Cy rfl (fun m=>?_) (fun m=>?_)
 ·rw[show c.next=(c,⟨c.at_,⟨3,⟨c.id,c.where_,c.start,c.writes c.at_,if c.serial=true then c.reads c.at_ else []⟩,Ma⟩⟩,true) by unfold CG.next;rw[Aa h0,Aa h1,Aa d,Aa e,Aa f,Ah m]]
  refine Ts (Cw (.s (.t .d)) rfl (fun j=>false) ?_)
  intro l
  refine DA [0,2,3,4,5,6,7,8,9,10] ?_
  refine Da 1 ?_
  refine DB rfl rfl (en 176) rfl (.p1 (.p0 .d)) (JJ p c hf oa oc i L ho) ?_
  rintro _ _ ⟨rfl,rfl⟩
  refine ys (D1 12 rfl (Ct.fld 1 1 1 u201) ?_)
  refine Da 11 ?_
  refine DB rfl rfl (en 177) rfl (.p3 (.p3 .d)) (Jm p c hf oa oc i L ho c.at_) ?_
  rintro _ _ ⟨C,D,rfl,rfl⟩
  refine ys (Da 13 ?_)
  refine D7 rfl YO ?_
  rintro _ _ ⟨rfl,rfl⟩
  refine ys (D1 14 rfl (Ct.fld 2 2 2 u201) ?_)
  refine Da 15 ?_
  refine D7 rfl YO ?_
  rintro _ _ ⟨rfl,rfl⟩
  refine ys (D1 16 rfl (Ct.fld 3 3 3 u201) ?_)
  refine Da 17 ?_
  refine D7 rfl YO ?_
  rintro _ _ ⟨rfl,rfl⟩
  refine ys (OA 9 ?_)
  refine CE rfl (fun s=>?_) (fun s=>?_)
  ·rw[Ah s]
   refine OA 6 ?_
   refine Oc rfl (en 175) rfl (.p3 (.p3 .d)) (Fv p c hf oa oc i L ho c.at_) ?_
   rintro _ _ ⟨E,F,rfl,rfl⟩
   refine Oi (YN (.t0 (.t0 (.t0 (.t1 (.t1 (.t0 (.t0 .e)))))))) ?_
   refine OA 4 ?_
   refine Cw (.s2 (.t (.t .d))) rfl (fun j=>false) ?_
   intro l
   refine DA [0,1,2,3,4,5,6] ?_
   refine Da 7 ?_
   refine D7 rfl YO ?_
   rintro _ _ ⟨rfl,rfl⟩
   refine ys (D1 8 rfl FC ?_)
   refine D0 (Cx (Zg (.p4 (.p4 .d))) ?_)
   rintro _ ⟨L2,k,q,rfl⟩
   refine Cx (Zg (.p5 (.p4 .d))) ?_
   rintro _ ⟨y,u,x,rfl⟩
   refine Tx (YL (.p3 (.p0 .d)) (A:=Ev p y c) ⟨oa,oc,i,rfl,ho.le (k.trans u)⟩) fun t=>Tp (.t3 (.t2 (.t0 .e))) ?_
   exact Cu (Ec u212 (.cons_cons _ (.cons_cons _ (An _))) ⟨y,_,_,k.trans u,rfl,⟨_,_,rfl,PSl.le u q,x⟩,⟨Qag hf _,ZY hf _⟩,rfl⟩)
  rw[Aa (by rw[s];exact AS)]
  refine OA 2 ?_
  refine Cw (.s2 (.t (.t .d))) rfl (fun j=>false) ?_
  intro l
  refine DA [0,1,2,3,4,5,6] ?_
  refine Da 7 ?_
  refine D7 rfl YO ?_
  rintro _ _ ⟨rfl,rfl⟩
  refine ys (D1 8 rfl FC ?_)
  refine D0 (Cx (Zg (.p4 (.p4 .d))) ?_)
  rintro _ ⟨L2,k,q,rfl⟩
  refine Tx (YL (.p3 (.p0 .d)) (A:=Ev p L2 c) ⟨oa,oc,i,rfl,ho.le k⟩) fun t=>Tp (.t3 (.t2 (.t0 .e))) ?_
  exact Cu (Ec u212 (.cons_cons _ (.cons_cons _ (An _))) ⟨L2,_,_,k,rfl,⟨_,_,rfl,q,Dx.nil _ _⟩,⟨Qag hf _,Af _⟩,rfl⟩)
 refine OA 5 ?_
 refine Cy rfl (fun g=>?_) (fun g=>?_)
 ·have w:c.inDoubt.Fit:=⟨hf.ops,hf.key,hf.shards,hf.patience,hf.at_,hf.waited,hf.values⟩
  rw[show c.next=(c.inDoubt,⟨c.inDoubt.where_,⟨4,Hx,c.fin⟩⟩,true) by unfold CG.next;rw[Aa h0,Aa h1,Aa d,Aa e,Aa f,Aa m,Ah g]]
  refine Ts (CP (fun(_:Unit)=>[(0,Cr p),(2,Cr b2)]) (fun _=>[pool L,Io p c.inDoubt oa oc i,Dm i gI c.values,blk b2 (.cells (akv ak0 (.slice none 0 0) (.slice none 0 0)).toArray 212 (0,0))]) (fun _=>True) ?_ ?_)
  ·refine OA 7 ?_
   refine Df 117 rfl (fun n=>?_) (fun n=>?_)
   ·refine OA 10 ?_
    exact⟨(),trivial,Sb2,by unfold CG.inDoubt;simp only[n,Bool.true_or];exact .cons_cons _ (.cons_cons _ (.cons_cons _ (.cons_cons _ (List.nil_sublist _))))⟩
   refine OA 10 ?_
   exact⟨(),trivial,Sb2,by unfold CG.inDoubt;simp only[n,Bool.false_or];exact .cons_cons _ (.cons_cons _ (.cons_cons _ (.cons_cons _ (List.nil_sublist _))))⟩
  rintro _ -
  refine Ts (Cw (.s (.t .d)) rfl (fun j=>false) ?_)
  intro l
  refine DA [0,2,3,4,5,6] ?_
  refine Da 1 ?_
  refine DB rfl rfl (en 176) rfl (.p1 (.p0 .d)) (JJ p c.inDoubt w oa oc i L ho) ?_
  rintro _ _ ⟨rfl,rfl⟩
  refine ys (D1 7 rfl (Xb bt212.h) ?_)
  refine Da 8 ?_
  refine D7 rfl YO ?_
  rintro _ _ ⟨rfl,rfl⟩
  refine ys (D1 9 rfl FC ?_)
  refine D0 (Tx (YL (.p2 (.p0 .d)) (A:=Ev p L c.inDoubt) ⟨oa,oc,i,rfl,ho⟩) fun t=>Tp (.t2 (.t1 (.t0 .e))) ?_)
  exact Cu (Ec u212 (.cons_cons _ (.cons_cons _ (An _))) ⟨L,_,_,.refl _,rfl,⟨_,_,rfl,Dx.nil _ _,Dx.nil _ _⟩,Gm,rfl⟩)
 refine OA 5 ?_
 refine Cy rfl (fun o=>?_) (fun o=>?_)
 ·rw[show c.next=(c,⟨c.at_,⟨5,Hx,c.fin⟩⟩,true) by unfold CG.next;rw[Aa h0,Aa h1,Aa d,Aa e,Aa f,Aa m,Aa g,Ah o]]
  refine Ts (Cw (.s (.t .d)) rfl (fun j=>false) ?_)
  intro l
  refine DA [0,1,2,3,4,5,6,7,8,9] ?_
  refine Da 10 ?_
  refine D7 rfl YO ?_
  rintro _ _ ⟨rfl,rfl⟩
  refine ys (D1 11 rfl FC ?_)
  refine D0 (Tx (YL (.p1 (.p1 .d)) (A:=Ev p L c) ⟨oa,oc,i,rfl,ho⟩) fun t=>Tp (.t3 (.t0 (.t0 .e))) ?_)
  exact Cu (Ec u212 (.cons_cons _ (.cons_cons _ (An _))) ⟨L,_,_,.refl _,rfl,⟨_,_,rfl,Dx.nil _ _,Dx.nil _ _⟩,Gm,rfl⟩)
 rw[show c.next=(c,ak0,false) by unfold CG.next;rw[Aa h0,Aa h1,Aa d,Aa e,Aa f,Aa m,Aa g,Aa o]]
 refine OA 7 ?_
 refine Tx (YL (.p1 (.p1 .d)) (A:=Ev p L c) ⟨oa,oc,i,rfl,ho⟩) fun t=>Tp (.t3 (.t0 (.t0 .e))) ?_
 exact Cu (Ec u212 (.cons_cons _ (.cons_cons _ (An _))) ⟨L,_,_,.refl _,rfl,⟨_,_,rfl,Dx.nil _ _,Dx.nil _ _⟩,Gm,rfl⟩)
def KK:List Int->List Int->List (Int×Int)->List (Int×Int)
 |k::ks,v::vs,m=>KK ks vs (aset k v m)
 |_,_,m=>m
def CG.got(c:CG)(a:Jd):CG:=
 if a.err=60 then if c.patience<=c.waited then {c with wait:=false,stage:=2,by_:=⟨a.by_,false,0⟩,home:=a.home}else {c with wait:=true}
 else if a.err≠0∨a.vals.length≠(c.reads c.at_).length then {c with result:=3,stage:=8}
 else ({c with values:=KK (c.reads c.at_) a.vals c.values,waited:=0}:CG).go1 (c.at_+1)
theorem XT{ks vs:List Int}{i:Nat}{k v:Int}(hk:ks[i]? =some k)(hv:vs[i]? =some v)(m:List (Int×Int)):KK (ks.drop i) (vs.drop i) m=KK (ks.drop (i+1)) (vs.drop (i+1)) (aset k v m):=by
 have h1:=(Ab.1 hk).1
 have h2:=(Ab.1 hv).1
 rw[Ay h1,(Ab.1 hk).2,Ay h2,(Ab.1 hv).2];rfl
theorem got_spec(p:Nat)(S:N_)(L:PL)(c:CG)(hf:c.Fit)(hat:c.at_<c.shards)(a:Jd)(C:Value)(l:Dx L C zv a.vals):Sp P0 228 [Cr p,gA (Ue a C)] [cm S (Ev p L c),pool L] fun v h=>v= .tuple #[]/\∃E,h=[cm E (Ev p L (c.got a)),pool L]:=by
 obtain⟨J,K,rfl,H,I⟩:=l.sh
 have q1:=hf.shards;have q2:=hf.at_;have q3:=ZY hf c.at_
 refine Sq Tryz.func228 fun w0 b_=>?_
 refine Cx (Cv.op (.p0 .d)) ?_
 rintro _ ⟨_,⟨oa,oc,n,rfl,ho⟩,rfl⟩
 refine OA 2 ?_
 refine O6 YR fun b3=>?_
 refine OA 8 ?_
 refine Oc rfl (en 175) rfl (.p1 (.p0 .d)) (Fv p c hf oa oc n L ho c.at_) ?_
 rintro _ _ ⟨B,D,rfl,rfl⟩
 refine OA 2 ?_
 refine Tp (.t2 (.t2 (.t0 (.t0 (.t0 .e))))) (OA 8 ?_)
 refine Cy rfl (fun b=>?_) (fun b=>?_)
 ·skip
  refine OA 8 ?_
  refine Cw (.t .d) rfl (fun j=>false) ?_
  intro q
  refine DA [0,1,2,3,4,5,6,7,8] ?_
  refine D0 (Cy rfl (fun f=>?_) (fun f=>?_))
  ·rw[show c.got a= {c with wait:=false,stage:=2,by_:=⟨a.by_,false,0⟩,home:=a.home} by unfold CG.got;rw[Ah b,Ah f]]
   refine Cw (.s3 (.t .d)) rfl (fun j=>false) ?_
   intro q
   refine DA [0,1,2,3,4,5,6,7,8,9,10] ?_
   refine Da 11 ?_
   refine D7 rfl YO ?_
   rintro _ _ ⟨rfl,rfl⟩
   refine ys (DA [12,13] ?_)
   refine Da 14 ?_
   refine D7 rfl YO ?_
   rintro _ _ ⟨rfl,rfl⟩
   refine ys (DA [15,16] ?_)
   refine Da 17 ?_
   refine D7 rfl YO ?_
   rintro _ _ ⟨rfl,rfl⟩
   refine ys (DA [18,19] ?_)
   refine Da 20 ?_
   refine D7 rfl YO ?_
   rintro _ _ ⟨rfl,rfl⟩
   refine ys (D0 (Dk rfl (Cv.then (YL (.p0 (.p1 .d)) (A:=Ev p L {c with wait:=false,stage:=2,by_:=⟨a.by_,false,0⟩,home:=a.home}) ⟨oa,oc,n,rfl,ho⟩) ?_)))
   rintro _ ⟨o,rfl⟩
   exact Cv.then (YN (.t3 (.t0 .e))) fun _ e=>YM ⟨rfl,o,e⟩
  rw[show c.got a= {c with wait:=true} by unfold CG.got;rw[Ah b,Aa f]]
  refine Tk (Dk rfl (Cv.then (YL (.p0 (.p1 .d)) (A:=Ev p L {c with wait:=true}) ⟨oa,oc,n,rfl,ho⟩) ?_))
  rintro _ ⟨o,rfl⟩
  exact Cv.then (YN (.t3 (.t0 .e))) fun _ e=>YM ⟨rfl,o,e⟩
 refine Ts (CQ 74 (a.err≠0∨a.vals.length≠(c.reads c.at_).length) ?_ ?_)
 ·refine OA 5 ?_
  refine IQ 78 rfl (fun s=>?_) (fun s=>?_)
  ·refine OA 9 ?_
   exact Ex
  refine OA 9 ?_
  exact Ex
 refine Cy rfl (fun d=>?_) (fun d=>?_)
 ·rw[show c.got a= {c with result:=3,stage:=8} by unfold CG.got;rw[Aa b,Ah d]]
  refine OA 10 ?_
  refine Dk rfl (Cv.then (YL (.p0 (.p1 .d)) (A:=Ev p L {c with result:=3,stage:=8}) ⟨oa,oc,n,rfl,ho⟩) ?_)
  rintro _ ⟨o,rfl⟩
  exact Cv.then (YN (.t3 (.t0 .e))) fun _ e=>YM ⟨rfl,o,e⟩
 rw[show c.got a=({c with values:=KK (c.reads c.at_) a.vals c.values,waited:=0}:CG).go1 (c.at_+1) by unfold CG.got;rw[Aa b,Aa d]]
 have hlen:a.vals.length=(c.reads c.at_).length:=by
  rcases Nat.decEq a.vals.length (c.reads c.at_).length with h|h
  ·exact absurd (.inr h) d
  ·exact h
 refine OA 8 ?_
 refine CD (fun((i,m):Nat×List (Int×Int))=>[(0,Cr p),(3,Cr b3),(13,.slice B (c.reads c.at_).length D),(14,Cs (c.reads c.at_).length),(15,Cs i)]) (fun(i,m)=>[Io p c oa oc n,pool L,Dm n gI m,blk b3 (.cells (Ue a (.slice J a.vals.length K)).toArray 193 (0,0)),sq B (c.reads c.at_).length D 3 1 ((c.reads c.at_).flatMap zv)]) (fun(i,m)=>i<=(c.reads c.at_).length/\KK ((c.reads c.at_).drop i) (a.vals.drop i) m=KK (c.reads c.at_) a.vals c.values/\KN m) (fun(i,_)=>(c.reads c.at_).length-i) (0,c.values) ?_ ?_
 ·exact⟨⟨Af _,rfl,hf.values⟩,Sb5,.refl _⟩
 rintro⟨i,m⟩ ⟨hi,he,hkn⟩
 conv=>arg 7;dsimp only
 conv=>arg 8;dsimp only
 refine OA 5 ?_
 refine Cy rfl (fun r=>?_) (fun r=>?_)
 ·obtain⟨k,hk⟩:∃k,(c.reads c.at_)[i]? =some k:=⟨_,Ae (by omega)⟩
  obtain⟨z,hz⟩:∃z,a.vals[i]? =some z:=⟨_,Ae (by omega)⟩
  have y:((c.reads c.at_).flatMap zv)[i]? =some (gI k):=by have:=ED (g:=zv) (fun _=>rfl) hk 0 _ rfl;rwa [Bm]at this
  have t:(a.vals.flatMap zv)[i]? =some (gI z):=by have:=ED (g:=zv) (fun _=>rfl) hz 0 _ rfl;rwa [Bm]at this
  rw[XT hk hz]at he
  refine CO (fun w hw=>hw.sqNN (ao:=B) at4 (by omega)) fun⟨g,hg⟩=>?_
  subst hg
  refine CM at1 l.rd t fun ad u=>?_
  subst u
  refine OA 6 ?_
  refine O1 (Km i u28) ?_
  refine O1 (YV u3 y) ?_
  refine OA 3 ?_
  refine Cw (.t (.t (.s (.t .d)))) rfl (fun j=>Nat.beq j 10) ?_
  intro q
  refine DA [0,1,2,3,4,5,6,7] ?_
  refine D1 8 rfl (GO (i) u28) ?_
  refine D1 9 rfl (Ct.reads (j:=i) rfl rfl at1 l.rd u3 rfl t) ?_
  refine Da 10 ?_
  refine D8 rfl (ZK (g:=gI) k z u96 u3) ?_
  refine OA 5 ?_
  exact⟨(i+1,aset k z m),⟨⟨by omega,he,hkn.aset⟩,Sb5,.refl _⟩,by simp only;omega⟩
 have x:m=KK (c.reads c.at_) a.vals c.values:=by rw[<-he,AM (by omega)];rfl
 rw[<-x]
 have hfm:CG.Fit {c with values:=m,waited:=0}:=⟨hf.ops,hf.key,hf.shards,hf.patience,hf.at_,⟨AK 0,by have:=hf.patience;show 0<=c.patience+1;omega⟩,hkn⟩
 refine OA 15 ?_
 refine CL (YL (.p0 (.p1 .d)) (A:=Ev p L {c with values:=m,waited:=0}) ⟨oa,oc,n,rfl,ho⟩) ?_
 rintro _ ⟨F,rfl⟩
 refine Oc rfl (en 227) rfl (.p3 (.p0 .d)) (RZ p F L _ hfm (c.at_+1) (by omega) (by omega)) ?_
 rintro _ _ ⟨rfl,G,rfl⟩
 refine On ?_
 exact Ef rfl (.cons _ (.cons _ (.refl _))) ⟨rfl,G,rfl⟩
def CG.told(c:CG)(a:Jd):CG:={c with fin:=a.fin,result:=if c.result=0 then if a.fin.commit=true then 2 else 3 else c.result}
def CG.take(d:CG)(a:Jd):CG:=
 if d.stage=0 then if a.err=0 then ({d with start:=a.at_}:CG).go1 0 else {d with result:=3,stage:=8}
 else if d.stage=1 then d.got a
 else if d.stage=2 then {d with by_:=a.fin,stage:=3}
 else if d.stage=3 then {d with stage:=1,waited:=0}
 else if d.stage=4 then if a.err=0 then d.go4 (d.at_+1)else d.fail
 else if d.stage=5 then if a.err=0 then {d with fin:=⟨d.id,true,a.at_⟩,stage:=6}else d.fail
 else if d.stage=6 then (d.told a).go7 0
 else if d.stage=7 then d.go7 (d.at_+1)
 else d
def CG.in_(c:CG)(a:Jd):CG:=if c.next.2.2=true then c.next.1.take a else c.next.1
def CG.Cur(c:CG):Prop:=1<=c.stage/\c.stage<=4∨c.stage=7->c.at_<c.shards
theorem CG.next_or(c:CG):c.next.1=c∨c.next.1=c.inDoubt:=by
 unfold CG.next
 repeat' split
 all_goals first|exact .inl rfl|exact .inr rfl
theorem QaH{c:CG}(hf:c.Fit)(hc:c.Cur):c.next.1.Fit/\c.next.1.Cur:=by
 rcases c.next_or with h|h<;>rw[h]
 ·exact⟨hf,hc⟩
 ·exact⟨⟨hf.ops,hf.key,hf.shards,hf.patience,hf.at_,hf.waited,hf.values⟩,hc⟩
theorem Ys(p:Nat)(S:N_)(L:PL)(c:CG)(hf:c.Fit)(hc:c.Cur)(a:Jd)(J:Value)(H:Dx L J zv a.vals):Sp P0 186 [Cr p,gA (Ue a J)] [cm S (Ev p L c),pool L] fun v h=>v= .tuple #[]/\∃L' K,Le L L'/\h=[cm K (Ev p L' (c.in_ a)),pool L']:=by
 obtain⟨R,T,rfl,P,Q⟩:=H.sh
 obtain⟨hd,w⟩:=QaH hf hc
 unfold CG.in_
 refine Sq Tryz.func186 fun w0 b_=>?_
 refine OA 2 ?_
 refine O6 YR fun b3=>?_
 refine OA 5 ?_
 refine Oc rfl (en 129) rfl (.p0 (.p0 .d)) (PK p S L c hf) ?_
 rintro _ _ ⟨L2,M,cs,f,rfl,N,_,rfl⟩
 obtain⟨d,E⟩:∃d,d=c.next.1:=⟨_,rfl⟩
 obtain⟨U,F⟩:∃d,d=c.next.2.2:=⟨_,rfl⟩
 rw[<-E]at hd w ⊢
 rw[<-F]
 obtain⟨W,V,rfl,I,G⟩:=N
 obtain⟨X,Y,rfl,_,_⟩:=I.sh
 obtain⟨Z,yc,rfl,_,_⟩:=G.sh
 clear I G E F
 have q1:=hd.shards;have q2:=hd.at_
 unfold CG.Cur at w
 refine OA 3 ?_
 refine O6 (YQ zr212) fun b4=>?_
 refine OA 8 ?_
 refine CE rfl (fun x=>?_) (fun x=>?_)
 ·rw[Aa (by simpa using x)]
  refine Tp (.t1 (.t1 .e)) ?_
  exact Cu (JY rfl (.refl _) ⟨rfl,L2,M,f,rfl⟩)
 rw[Ah (by simpa using x)]
 refine Cx (Cv.op (.p1 .d)) ?_
 rintro _ ⟨_,⟨oa,oc,s,rfl,ho⟩,rfl⟩
 refine Tp (.t3 (.t1 (.t2 (.t0 .e)))) (OA 14 ?_)
 refine Cy rfl (fun b=>?_) (fun b=>?_)
 ·have e0:d.take a=if a.err=0 then ({d with start:=a.at_}:CG).go1 0 else {d with result:=3,stage:=8}:=by unfold CG.take;rw[Ah b]
  refine OA 7 ?_
  refine CH rfl (fun y=>?_) (fun y=>?_)
  ·rw[e0,Aa y]
   refine OA 11 ?_
   refine Cu ?_
   refine Me rfl (Cv.then (YL (.p0 (.p1 .d)) (A:=Ev p L2 {d with result:=3,stage:=8}) ⟨oa,oc,s,rfl,ho⟩) ?_)
   rintro _ ⟨D,rfl⟩
   exact Cv.then (YN (.t2 (.t0 .e))) fun _ e=>YM ⟨rfl,L2,D,f,e⟩
  rw[e0,Ah y]
  refine OA 12 ?_
  refine CL (YL (.p0 (.p1 .d)) (A:=Ev p L2 {d with start:=a.at_}) ⟨oa,oc,s,rfl,ho⟩) ?_
  rintro _ ⟨t,rfl⟩
  refine Oc rfl (en 227) rfl (.p2 (.p0 .d)) (RZ p t L2 {d with start:=a.at_} ⟨hd.ops,hd.key,hd.shards,hd.patience,hd.at_,hd.waited,hd.values⟩ 0 (AK 0) (by decide)) ?_
  rintro _ _ ⟨rfl,u,rfl⟩
  refine On ?_
  exact Ef rfl (.cons _ (.refl _)) ⟨rfl,L2,u,f,rfl⟩
 skip
 refine OA 5 ?_
 refine Cy rfl (fun g=>?_) (fun g=>?_)
 ·rw[show d.take a=d.got a by unfold CG.take;rw[Aa b,Ah g]]
  refine OA 3 ?_
  refine CL (YL (.p0 (.p1 .d)) (A:=Ev p L2 d) ⟨oa,oc,s,rfl,ho⟩) ?_
  rintro _ ⟨t,rfl⟩
  refine Oc rfl (en 228) rfl (.p2 (.p0 .d)) (got_spec p t L2 d hd (w (.inl (by omega))) a _ (H.le f)) ?_
  rintro _ _ ⟨rfl,u,rfl⟩
  refine On ?_
  exact Ef rfl (.cons _ (.refl _)) ⟨rfl,L2,u,f,rfl⟩
 refine OA 5 ?_
 refine Cy rfl (fun i=>?_) (fun i=>?_)
 ·rw[show d.take a= {d with by_:=a.fin,stage:=3} by unfold CG.take;rw[Aa b,Aa g,Ah i]]
  refine OA 12 ?_
  refine Dk rfl (Cv.then (YL (.p0 (.p1 .d)) (A:=Ev p L2 {d with by_:=a.fin,stage:=3}) ⟨oa,oc,s,rfl,ho⟩) ?_)
  rintro _ ⟨D,rfl⟩
  exact Cv.then (YN (.t2 (.t0 .e))) fun _ e=>YM ⟨rfl,L2,D,f,e⟩
 refine OA 5 ?_
 refine Cy rfl (fun k=>?_) (fun k=>?_)
 ·rw[show d.take a= {d with stage:=1,waited:=0} by unfold CG.take;rw[Aa b,Aa g,Aa i,Ah k]]
  refine OA 10 ?_
  refine Dk rfl (Cv.then (YL (.p0 (.p1 .d)) (A:=Ev p L2 {d with stage:=1,waited:=0}) ⟨oa,oc,s,rfl,ho⟩) ?_)
  rintro _ ⟨D,rfl⟩
  exact Cv.then (YN (.t2 (.t0 .e))) fun _ e=>YM ⟨rfl,L2,D,f,e⟩
 refine OA 5 ?_
 refine Cy rfl (fun l=>?_) (fun l=>?_)
 ·have e4:d.take a=if a.err=0 then d.go4 (d.at_+1)else d.fail:=by unfold CG.take;rw[Aa b,Aa g,Aa i,Aa k,Ah l]
  refine OA 7 ?_
  refine CH rfl (fun B=>?_) (fun B=>?_)
  ·rw[e4,Aa B]
   refine OA 3 ?_
   refine CL (YL (.p0 (.p1 .d)) (A:=Ev p L2 d) ⟨oa,oc,s,rfl,ho⟩) ?_
   rintro _ ⟨t,rfl⟩
   refine Oc rfl (en 229) rfl (.p2 (.p0 .d)) (LN p t L2 d hd) ?_
   rintro _ _ ⟨rfl,u,rfl⟩
   refine On ?_
   exact Cu (JY rfl (.cons _ (.refl _)) ⟨rfl,L2,u,f,rfl⟩)
  rw[e4,Ah B]
  have hat:=w (.inl (by omega))
  refine OA 8 ?_
  refine CL (YL (.p0 (.p1 .d)) (A:=Ev p L2 d) ⟨oa,oc,s,rfl,ho⟩) ?_
  rintro _ ⟨t,rfl⟩
  refine Oc rfl (en 227) rfl (.p2 (.p0 .d)) (Ta p t L2 d hd (d.at_+1) (by omega) (by omega)) ?_
  rintro _ _ ⟨rfl,u,rfl⟩
  refine On ?_
  exact Ef rfl (.cons _ (.refl _)) ⟨rfl,L2,u,f,rfl⟩
 refine OA 5 ?_
 refine Cy rfl (fun o=>?_) (fun o=>?_)
 ·have e5:d.take a=if a.err=0 then {d with fin:=⟨d.id,true,a.at_⟩,stage:=6}else d.fail:=by unfold CG.take;rw[Aa b,Aa g,Aa i,Aa k,Aa l,Ah o]
  refine OA 7 ?_
  refine CH rfl (fun C=>?_) (fun C=>?_)
  ·rw[e5,Aa C]
   refine OA 3 ?_
   refine CL (YL (.p0 (.p1 .d)) (A:=Ev p L2 d) ⟨oa,oc,s,rfl,ho⟩) ?_
   rintro _ ⟨t,rfl⟩
   refine Oc rfl (en 229) rfl (.p2 (.p0 .d)) (LN p t L2 d hd) ?_
   rintro _ _ ⟨rfl,u,rfl⟩
   refine On ?_
   exact Cu (JY rfl (.cons _ (.refl _)) ⟨rfl,L2,u,f,rfl⟩)
  rw[e5,Ah C]
  refine Tk (Cw (.t (.s2 (.t .d))) rfl (fun j=>Nat.beq j 11 || Nat.beq j 12 || Nat.beq j 13 || Nat.beq j 14) ?_)
  intro O
  refine D1 0 rfl DC ?_
  refine D2 1 rfl (fun _=>DC) ?_
  refine DA [2,3,4,5,6,7,8] ?_
  refine D2 9 rfl (fun _=>Hl) ?_
  refine D1 10 rfl (Ct.fld 7 7 7 u222) ?_
  refine Da 11 ?_
  refine D8 rfl YO ?_
  refine DP [12,13] ?_
  refine Da 14 ?_
  refine D8 rfl YO ?_
  refine D0 (Dk rfl (Cv.then (YL (.p0 (.p1 .d)) (A:=Ev p L2 {d with fin:=⟨d.id,true,a.at_⟩,stage:=6}) ⟨oa,oc,s,rfl,ho⟩) ?_))
  rintro _ ⟨D,rfl⟩
  exact Cv.then (YN (.t2 (.t0 .e))) fun _ e=>YM ⟨rfl,L2,D,f,e⟩
 refine OA 5 ?_
 refine Cy rfl (fun r=>?_) (fun r=>?_)
 ·have hfd:(d.told a).Fit:=⟨hd.ops,hd.key,hd.shards,hd.patience,hd.at_,hd.waited,hd.values⟩
  rw[show d.take a=(d.told a).go7 0 by unfold CG.take;rw[Aa b,Aa g,Aa i,Aa k,Aa l,Aa o,Ah r]]
  refine OA 18 ?_
  refine CP (fun(_:Unit)=>[(0,Cr p)]) (fun _=>[Io p (d.told a) oa oc s,pool L2,Dm s gI d.values,blk b3 (.cells (Ue a (.slice R a.vals.length T)).toArray 193 (0,0))]) (fun _=>True) ?_ ?_
  ·refine Cy rfl (fun m=>?_) (fun m=>?_)
   ·refine OA 13 ?_
    refine CE rfl (fun q=>?_) (fun q=>?_)
    ·refine OA 6 ?_
     exact⟨(),trivial,⟨rfl,trivial⟩,by rw[show d.told a= {d with fin:=a.fin,result:=2} by unfold CG.told;rw[Ah m,Ah q]];exact .refl _⟩
    refine Tk ?_
    exact⟨(),trivial,⟨rfl,trivial⟩,by rw[show d.told a= {d with fin:=a.fin,result:=3} by unfold CG.told;rw[Ah m,Aa (by rw[q];exact AS)]];exact .refl _⟩
   refine Tk ?_
   exact⟨(),trivial,⟨rfl,trivial⟩,by rw[show d.told a= {d with fin:=a.fin} by unfold CG.told;rw[Aa m]];exact .refl _⟩
  rintro _ -
  refine OA 2 ?_
  refine CL (YL (.p0 (.p1 .d)) (A:=Ev p L2 (d.told a)) ⟨oa,oc,s,rfl,ho⟩) ?_
  rintro _ ⟨t,rfl⟩
  refine Oc rfl (en 227) rfl (.p2 (.p0 .d)) (To p t L2 _ hfd 0 (AK 0) (by decide)) ?_
  rintro _ _ ⟨rfl,u,rfl⟩
  refine On ?_
  exact Ef rfl (.cons _ (.refl _)) ⟨rfl,L2,u,f,rfl⟩
 refine OA 5 ?_
 refine Cy rfl (fun n=>?_) (fun n=>?_)
 ·rw[show d.take a=d.go7 (d.at_+1) by unfold CG.take;rw[Aa b,Aa g,Aa i,Aa k,Aa l,Aa o,Aa r,Ah n]]
  have hat:=w (.inr n)
  refine OA 7 ?_
  refine CL (YL (.p0 (.p1 .d)) (A:=Ev p L2 d) ⟨oa,oc,s,rfl,ho⟩) ?_
  rintro _ ⟨t,rfl⟩
  refine Oc rfl (en 227) rfl (.p2 (.p0 .d)) (To p t L2 d hd (d.at_+1) (by omega) (by omega)) ?_
  rintro _ _ ⟨rfl,u,rfl⟩
  refine On ?_
  exact Ef rfl (.cons _ (.refl _)) ⟨rfl,L2,u,f,rfl⟩
 rw[show d.take a=d by unfold CG.take;rw[Aa b,Aa g,Aa i,Aa k,Aa l,Aa o,Aa r,Aa n]]
 refine Tk (Dk rfl (Cv.then (YL (.p0 (.p1 .d)) (A:=Ev p L2 d) ⟨oa,oc,s,rfl,ho⟩) ?_))
 rintro _ ⟨D,rfl⟩
 exact Cv.then (YN (.t2 (.t0 .e))) fun _ e=>YM ⟨rfl,L2,D,f,e⟩
def CG.resS(c:CG)(own:List (Int×Int))(o:Es):Es×List (Int×Int):=if o.kind=2 then (o,aset o.key o.val own)else (⟨o.kind,o.key,if(alk o.key own).isSome=true then (alk o.key own).getD 0 else (alk o.key c.values).getD 0⟩,own)
def CG.resL(c:CG):List (Int×Int)->List Es->List Es
 |_,[]=>[]
 |own,o::os=>(c.resS own o).1::c.resL (c.resS own o).2 os
def CG.res(c:CG):Int×List Es:=if c.result=2 then (2,c.resL [] c.ops)else (c.result,[])
theorem Ra(p:Nat)(S:N_)(L:PL)(c:CG)(hf:c.Fit):Sp P0 127 [Cr p] [cm S (Ev p L c),pool L] fun v h=>∃L' J v2,Le L L'/\v= .tuple #[Cs c.res.1,v2]/\Dx L' v2 Et c.res.2/\h=[cm J (Ev p L' c),pool L']:=by
 have q1:=hf.ops
 refine Sq Tryz.func127 fun w0 b_=>?_
 refine Cx (Cv.op (.p0 .d)) ?_
 rintro _ ⟨_,⟨oa,oc,n,rfl,ho⟩,rfl⟩
 have I:c.ops.length<=oc:=by obtain⟨_,_,e,h1,_⟩:=ho.sh;cases e;exact h1
 refine Cx (YN (.t1 (.t1 (.t0 .e)))) ?_
 rintro _ rfl
 refine OA 18 ?_
 refine CH rfl (fun d=>?_) (fun d=>?_)
 ·rw[show c.res=(c.result,[]) by unfold CG.res;rw[Aa (by simpa using d)]]
  refine OA 17 ?_
  refine Tx (YL (.p0 (.p0 .d)) (A:=Ev p L c) ⟨oa,oc,n,rfl,ho⟩) fun w=>Tp (.t1 (.t0 .e)) ?_
  exact Cu (Dq rfl rfl rfl (.refl _) ⟨L,w,_,.refl _,rfl,Dx.nil _ _,rfl⟩)
 rw[show c.res=(2,c.resL [] c.ops) by unfold CG.res;rw[Ah (by simpa using d)]]
 refine OA 3 ?_
 refine O6 (YS gI) fun l=>?_
 refine OA 6 ?_
 refine Ti (Cv.nil 64 3) (OA 11 ?_)
 refine CD (fun((i,own,out,m,q):Nat×List (Int×Int)×List Es×A_×Nat)=>[(0,Cr p),(4,.map (some l)),(5,.slice m out.length q),(29,.slice oa c.ops.length oc),(30,Cs c.ops.length),(31,Cs i)]) (fun(i,own,out,m,q)=>[Io p c oa oc n,Dm n gI c.values,pool L,Dm l gI own,sq m out.length q 64 3 (out.flatMap Et)]) (fun(i,own,out,_)=>i<=c.ops.length/\out.length=i/\out++c.resL own (c.ops.drop i)=c.resL [] c.ops) (fun(i,_)=>c.ops.length-i) (0,[],[],none,0) ?_ ?_
 ·exact⟨⟨Af _,rfl,rfl⟩,Sb6,.refl _⟩
 rintro⟨i,own,out,m,q⟩ ⟨hi,hol,he⟩
 conv=>arg 7;dsimp only
 conv=>arg 8;dsimp only
 refine OA 5 ?_
 refine Cy rfl (fun t=>?_) (fun t=>?_)
 ·obtain⟨o,hx⟩:∃o,c.ops[i]? =some o:=⟨_,Ae (by omega)⟩
  have hc:∀k u,(Et o)[k]? =some u->(c.ops.flatMap Et)[i*3+k]? =some u:=ED (g:=Et) (s:=3) (fun _=>rfl) hx
  have hil:=(Ab.1 hx).1
  have B:c.ops.drop i=o::c.ops.drop (i+1):=by rw[Ay hil,(Ab.1 hx).2]
  rw[B]at he
  change out++((c.resS own o).1::c.resL (c.resS own o).2 (c.ops.drop (i+1)))=_ at he
  refine CM at2 ho.rd (hc 0 _ rfl) fun ad y=>?_
  subst y
  refine OA 5 ?_
  refine O1 (Jt i u60) ?_
  refine O1 (YW (j:=i*3) u64 ho.rd hc rfl) ?_
  refine O6 (YQ XP) fun H=>?_
  refine OA 9 ?_
  refine CP (fun(_:Unit)=>[(0,Cr p),(4,.map (some l)),(5,.slice m out.length q),(7,Cr H),(29,.slice (some ad) c.ops.length oc),(30,Cs c.ops.length),(31,Cs i)]) (fun _=>[Io p c (some ad) oc n,Dm n gI c.values,pool L,Dm l gI (c.resS own o).2,sq m out.length q 64 3 (out.flatMap Et),blk H (.cells (Et (c.resS own o).1).toArray 64 (0,0))]) (fun _=>True) ?_ ?_
  ·refine Cy rfl (fun b=>?_) (fun b=>?_)
   ·refine OA 6 ?_
    refine O4 (ZK (g:=gI) o.key o.val u96 u3) ?_
    refine On ?_
    exact⟨(),trivial,Sb7,by rw[show c.resS own o=(o,aset o.key o.val own) by unfold CG.resS;rw[Ah b]];exact .refl _⟩
   refine OA 5 ?_
   refine O1 (YK (v':=.tuple [gI ((alk o.key own).getD 0),.bool (alk o.key own).isSome].toArray) (Qan (g:=gI) (z:=gI 0) o.key u96 u3) (by cases alk o.key own<;>rfl)) ?_
   refine OA 10 ?_
   refine CE rfl (fun f=>?_) (fun f=>?_)
   ·refine OA 5 ?_
    exact⟨(),trivial,Sb7,by rw[show c.resS own o=(⟨o.kind,o.key,(alk o.key own).getD 0⟩,own) by unfold CG.resS;rw[Aa b,Ah f]];exact .refl _⟩
   refine Cw (.t (.t (.s3 (.t .d)))) rfl (fun j=>Nat.beq j 8) ?_
   intro M
   refine DA [0,1,2,3,4,5] ?_
   refine D1 6 rfl (YK (v':=gI ((alk o.key c.values).getD 0)) (ZF (g:=gI) (z:=gI 0) o.key u96 u3) (by cases alk o.key c.values<;>rfl)) ?_
   refine D1 7 rfl (Ct.fld 2 2 2 u64) ?_
   refine Da 8 ?_
   refine D8 rfl YO ?_
   refine D0 ?_
   exact⟨(),trivial,Sb7,by rw[show c.resS own o=(⟨o.kind,o.key,(alk o.key c.values).getD 0⟩,own) by unfold CG.resS;rw[Aa b,Aa (by rw[f];exact AS)]];exact .refl _⟩
  rintro _ -
  obtain⟨rs,E⟩:∃x,x=c.resS own o:=⟨_,rfl⟩
  rw[<-E]at he ⊢
  refine OA 3 ?_
  refine O6 (YY u60) fun K=>?_
  refine O2 (LO.app (ao:=m) Qn) ?_
  rintro _ _ ⟨F,G,rfl,rfl⟩
  refine OA 6 ?_
  exact⟨(i+1,rs.2,out++[rs.1],F,G),⟨⟨by omega,by simp only[List.length_append,List.length_cons,List.length_nil];omega,by rw[List.append_assoc];exact he⟩,⟨rfl,rfl,by simp only[List.length_append,List.length_cons,List.length_nil];exact rfl,rfl,rfl,rfl,trivial⟩,by simp only[List.length_append,List.length_cons,List.length_nil,List.flatMap_append,List.flatMap_cons,List.flatMap_nil];exact .cons_cons _ (.cons_cons _ (.cons_cons _ (.cons_cons _ (.cons_cons _ (List.nil_sublist _)))))⟩,by simp only;omega⟩
 rw[AM (by omega)]at he
 have C:out=c.resL [] c.ops:=by rw[<-he];exact(AH _).symm
 refine OA 7 ?_
 refine Cx (Zg (.p2 (.p3 .d))) ?_
 rintro _ ⟨L2,r,D,rfl⟩
 refine Tx (YL (.p0 (.p0 .d)) (A:=Ev p L2 c) ⟨oa,oc,n,rfl,ho.le r⟩) fun w=>Tp (.t2 (.t1 .e)) ?_
 exact Cu (Dq rfl rfl rfl (.refl _) ⟨L2,w,_,r,rfl,C▸D,rfl⟩)
def NQ(x y:Int):Int:=if x<y then -1 else if y<x then 1 else 0
def YG(vs:List Hq)(t:Int):Nat->Nat->Nat->Nat
 |0,i,_=>i
 |k+1,i,j=>if i<j then (match vs[(i+j)/2]? with
  |some v=>if v.at_<t then YG vs t k ((i+j)/2+1) j else YG vs t k i ((i+j)/2)
  |none=>i)else i
def Ob(vs:List Hq)(t:Int):Nat:=YG vs t vs.length 0 vs.length
def bsS(vs:List Hq)(t:Int):Bool:=match vs[Ob vs t]? with
 |some v=>decide (v.at_=t)
 |none=>false
theorem Vh(vs:List Hq)(t:Int):∀(k i j:Nat),i<=j->YG vs t k i j<=j
 |0,i,j,h=>h
 |k+1,i,j,h=>by
  unfold YG
  split
  ·split
   ·split
    ·exact Vh vs t k _ j (by omega)
    ·have:=Vh vs t k i ((i+j)/2) (by omega);omega
   ·exact h
  ·exact h
theorem bsL_end(vs:List Hq)(t:Int)(k i j:Nat)(h:j<=i):YG vs t k i j=i:=by
 cases k with
 |zero=>rfl
 |succ k=>unfold YG;rw[Aa (by omega)]
theorem bsL_step{vs:List Hq}{t:Int}{k i j:Nat}{v:Hq}(h:i<j)(hv:vs[(i+j)/2]? =some v):YG vs t (k+1) i j=if v.at_<t then YG vs t k ((i+j)/2+1) j else YG vs t k i ((i+j)/2):=by
 conv=>lhs;unfold YG
 rw[Ah h,hv]
theorem w64q{q:Nat}(h:q<1099511627776):IntKind.i64.wrap ((q:Nat):Int)=((q:Nat):Int):=by rw[IntKind.wrap_i64];omega
def st0(b:Bool):Fj:=⟨b,[],[],[]⟩
theorem VV(x y:Int):NQ x y<0↔x<y:=by
 unfold NQ
 split
 ·omega
 ·split<;>omega
theorem cmpI_eq(x y:Int):NQ x y=0↔x=y:=by
 unfold NQ
 split
 ·omega
 ·split<;>omega
theorem Vn(b:Bool)(L:PL):Sp P0 187 [.bool b,Cs 0] [] fun v h=>∃p S,v= .pointer (some ⟨p,0,none⟩)/\h=[cm S (Hr p L (st0 b))]:=by
 refine Sq Tryz.func187 fun w0 b_=>?_
 refine OA 8 ?_
 refine O6 (YS (β:=Value) id) fun e=>?_
 refine O6 (YS gA) fun f=>?_
 refine O6 (YS gE) fun g=>?_
 refine O1 (Xb bt275.h) ?_
 refine O6 YR fun c=>?_
 refine OA 2 ?_
 refine Tx (YL (.p3 (.p0 (.p0 (.p0 .d)))) (A:=Hr c L (st0 b)) ⟨e,f,g,[],[],rfl,.nil,.nil⟩) fun d=>?_
 exact Cu (CB rfl rfl (.refl _) ⟨c,d,rfl,rfl⟩)
theorem Ov(x:Int):Sp P0 134 [Cs x] [] fun v h=>v= .bool false/\h=[]:=by
 refine Sq Tryz.func134 fun w0 b_=>?_
 refine OA 11 ?_
 exact Cu (CB rfl (CT rfl (by simp)) (.refl _) ⟨rfl,rfl⟩)
theorem WY(x y:Int):Sp P0 72 [Cs x,Cs y] [] fun v h=>v= Cs (NQ x y)/\h=[]:=by
 refine Sq Tryz.func72 fun w0 b_=>?_
 refine OA 7 ?_
 refine O5 (Zc rfl (en 134) rfl (Ov x)) ?_
 refine OA 5 ?_
 refine O5 (Zc rfl (en 134) rfl (Ov y)) ?_
 refine OA 7 ?_
 refine CE rfl (fun d=>?_) (fun d=>?_)
 ·cases d
 refine OA 6 ?_
 refine CE rfl (fun e=>?_) (fun e=>?_)
 ·cases e
 refine OA 8 ?_
 refine Cy rfl (fun b=>?_) (fun b=>?_)
 ·refine OA 4 ?_
  exact Cu (CB rfl (CT rfl (by unfold NQ;rw[Ah b])) (.refl _) ⟨rfl,rfl⟩)
 refine OA 8 ?_
 refine Cy rfl (fun c=>?_) (fun c=>?_)
 ·refine OA 4 ?_
  exact Cu (CB rfl (CT rfl (by unfold NQ;rw[Aa b,Ah c])) (.refl _) ⟨rfl,rfl⟩)
 refine OA 5 ?_
 exact Cu (CB rfl (CT rfl (by unfold NQ;rw[Aa b,Aa c])) (.refl _) ⟨rfl,rfl⟩)
theorem Xq(x:Hq)(t:Int):Sp P0 204 [gV x,Cs t] [] fun v h=>v= Cs (NQ x.at_ t)/\h=[]:=by
 refine Sq Tryz.func204 fun w0 b_=>?_
 refine OA 2 ?_
 refine O6 YR fun b2=>?_
 refine OA 7 ?_
 refine O5 (Zc rfl (en 72) rfl (WY x.at_ t)) ?_
 refine OA 2 ?_
 exact Cu (CB rfl rfl (An _) ⟨rfl,rfl⟩)
theorem bs_spec(a:A_)(c:Nat)(vs:List Hq)(L:PL)(hv:Dx L (.slice a vs.length c) Gi vs)(hn:vs.length<1099511627776)(t:Int):Sp P0 203 [.slice a vs.length c,Cs t,.func (.func 204) #[] #[]] [pool L] fun v h=>v= .tuple #[Cs (Ob vs t),.bool (bsS vs t)]/\h=[pool L]:=by
 have hm:=hv.sh;obtain⟨_,_,_,_,hm⟩:=hm;unfold maxLen at hm
 have hcl:∀x:Hq,Cl P0 (.func (.func 204) #[] #[]) [gV x,Cs t] [] fun v h=>v= Cs (NQ x.at_ t)/\h=[]:=fun x=>⟨_,[],[],rfl,(en 204),Xq x t⟩
 refine Sq Tryz.func203 fun w0 b_=>?_
 refine OA 19 ?_
 refine CD (fun((k,i,j):Nat×Nat×Nat)=>[(0,.slice a vs.length c),(1,Cs t),(2,.func (.func 204) #[] #[]),(8,Cs vs.length),(9,Cs i),(10,Cs j)]) (fun _=>[pool L]) (fun(k,i,j)=>i<=j/\j<=vs.length/\j<=i+k/\YG vs t k i j=Ob vs t) (fun(k,_)=>k) (vs.length,0,vs.length) ?_ ?_
 ·exact⟨⟨Af _,Al _,by simp,rfl⟩,Sb6,.refl _⟩
 rintro⟨k,i,j⟩ ⟨l,hj,hk,he⟩
 refine OA 7 ?_
 refine Cy rfl (fun e=>?_) (fun e=>?_)
 ·obtain⟨k,rfl⟩:∃q,k=q+1:=⟨k-1,by omega⟩
  obtain⟨x,hx⟩:∃x,vs[(i+j)/2]? =some x:=⟨_,Ae (by omega)⟩
  have hc:∀q u,(Gi x)[q]? =some u->(vs.flatMap Gi)[(i+j)/2*2+q]? =some u:=ED (g:=Gi) (s:=2) (fun _=>rfl) hx
  rw[bsL_step (by omega) hx]at he
  refine CM at0 hv.rd (hc 0 _ rfl) fun ad d=>?_
  subst d
  refine OA 7 ?_
  refine O1 (YK (v':=.int .u64 ((i+j:Nat):Int)) (Ze rfl rfl u3 u126) (by rw[DJ (by omega) (by omega)];rfl)) ?_
  refine O1 (YT (Zy rfl rfl rfl (by omega)) (DF (x:=i+j) (i:=1) (by decide))) ?_
  refine O1 (YK (v':=Cs (((i+j)/2:Nat):Int)) (Ze rfl rfl u126 u3) (congrArg (Value.int IntKind.i64) (w64q (by omega)))) ?_
  refine OA 7 ?_
  refine O1 (Qab ((i+j)/2) rfl rfl rfl u307 rfl rfl (by omega)) ?_
  refine O1 (YW (j:=(i+j)/2*2) u309 hv.rd hc rfl) ?_
  refine O1 DC ?_
  refine O8 (LO.cl (ys:=[.tmp 28,.tmp 29]) (vs:=[gV x,Cs t]) rfl rfl rfl .d (hcl x)) ?_
  refine OA 2 ?_
  refine Cy rfl (fun b=>?_) (fun b=>?_)
  ·rw[Ah ((VV _ _).1 b)]at he
   refine OA 5 ?_
   exact⟨(k,(i+j)/2+1,j),⟨⟨by omega,hj,by omega,he⟩,Sb6,.refl _⟩,by simp only;omega⟩
  rw[Aa (fun h=>b ((VV _ _).2 h))]at he
  refine OA 4 ?_
  exact⟨(k,i,(i+j)/2),⟨⟨by omega,by omega,by omega,he⟩,Sb6,.refl _⟩,by simp only;omega⟩
 rw[bsL_end vs t k i j (by omega)]at he
 subst he
 refine OA 8 ?_
 refine CJ 39 rfl (fun f=>?_) (fun f=>?_)
 ·obtain⟨x,hx⟩:∃x,vs[Ob vs t]? =some x:=⟨_,Ae (by omega)⟩
  have hc:∀q u,(Gi x)[q]? =some u->(vs.flatMap Gi)[Ob vs t*2+q]? =some u:=ED (g:=Gi) (s:=2) (fun _=>rfl) hx
  have hs:bsS vs t=decide (NQ x.at_ t=0):=by unfold bsS;rw[hx];exact AN.2 (cmpI_eq _ _).symm
  rw[hs]
  refine Mz (fun w hw=>hv.rd.some (hw.mine _ (Aj at0.at)) (hc 0 _ rfl)) fun⟨ad,d⟩=>?_
  subst d
  refine OA 3 ?_
  refine O1 (Jt (Ob vs t) u307) ?_
  refine O1 (YW (j:=Ob vs t*2) u309 hv.rd hc rfl) ?_
  refine O1 DC ?_
  refine O8 (LO.cl (ys:=[.tmp 44,.tmp 45]) (vs:=[gV x,Cs t]) rfl rfl rfl .d (hcl x)) ?_
  refine OA 5 ?_
  exact Cu (Dq rfl rfl rfl (.refl _) ⟨rfl,rfl⟩)
 have hs:bsS vs t=false:=by unfold bsS;rw[Bn (by omega)]
 rw[hs]
 refine OA 12 ?_
 exact Cu (Dq rfl rfl rfl (.refl _) ⟨rfl,rfl⟩)
def ES(L:Nat)(r:Loop):CW:=blk L (.loop r)
theorem Gt{w0 w:World}{b_:N_}{h:Mem}(ho:CX w0 b_ h w)(ob:Obj):CX w0 b_ (h++[blk w.heap.size ob]) (w.alloc ob):=
 ho.new ob _ rfl (show(w.heap.push ob)[w.heap.size]? =_ from BE)
theorem GW{w0 w:World}{b_:N_}{h:Mem}(ho:CX w0 b_ h w){i L:Nat}{ob:Obj}(hi:h[i]? =some (blk L ob))(ob':Obj):CX w0 b_ (h.set i (blk L ob')) (w.putObj L ob'):=by
 have hm:=Aj hi
 have hlt:L<w.heap.size:=ho.lt _ hm L (by simp[blk])
 exact ho.set hi rfl rfl rfl rfl (by simp[World.putObj]) (fun k hk=>World.putObj_heap_other (fun e=>hk (by simp[blk,e]))) (World.putObj_heap_same hlt)
theorem EC{w0 w:World}{b_:N_}{h:Mem}(ho:CX w0 b_ h w){i L:Nat}{ob:Obj}(hi:h[i]? =some (blk L ob)):w.heap[L]? =some ob:=ho.mine _ (Aj hi)
def IterC(P:Program)(d:FuncId)(lb:V_)(Pre:World->Prop)(b:List V_):Prop:=
 ∀(L:Nat) (J:Nat->World->Prop) (c:World->Prop),(∀i w,J i w->Pre w)->
  (∀i xs w,b[i]? =some xs->J i w->YieldAt FW 4 P L xs.toArray w fun e w'=>(e= .returned (.bool true)/\J (i+1) w')∨(e= .returned (.bool false)/\c w'))->
  ∀W,J 0 W->CallsIn FW 5 P d (.func (.yield L) #[] #[]::lb).toArray W fun e w'=>(∃v,e= .returned v)/\(J b.length w'∨c w')
theorem Fr.params{n:Nat}{l:Dh}:∀(ps:N_) (xs:V_) (tmps:Array Value),Fr n l {tmps:=tmps,defers:=[]}->ps.all (fun p=>Nat.blt p n)=true->Fr n ((ps.zip xs).reverse++l) {tmps:=(ps.zip xs).foldl (fun t (p,v)=>t.setIfInBounds p v) tmps,defers:=[]}
 |[],xs,tmps,hf,_=>hf
 |p::ps,[],tmps,hf,_=>hf
 |p::ps,x::xs,tmps,hf,ha=>by
  rw[List.all_cons]at ha
  obtain⟨h1,h2⟩:=Bool.and_eq_true_iff.1 ha
  have:=Fr.params ps xs _ (hf.put h1 x) h2
  simp only[List.zip_cons_cons,List.reverse_cons,List.append_assoc,List.foldl_cons]
  exact this
section
variable {P:Program}{n:Nat}{w0:World}{b_:N_}{l:Dh}{h:Mem}{KD:Gg}
theorem Li{x:Code}(hx:TC P n w0 b_ x (fun e l h=>KD e l h []) l h):We P n w0 b_ x KD l h []:=fun a w hf ho=>by
 have d:Fr n l a:=by
  obtain⟨t,b⟩:=a
  have:b=[]:=hf.ds
  subst this
  exact hf.fr
 refine wp_mono (hx a w d ho) fun e f w' hq=>?_
 cases e with
 |panic c=>exact hq.elim
 |outgrown=>exact hq.elim
 |_=>obtain⟨l',h',h1,h2,h3⟩:=hq;exact⟨l',h',[],⟨by obtain⟨t,b⟩:=f;have:b=[]:=h1.defers;subst this;exact h1,h1.defers⟩,h2,h3⟩
theorem WR{g:Operand}{ps:N_}{assign body:Code}{s:FuncId}{lb:V_}{Pre:World->Prop}{c:List V_}{σ Y Z:Type}(Inv:Nat->σ->Prop)(H:σ->Mem)(T:Nat->σ->Y->Dh)(S:σ->Y->Mem)(U:Nat->σ->Y->Prop)(I:Z->Prop)(G:Z->Mem)(C:σ)
  (N:IterC P s lb Pre c) (hg:ev l g=some (.func (.func s) #[] lb.toArray)) (hent:Fc P s) (h0:Inv 0 C) (hh:h=H C) (hxl:c.all (fun xs=>Nat.beq xs.length ps.length)=true) (hps:ps.all (fun p=>Nat.blt p n)=true)
  (A:∀i x E w,Inv i x->CX w0 b_ (E++H x) w->Pre w)
  (hA:∀i x xs D L r,c[i]? =some xs->Inv i x->VE P n w0 b_ L 4 assign (fun e l' h'=>e= .normal/\∃y,U i x y/\Ml (T i x y) l'/\(Js D::ES L r::S x y).Sublist h') ((ps.zip xs).reverse++l) (Js D::ES L r::H x))
  (hB:∀i x y xs D L r,c[i]? =some xs->Inv i x->U i x y->VE P n w0 b_ L 4 body (fun e _ h'=>(e= .normal/\∃x',Inv (i+1) x'/\(Js D::ES L r::H x').Sublist h')∨(e= .ret/\∃z,I z/\(Js D::ES L r::G z).Sublist h')) (T i x y) (Js D::ES L r::S x y))
  (hk1:∀D x,Inv c.length x->KD .normal l (Js D::H x) [YJ D]) (O:∀D z,I z->KD .ret l (Js D::G z) [YJ D]):
  We P n w0 b_ (.rangeFunc g ps.toArray assign body) KD l h []:=by
 intro act w hf ho
 subst hh
 refine(wpIn_wide (n:=6)).1 (wpIn_rangeFunc fun fn _=>?_)
 obtain⟨D,X⟩:∃D,D=w.heap.size:=⟨_,rfl⟩
 obtain⟨L,hL⟩:∃L,L=w.heap.size+1:=⟨_,rfl⟩
 obtain⟨b,hrec⟩:∃b:LoopState->Option Code->Loop,b=fun st pe=>{state:=st,pending:=pe,fn,tmps:=act.tmps,params:=ps.toArray,assign:=assign,body:=body,defers:=D}:=⟨_,rfl⟩
 obtain⟨W1,u⟩:∃W1,(w.alloc (.deferred (some []))).alloc (.loop (b .ready none))=W1:=⟨_,rfl⟩
 have ho1:CX w0 b_ ((H C++[Js D])++[ES L (b .ready none)]) W1:=by
  have:=Gt (Gt ho (.deferred (some []))) (.loop (b .ready none))
  rwa [u,show(w.alloc (.deferred (some []))).heap.size=L from by rw[hL];simp,<-X]at this
 have ho2:CX w0 b_ (Js D::ES L (b .ready none)::H C) W1:=ho1.perm (by
  rw[Ao]
  exact Av (l₁:=[Js D,ES L (b .ready none)]))
 refine⟨L,[YJ D],W1,{target:=.fn (.func s) lb.toArray,args:= #[.func (.yield L) #[] #[]]},W1,s, #[.func (.yield L) #[] #[]]++lb.toArray,W1,?_,?_,fun _ _=>trivial,?_,fun hh=>(by cases hh),?_⟩
 ·rw[<-u,hrec,hL,X];exact run_enterLoop_outer _ _ _ _ _
 ·have:act.eval g=_:=hf.eval hg
  simp only[resolve,this]
  simp[go_sem]
 ·have:=hent (#[.func (.yield L) #[] #[]]++lb.toArray) W1
  exact this
 ·have m:(#[.func (.yield L) #[] #[]]++lb.toArray:Array Value)=(.func (.yield L) #[] #[]::lb).toArray:=by simp
  rw[m]
  refine(N L (fun i W=>∃x,Inv i x/\CX w0 b_ (Js D::ES L (b .ready none)::H x) W) (fun W=>∃z,I z/\CX w0 b_ (Js D::ES L (b .done (some .ret))::G z) W) (fun i W ⟨x,hx,hW⟩=>A i x [_,_] W hx hW) ?_ W1 ⟨C,h0,ho2⟩).mono ?_
  ·rintro i xs W q ⟨x,hx,d⟩
   have K:W.heap[L]? =some (.loop (b .ready none)):=EC d (i:=1) rfl
   have hy:=run_yield (P:=P) (args:=xs.toArray) K (by have:=BK (BD.1 hxl xs (Aj q));rw[hrec];simp[this])
   rw[hrec]at hy
   have hz:(ps.toArray.zip xs.toArray).foldl (fun tmps (t,a)=>tmps.setIfInBounds t a) act.tmps=(ps.zip xs).foldl (fun t (p,v)=>t.setIfInBounds p v) act.tmps:=by simp
   have hy:(Instr.yield L xs.toArray).run P W= .ok (.round L fn ((ps.zip xs).foldl (fun t (p,v)=>t.setIfInBounds p v) act.tmps) assign body) W:=hz▸hy
   refine⟨fn,_,_,_,hy,roundIn_of_wpIn trivial ?_⟩
   refine wpIn_mono (hA i x xs D L (b .ready none) q hx _ W (Fr.params ps xs _ hf.fr hps) d) ?_
   rintro e a1 w1 hq
   cases e with
   |normal=>
    obtain⟨l1,h1,hf1,ho1',_,y,R,B,hmem⟩:=hq
    have ho1':=ho1'.drop hmem
    have J:w1.heap[L]? =some (.loop (b .ready none)):=EC ho1' (i:=1) rfl
    have hob:=GW ho1' (i:=1) (L:=L) rfl (.loop {b .ready none with state:=.busy})
    refine⟨_,run_beginRound J (by rw[hrec]),?_⟩
    obtain⟨busy,j⟩:∃busy,busy=({b .ready none with state:=.busy}:Loop):=⟨_,rfl⟩
    rw[<-j]at hob ⊢
    refine wpIn_mono (hB i x y xs D L busy q hx R _ _ (hf1.weak B) hob) ?_
    rintro e a2 F hq2
    cases e with
    |normal=>
     obtain⟨l2,h2,M,ho2,hh⟩:=hq2
     rcases hh with ⟨_,x',Q,hm2⟩|⟨hc,_⟩
     ·have ho2:=ho2.drop hm2
      have f:F.heap[L]? =some (.loop busy):=EC ho2 (i:=1) rfl
      have ho3:=GW ho2 (i:=1) (L:=L) rfl (.loop {busy with state:=.ready,pending:=none})
      have he:=run_endRound (P:=P) none f
      refine⟨_,_,he,.inl ⟨rfl,x',Q,?_⟩⟩
      have k:({busy with state:=.ready,pending:=none}:Loop)=b .ready none:=by rw[j,hrec]
      rw[k]at ho3
      show CX w0 b_ _ (F.putObj L (.loop ({busy with state:=.ready,pending:=none}:Loop)))
      rw[k]
      exact ho3
     ·cases hc
    |ret=>
     obtain⟨l2,h2,M,ho2,hh⟩:=hq2
     rcases hh with ⟨hc,_⟩|⟨_,z,hz,hm2⟩
     ·cases hc
     ·have ho2:=ho2.drop hm2
      have f:F.heap[L]? =some (.loop busy):=EC ho2 (i:=1) rfl
      have ho3:=GW ho2 (i:=1) (L:=L) rfl (.loop {busy with state:=.done,pending:=some .ret})
      have he:=run_endRound (P:=P) (some .ret) f
      refine⟨_,_,he,.inr ⟨rfl,z,hz,?_⟩⟩
      have k:({busy with state:=.done,pending:=some .ret}:Loop)=b .done (some .ret):=by rw[j,hrec]
      rw[k]at ho3
      show CX w0 b_ _ (F.putObj L (.loop ({busy with state:=.done,pending:=some .ret}:Loop)))
      rw[k]
      exact ho3
    |exit id=>obtain⟨_,_,_,_,hh⟩:=hq2;rcases hh with ⟨hc,_⟩|⟨hc,_⟩<;>cases hc
    |goto t=>obtain⟨_,_,_,_,hh⟩:=hq2;rcases hh with ⟨hc,_⟩|⟨hc,_⟩<;>cases hc
    |panic ch=>exact hq2.elim
    |outgrown=>exact hq2.elim
   |ret=>obtain⟨_,_,_,_,hc,_⟩:=hq;cases hc
   |exit id=>obtain⟨_,_,_,_,hc,_⟩:=hq;cases hc
   |goto id=>obtain⟨_,_,_,_,hc,_⟩:=hq;cases hc
   |panic ch=>exact hq.elim
   |outgrown=>exact hq.elim
  ·rintro e V ⟨⟨v,rfl⟩,(⟨x,hx,d⟩|⟨z,hz,d⟩)⟩
   ·have f:V.heap[L]? =some (.loop (b .ready none)):=EC d (i:=1) rfl
    have he:=run_endLoop (P:=P) f (by rw[hrec];simp)
    have o:(b .ready none).pending=none:=by rw[hrec]
    rw[o]at he
    refine⟨none,_,he,?_⟩
    exact⟨l,_,[YJ D],⟨hf.fr,by show YJ D::act.defers=_;rw[hf.ds]⟩,(GW d (i:=1) (L:=L) rfl _).drop (.cons_cons _ (.cons _ (.refl _))),hk1 D x hx⟩
   ·have f:V.heap[L]? =some (.loop (b .done (some .ret))):=EC d (i:=1) rfl
    have he:=run_endLoop (P:=P) f (by rw[hrec];simp)
    have o:(b .done (some .ret)).pending=some .ret:=by rw[hrec]
    rw[o]at he
    refine⟨some .ret,_,he,wpIn_ret ?_⟩
    exact⟨l,_,[YJ D],⟨hf.fr,by show YJ D::act.defers=_;rw[hf.ds]⟩,(GW d (i:=1) (L:=L) rfl _).drop (.cons_cons _ (.cons _ (.refl _))),O D z hz⟩
def retM(P:Program)(n:Nat)(w0:World)(b_:N_)(b:Func)(R:Value->Mem->Prop):Gg
 |.ret,l,h,ds=>(ds=[]/\Hb P n w0 b_ b R .ret l h)∨∃D A,ds=[YJ D]/\h=Js D::A/\Hb P n w0 b_ b R .ret l A
 |_,_,_,_=>False
theorem Pz{f:FuncId}{j:Func}{c:Code}{vs:V_}{rs:Mem}{R:Value->Mem->Prop}(hfn:P.funcs[f]? =some j)(hb:j.body=some c)(hn:j.ntmps=n)(hl:Nat.ble vs.length n=true)
  (ht:∀w0 b_,We P n w0 b_ c (retM P n w0 b_ j R) (Og 0 vs) rs []):Sp P f vs rs R:=by
 intro w0 ho
 refine callsIn_wide (n:=5).1 (callsIn_of_wp_marks hfn hb trivial (wpIn_wide.2 (wp_mono (ht _ _ _ w0 ⟨⟨?_,rfl,fun t v p=>?_⟩,rfl⟩ ho) fun e a w hq=>?_)) rfl)
 ·have:=Cn hl
  simp[hn];omega
 ·obtain⟨_,h2⟩:=NU vs 0 t v p
  have hlt:=(Ab.1 h2).1
  rw[Nat.sub_zero]at h2 hlt
  show(vs.toArray++_)[t]? =_
  rw[Array.getElem?_append_left (by simpa using hlt)]
  simpa using h2
 ·cases e with
  |ret=>
   obtain⟨l,h,ds,hfr,b,(⟨e1,v,hv,m⟩|⟨D,A,e1,e2,v,hv,m⟩)⟩:=hq
   ·subst e1
    obtain⟨h0,d,g⟩:=m w b
    show LeavesInM FW 5 P j a.tmps _ a.defers .returning w
    rw[hfr.ds]
    exact⟨v,hv {a with defers:=[]} w hfr.fr b,v,h0,rfl,d,g⟩
   ·subst e1 e2
    show LeavesInM FW 5 P j a.tmps _ a.defers .returning w
    rw[hfr.ds]
    have q:hf w D=some (.deferred (some [])):=b.mine (Js D) (by simp)
    have hlt:D<w.heap.size:=b.lt (Js D) (by simp) D (by simp[Js,blk])
    have ho3:CX _ _ (blk D (.deferred none)::A) (w.putObj D (.deferred none)):=
     b.set (i:=0) (r:=Js D) (r':=blk D (.deferred none)) rfl rfl rfl rfl rfl (by simp[World.putObj]) (fun k o=>World.putObj_heap_other (fun e=>o (by simp[Js,blk,e]))) (World.putObj_heap_same hlt)
    have ho4:=ho3.drop (.cons _ (.refl _))
    obtain⟨h0,d,g⟩:=m _ ho4
    exact⟨by simp,.inl ⟨D,_,rfl,run_takeDeferred q,v,hv {a with defers:=[]} _ hfr.fr ho4,v,h0,rfl,d,g⟩⟩
  |normal=>obtain⟨_,_,_,_,_,hh⟩:=hq;exact hh.elim
  |exit id=>obtain⟨_,_,_,_,_,hh⟩:=hq;exact hh.elim
  |goto id=>obtain⟨_,_,_,_,_,hh⟩:=hq;exact hh.elim
  |panic c=>exact hq.elim
  |outgrown=>exact hq.elim
end
theorem RW{w0 w:World}{b_:N_}{h:Mem}(o:CX w0 b_ h w):CX w0 b_ h w.drew:=⟨o.os,o.tape,o.output,o.size,o.old,o.mine,o.nd,o.fr⟩
def Oh(xs ys:V_)(q:Nat):V_:=xs.take q++ys++xs.drop (q+ys.length)
theorem Mx{xs ys:V_}{q:Nat}(h:q+ys.length<=xs.length):(Oh xs ys q).length=xs.length:=by
 unfold Oh
 simp only[List.length_append,List.length_take,List.length_drop];omega
theorem NL{cs:Array Value}{ys xs:V_}{q k:Nat}(h:cs.toList.take k=xs)(hk:q+ys.length<=k)(hc:k<=cs.size):(putCells cs q ys).toList.take k=Oh xs ys q:=by
 subst h
 have hx:(cs.toList.take k).length=k:=by rw[AF,Bg];omega
 refine List.ext_getElem? fun j=>?_
 rw[BH]
 unfold Oh
 split
 ·rename_i hj
  rw[Bi,Gn _ _ _ _ (by omega)]
  rcases Ca j q with h1|h1
  ·rw[Aa (by omega),Ao,Bh (by rw[AF,hx];omega),Cc h1,Cc hj,Bi]
  ·have hl:((cs.toList.take k).take q).length=q:=by rw[AF,hx];omega
   rw[Ao,Bl (by omega),hl]
   rcases Ca j (q+ys.length)with h2|h2
   ·rw[Ah ⟨h1,h2⟩,Bh (by omega)]
   ·rw[Aa (by omega),Bl (by omega),BW,show q+ys.length+(j-q-ys.length)=j by omega,Cc hj,Bi]
 ·rename_i hj
  rw[Bn]
  simp only[List.length_append,List.length_take,List.length_drop,Array.length_toList];omega
section
variable {P:Program}{n:Nat}{w0:World}{b_:N_}{l:Dh}{h hs:Mem}{o:Oper}{v:Value}
theorem LO.cpy{x y:Operand}{t t' e:TypeId}{g m cap b D k f i j T s q:Nat}{d:A_}{xs ys:V_}{r:CW}{h':Mem}(E:P.underlying t=some (.slice e))(hr:Reads r d ys)(C:(P.info? e).map (·.size)=some s)
  (ho:o.op= .call {callee:=.builtin .copy,args:= #[x,y],argTypes:= #[t,t']}) (hx:ev l x=some (.slice (some ⟨g,q,none⟩) b D)) (hy:ev l y=some (.slice d k f))
  (hi:Ep h i (sq (some ⟨g,0,none⟩) m cap T s xs) (sq (some ⟨g,0,none⟩) m cap T s (Oh xs ys q)) h') (hj:FG h j r) (hl:ys.length=(min b k)*s) (hb:q+ys.length<=m*s) (h1:∀u∈ys,EL u=true):
  LO P n w0 b_ h l o fun u p=>u= .int .i64 ((min b k:Nat):Int)/\p=h':=by
 obtain⟨e1,e2⟩:=hi.at
 subst e2
 refine Zf (s:=Builtin.copy_ #[t,t'] o.type #[.slice (some ⟨g,q,none⟩) b D,.slice d k f]) (fun a hf=>?_) fun w hw=>?_
 ·unfold execOp
  simp only[ho,resolve,List.map_toArray,List.map_cons,List.map_nil,hf.eval hx,hf.eval hy]
  rfl
 ·obtain⟨p1,p2⟩:=hw.mine _ (Aj e1)
  rcases p2 with ⟨hn,_⟩|⟨I,cur,B,hg,hmc,hcm,A,ht⟩
  ·cases hn
  ·cases B
   have F:m*s<=cap*s:=Bo _ hmc
   obtain⟨w',hrun,q1,q2,q3,q4,q5⟩:=Ej (P:=P) ys 0 w g q cur T h1 hg (by omega)
   have c:(Builtin.firstCells s (Nat.min k b) (.slice d k f)).run P w= .ok ys.toArray w:=by
    cases d with
    |none=>
     have:ys=[]:=by
      cases ys with
      |nil=>rfl
      |cons u us=>obtain⟨x,hx,_⟩:=hr _ (hw.mine _ (Aj hj.at)) 0 u rfl;cases hx
     rw[this]
     exact run_firstCells_none w s (Nat.min k b) k f
    |some ad=>
     refine run_firstCells_some w s (Nat.min k b) ad k f ys (by rw[hl];congr 1;exact Nat.min_comm _ _) fun H u G=>?_
     obtain⟨x,hx,hcl⟩:=hr _ (hw.mine _ (Aj hj.at)) H u G
     cases hx;exact hcl
   refine⟨_,w',_,?_,⟨rfl,rfl⟩,hw.set e1 rfl q1 q2 q3 q4 (fun z hz=>?_) ?_⟩
   ·unfold Builtin.copy_
    show((underlying t >>= fun _=>_:Sem Value)).run P w=_
    rw[Ak,Cz E,Ai]
    show((sizeOf e >>= fun _=>_:Sem Value)).run P w=_
    rw[Ak,run_sizeOf C,Ai]
    show((Builtin.firstCells s (Nat.min k b) (.slice d k f) >>= fun _=>_:Sem Value)).run P w=_
    rw[Ak,c,Ai]
    show((storeCells ⟨g,q,none⟩ ys.toArray.toList 0 >>= fun _=>(Sem.pure (goInt (Nat.min k b)):Sem Value))).run P w=_
    rw[Ak]
    simp only[hrun,Result.andThen_ok]
    rw[show Nat.min k b=min b k from Nat.min_comm _ _]
    rfl
   ·have:=congrFun q5 z
    simp only[Go.Cru.hf]at this
    rw[this,Aa (fun e=>hz (by simp[sq,e]))]
   ·refine⟨by rw[Mx (by omega)];exact p1,.inr ⟨g,putCells cur q ys,rfl,?_,hmc,hcm,by rw[EZ];exact A,NL ht (by omega) (by omega)⟩⟩
    rw[q5]
    simp only[if_true]
    rfl
theorem LO.appZ{x y:Operand}{t A e:TypeId}{z:Value}{sz b m cap k i:Nat}{kn:IntKind}{ao:A_}{xs:V_}{r:CW}{f:CW->Mem}(he:El P t e z sz b)(D:P.underlying A=some (.int kn))(hr:Reads r ao xs)
  (ho:o.op= .call {callee:=.builtin .append,args:= #[x,y],argTypes:= #[t,A]}) (hx:ev l x=some (.slice ao m cap)) (hy:ev l y=some (.int .i64 (k:Int))) (hi:FG h i r) (hl:xs.length=m*sz) (h0:0<k) (hg:cap<m+k) (hb:(m+k)*b<=140737488355328) (hm:m+k<=maxLen) (hf:∀r,EY h r (f r)):
  LO P n w0 b_ h l o fun u h'=>∃E d ys,u= .slice (some ⟨E,0,none⟩) (m+k) d/\ys.length=k*sz/\h'=f (sq (some ⟨E,0,none⟩) (m+k) d e sz (xs++ys)):=by
 obtain⟨p,g,J,F,H⟩:=he.row
 refine Zf (s:=Builtin.append_ #[t,A] o.type #[.slice ao m cap,.int .i64 (k:Int)]) (fun a hf=>?_) fun w hw=>?_
 ·unfold execOp
  simp only[ho,resolve,List.map_toArray,List.map_cons,List.map_nil,hf.eval hx,hf.eval hy]
  rfl
 ·have hw':=RW hw
  have j:(Builtin.firstCells p.size m (.slice ao m cap)).run P w.drew= .ok xs.toArray w.drew:=by
   rw[F]
   cases ao with
   |none=>
    have:xs=[]:=by
     cases xs with
     |nil=>rfl
     |cons u us=>obtain⟨x,hx,_⟩:=hr _ (hw.mine _ (Aj hi.at)) 0 u rfl;cases hx
    rw[this]
    exact run_firstCells_none w.drew sz m m cap
   |some ad=>
    refine run_firstCells_some w.drew sz m ad m cap xs hl fun K u I=>?_
    obtain⟨x,hx,hcl⟩:=hr _ (hw'.mine _ (Aj hi.at)) K u I
    cases hx;exact hcl
  have hrun:=Lib.run_append_grow_zeros w t A o.type e p z .i64 kn he.sl D g J ao m cap xs j k h0 (F▸he.pos) hg (by unfold maxLen at hm;omega) (by rw[H];exact AA (Bo _ (Nat.le_add_left k m)) (by omega)) (by rw[H];exact growslice_fits hg hb)
  obtain⟨G,B⟩:∃G,G=grownCap w (m+k) cap e:=⟨_,rfl⟩
  have C:m+k<=G:=B▸grownCap_ge w (m+k) cap e
  have hG2:G<=maxLen:=B▸grownCap_le_maxLen w (m+k) cap e hm
  rw[<-B]at hrun
  have hz:∀q,(Builtin.zeroCells z.cells q).size=q*sz:=fun q=>by rw[size_zeroCells,he.zs]
  have ho1:=Gt hw' (.cells (xs.toArray++Builtin.zeroCells z.cells k++Builtin.zeroCells z.cells (G-(m+k))) e)
  refine⟨_,_,_,hrun,⟨w.heap.size,G,(Builtin.zeroCells z.cells k).toList,rfl,by rw[Bg,hz],rfl⟩,?_⟩
  rw[(hf _).eq]
  have c:(h++[blk w.drew.heap.size (.cells (xs.toArray++Builtin.zeroCells z.cells k++Builtin.zeroCells z.cells (G-(m+k))) e)])[h.length]? =some (blk w.drew.heap.size (.cells (xs.toArray++Builtin.zeroCells z.cells k++Builtin.zeroCells z.cells (G-(m+k))) e)):=by simp
  have hP:=ho1.mine _ (Aj c)
  have hlen:(xs++(Builtin.zeroCells z.cells k).toList).length=(m+k)*sz:=by rw[Ac,Bg (xs:=Builtin.zeroCells z.cells k),hz,hl,Ck]
  have:=ho1.set (r':=sq (some ⟨w.heap.size,0,none⟩) (m+k) G e sz (xs++(Builtin.zeroCells z.cells k).toList)) c rfl rfl rfl rfl rfl (fun _ _=>rfl) ⟨hlen,.inr ⟨w.heap.size,_,rfl,hP,C,hG2,by
   rw[Array.size_append,Array.size_append,hz,hz,List.size_toArray,hl,<-Ck,<-Ck];congr 1;omega,by
   rw[Array.toList_append,Array.toList_append,<-hlen]
   exact List.take_left' rfl⟩⟩
  simpa using this
theorem Ct.capSl{x:Operand}{T e:TypeId}{a:A_}{len cap:Nat}(b:P.underlying T=some (.slice e))(ho:o.op= .call {callee:=.builtin .cap,args:= #[x],argTypes:= #[T]}:=by rfl)(hx:ev l x=some (.slice a len cap):=by rfl):Ct P n w0 b_ hs l o (.int .i64 cap):=
 Qbg (s:=Builtin.cap_ #[T] o.type #[.slice a len cap]) ho hx (fun _=>rfl) fun w=>by
  unfold Builtin.cap_
  show((underlying T >>= fun d=>_):Sem Value).run P w=_
  rw[Ak,Cz b,Ai]
  rfl
theorem Ct.ovl{x y:Operand}{f:FuncId}{p:Func}{ts:Array TypeId}{t tR e:TypeId}{s b g q T T' m cap r d lb h i j:Nat}{cs:Array Value}{xs:V_}(hfn:P.funcs[f]? =some p)(c:(p.name == "runtime.NumGoroutine")=false)
  (hb:p.body.isNone=true) (hnx:Extern.findNext p=none) (he:Extern.find p=some (Extern.SlicesOverlaps.overlaps #[t,t] #[tR])) (ht:P.underlying t=some (.slice e)) (B:(P.info? e).map (·.size)=some (s+1))
  (ho:o.op= .call {callee:=.value (.func f),args:= #[x,y],argTypes:=ts}) (hx:ev l x=some (.slice (some ⟨b,0,none⟩) r d)) (hy:ev l y=some (.slice (some ⟨g,q,none⟩) lb h)) (hi:FG hs i (blk b (.cells cs T (0,0)))) (hj:FG hs j (sq (some ⟨g,0,none⟩) m cap T' (s+1) xs)) (hne:b≠g) (hc:0<cap):
  Ct P n w0 b_ hs l o (.bool false):=fun a w hf C=>by
 have h1:Go.Cru.hf w b=some (.cells cs T (0,0)):=C.mine _ (Aj hi.at)
 obtain⟨_,h2⟩:=C.mine _ (Aj hj.at)
 rcases h2 with ⟨hn,_⟩|⟨D,cur,A,hg,_,_,u,_⟩
 ·cases hn
 ·cases A
  have s1:w.shape? b=some (T,cs.size):=by unfold World.shape?;have:w.heap[b]? =_:=h1;rw[this]
  have s2:w.shape? g=some (T',cur.size):=by unfold World.shape?;have:w.heap[g]? =_:=hg;rw[this]
  have z:∀k,w.frozen? ⟨b,k,none⟩=false:=fun k=>by unfold World.frozen?;have:w.heap[b]? =_:=h1;rw[this];simp
  have hrun:(callFunc f (#[]++(#[.slice (some ⟨b,0,none⟩) r d,.slice (some ⟨g,q,none⟩) lb h]++ #[]))).run P w= .ok (.value (.bool false)) w:=by
   show(callFunc f #[.slice (some ⟨b,0,none⟩) r d,.slice (some ⟨g,q,none⟩) lb h]).run P w=_
   rw[run_callFunc_extern hfn c hb hnx he,Lib.run_overlaps_apart w t tR e ht (s+1) (fun w=>run_sizeOf B w) ⟨b,0,none⟩ ⟨g,q,none⟩ r d lb h hne T T' cs.size cur.size s1 s2 (by rw[u];exact Nat.pos_iff_ne_zero.1 (Nat.mul_pos hc (Nat.succ_pos _))) (z 0) (z cs.size)]
   rfl
  unfold execOp
  simp only[ho,resolve,List.map_toArray,List.map_cons,List.map_nil,hf.eval hx,hf.eval hy]
  show(invoke (.fn (.func f) #[]) (#[]++ #[.slice (some ⟨b,0,none⟩) r d,.slice (some ⟨g,q,none⟩) lb h])).run P w=_
  simpa [invoke] using hrun
theorem CX.apart{w:World}(o:CX w0 b_ h w){i j b g T m cap T' sz:Nat}{cs:Array Value}{k:Nat×Nat}{xs:V_}(hi:FG h i (blk b (.cells cs T k)))(hj:FG h j (sq (some ⟨g,0,none⟩) m cap T' sz xs))(c:i≠j):b≠g:=fun e=>by
 have hnd:=o.nd
 have e1:=hi.at;have e2:=hj.at
 obtain⟨d,g1⟩:=Ab.1 e1
 obtain⟨f,g2⟩:=Ab.1 e2
 have key:=List.pairwise_iff_getElem.1 (List.pairwise_flatMap.1 hnd).2
 rcases Nat.lt_or_gt_of_ne c with hlt|hlt
 ·have:=key i j d f hlt
  rw[g1,g2]at this
  exact this b (by simp[blk]) g (by simp[sq]) e
 ·have:=key j i f d hlt
  rw[g1,g2]at this
  exact this g (by simp[sq]) b (by simp[blk]) e.symm
end
theorem CX.sqCap{w w0:World}{b_:N_}{h:Mem}(o:CX w0 b_ h w){j m cap T' sz:Nat}{ao:A_}{xs:V_}(hj:FG h j (sq ao m cap T' sz xs)):m<=cap/\xs.length=m*sz:=by
 obtain⟨h1,h2⟩:=o.mine _ (Aj hj.at)
 rcases h2 with ⟨_,e1,e2⟩|⟨_,_,_,_,e1,_⟩
 ·exact⟨by omega,h1⟩
 ·exact⟨e1,h1⟩
theorem Reads.off{r:CW}{g q:Nat}{zs ys:V_}(h:Reads r (Option.some ⟨g,0,none⟩) zs)(hz:∀j u,ys[j]? =Option.some u->zs[q+j]? =Option.some u):Reads r (Option.some ⟨g,q,none⟩) ys:=fun H b j u c=>by
 obtain⟨x,e,hc⟩:=h H b (q+j) u (hz j u c)
 cases e
 refine⟨_,rfl,?_⟩
 rw[add_lit]at hc ⊢
 rw[AE]at hc
 exact hc
theorem Cv.wide{w0:World}{b_:N_}{h:Mem}{ao:A_}{m cap T sz i:Nat}{xs:V_}{f:CW->Mem}(k:Nat)(hk:m+k<=cap)(hi:∀r,Ep h i (sq ao m cap T sz xs) r (f r)):
  Cv w0 b_ h fun h'=>∃ys:V_,ys.length=k*sz/\h'=f (sq ao (m+k) cap T sz (xs++ys)):=fun w o=>by
 obtain⟨e1,e2⟩:=(hi (sq ao m cap T sz xs)).at
 obtain⟨p1,p2⟩:=o.mine _ (Aj e1)
 rcases p2 with ⟨ha,hm,hc⟩|⟨g,cur,ha,hg,hmc,hcm,b,ht⟩
 ·have c:k=0:=by omega
  subst c
  refine⟨_,⟨[],by simp,rfl⟩,?_⟩
  rw[(hi _).at.2,AH]
  exact o.set e1 rfl rfl rfl rfl rfl (fun _ _=>rfl) ⟨p1,.inl ⟨ha,hm,hc⟩⟩
 ·have h1:(m+k)*sz<=cap*sz:=Bo _ hk
  have h2:m*sz<=(m+k)*sz:=Bo _ (BF m k)
  refine⟨_,⟨(cur.toList.take ((m+k)*sz)).drop (m*sz),by rw[AD,AF,Bg,b,BC h1,Ck];omega,rfl⟩,?_⟩
  rw[(hi _).at.2]
  refine o.set e1 rfl rfl rfl rfl rfl (fun _ _=>rfl) ⟨?_,.inr ⟨g,cur,ha,hg,hk,hcm,b,?_⟩⟩
  ·rw[Ac,p1,AD,AF,Bg,b,BC h1];omega
  ·rw[<-ht]
   conv=>lhs;rw[<-List.take_append_drop (m*sz) (cur.toList.take ((m+k)*sz)),List.take_take,BC h2]
theorem Qa7:∀(b a c:Mem),DM (b++(a++c)) a (b++c)
 |[],[],_=>.d
 |[],_::a,c=>.t (Qa7 [] a c)
 |_::b,a,c=>.s (Qa7 b a c)
section
variable {w0:World}{b_:N_}{h c:Mem}{S:N_}{A B:Mem->Prop}
theorem Cv.sp{ι:Type}(F:ι->Mem)(G:ι->Mem->Prop)(s:Ps h [cm S A] c)(f:∀rs,A rs->∃i b,rs=F i++b/\G i b):Cv w0 b_ h fun h'=>∃i d,h'=c++F i++[cm d (G i)]:=
 Cv.then (Cv.op s) fun h' ⟨rs,hrs,e⟩=>by
  obtain⟨i,b,e2,g⟩:=f rs hrs
  subst e e2
  have e3:c++(F i++b)=(c++F i)++(b++[]):=by simp
  rw[e3]
  exact Cv.then (Zl (Qa7 (c++F i) b []) g) fun h' e=>YM ⟨i,b.flatMap CW.ids,by rw[e,AH]⟩
theorem Cv.mg{G:Mem->Prop}(F:Mem){a:Mem}(ha:a=F++[cm S G])(s:Ps h a c)(f:∀b,G b->A (F++b)):Cv w0 b_ h fun h'=>∃d,h'=c++[cm d A]:=fun w o=>by
 have key:∀a b:Mem,DM (a++b) a b:=fun a b=>by have:=Qa7 [] a b;simpa using this
 have o2:=o.perm s.perm
 subst ha
 have e1:F++[cm S G]++c=F++([cm S G]++c):=Ao _ _ _
 rw[e1]at o2
 obtain⟨h',⟨rs,g,e⟩,o3⟩:=ZS (Qa7 F [cm S G] c) w o2
 subst e
 have i:CX w0 b_ ((F++rs)++c) w:=o3.perm (by
  rw[Ao,Ao]
  exact Av.append_left F)
 obtain⟨h',e,j⟩:=Zl (key (F++rs) c) (f rs g) w i
 exact⟨h',⟨_,e⟩,j⟩
end
section
variable {α:Type}{R R':Value->α->Mem->Prop}
variable {w0:World}{b_:N_}{h c:Mem}{S:N_}{vs:V_}{xs:List α}
end
section
variable {P:Program}{n:Nat}{w0:World}{b_:N_}{l:Dh}{h:Mem}
theorem retS3{f:Func}{R:Value->Mem->Prop}{t1 t2 t3 b c d b1 b2 b3 r s t:Nat}{e d2 d3:TypeDesc}{v1 v2 v3:Value}{g i j:TypeId}{f1 m o:Nat×Nat}(hr:f.results= #[.cell t1 b,.cell t2 c,.cell t3 d])(e1:fnd l t1=some (Cr b1))(e2:fnd l t2=some (Cr b2))(e3:fnd l t3=some (Cr b3))
  (g1:FG h r (blk b1 (.cells #[v1] g f1))) (g2:FG h s (blk b2 (.cells #[v2] i m))) (p:FG h t (blk b3 (.cells #[v3] j o))) (u:P.underlying b=some e) (x:P.underlying c=some d2) (u3:P.underlying d=some d3) (a1:ET e=false) (a2:ET d2=false) (a3:ET d3=false)
  (q:∀w,CX w0 b_ h w->∃h0,R (.tuple #[v1,v2,v3]) h0/\CX w0 b_ h0 w):Hb P n w0 b_ f R .ret l h:=by
 refine⟨.tuple #[v1,v2,v3],fun a w hf ho=>?_,q⟩
 have c1:(loadVar b ⟨b1,0,none⟩).run P w= .ok v1 w:=Gj u a1 (by rw[(ho.sta fun _ h=>h).own g1.at];rfl)
 have c2:(loadVar c ⟨b2,0,none⟩).run P w= .ok v2 w:=Gj x a2 (by rw[(ho.sta fun _ h=>h).own g2.at];rfl)
 have k:(loadVar d ⟨b3,0,none⟩).run P w= .ok v3 w:=Gj u3 a3 (by rw[(ho.sta fun _ h=>h).own p.at];rfl)
 simp[results,hr,Array.getD_eq_getD_getElem?,hf.has t1 _ e1,hf.has t2 _ e2,hf.has t3 _ e3,asAddr,c1,c2,k]
end
theorem Ka{P:Program}{n:Nat}{w0:World}{b_:N_}{l:Dh}{h:Mem}{F:Mem->Prop}{c:Code}{b:Gg}{ds:List Deferred}(hi:Cv w0 b_ h F)(hk:∀h',F h'->We P n w0 b_ c b l h' ds):We P n w0 b_ c b l h ds:=
 fun a w hf ho=>by obtain⟨h',h1,h2⟩:=hi w ho;exact hk h' h1 a w hf h2
theorem TCR_ret{P:Program}{n:Nat}{w0:World}{b_:N_}{l:Dh}{h:Mem}{b m:Nat}{K:En}(hk:K .ret l h):VE P n w0 b_ b m .ret K l h:=fun _ _ hf ho=>wpIn_ret ⟨l,h,hf,ho,hk⟩
def bkI(vs:List Hq):List V_:=(List.range vs.length).map fun k=>[Cs ((vs.length-1-k:Nat):Int),gV (vs.getD (vs.length-1-k) ⟨0,0⟩)]
theorem bkI_at{vs:List Hq}{k:Nat}{xs:V_}(h:(bkI vs)[k]? =some xs):k<vs.length/\∃v,vs[vs.length-1-k]? =some v/\vs.reverse[k]? =some v/\xs=[Cs ((vs.length-1-k:Nat):Int),gV v]:=by
 unfold bkI at h
 rw[Aq]at h
 cases hk:(List.range vs.length)[k]? with
 |none=>rw[hk]at h;cases h
 |some j=>
  rw[hk]at h
  obtain⟨h1,h2⟩:=Ab.1 hk
  simp only[List.length_range]at h1
  rw[List.getElem_range]at h2
  subst h2
  have hv:vs[vs.length-1-k]? =some (vs[vs.length-1-k]):=Ae (by omega)
  refine⟨h1,vs[vs.length-1-k],hv,?_,?_⟩
  ·rw[List.getElem?_reverse h1,hv]
  ·have h:=Option.some.inj h
   rw[<-h]
   show [Value.int .i64 _,gV (vs.getD _ _)]=_
   rw[AB,hv];rfl
theorem rdV_drop{at_:Int}{vs:List Hq}{i:Nat}{v:Hq}(h:vs[i]? =some v):rdV at_ (vs.drop i)=if v.at_<=at_ then v.val else rdV at_ (vs.drop (i+1)):=by
 have hl:=(Ab.1 h).1
 rw[Ay hl,(Ab.1 h).2];rfl
def BkP(b:Nat)(a:A_)(c:Nat)(vs:List Hq)(w:World):Prop:=w.cell? ⟨b,0,none⟩=some (.slice a vs.length c)/\∀i u,(vs.flatMap Gi)[i]? =some u->∃x,a=some x/\w.cell? (x.add i)=some u
theorem back_it(f:Nat)(a:A_)(c:Nat)(vs:List Hq)(hl:vs.length<1099511627776):IterC P0 231 [Cr f] (BkP f a c vs) (bkI vs):=by
 intro L J o hP m W h0
 have hbl:(bkI vs).length=vs.length:=by unfold bkI;simp
 have d:∀i w,J i w->w.cell? ⟨f,0,none⟩=some (.slice a vs.length c):=fun i w h=>(hP i w h).1
 refine VL (vs:=[.func (.yield L) #[] #[],Cr f]) (Φ:=J 0) Tryz.func231 rfl rfl rfl rfl h0 ?_
 refine DO ?_
 refine Do ?_
 refine CZ rfl rfl rfl rfl (fun w hw=>Ct.old rfl rfl u307 rfl (d _ w hw) (by simp)) ?_
 refine CZ rfl rfl rfl rfl (fun w hw=>Qa0 rfl rfl u307) ?_
 refine CZ rfl rfl rfl rfl (fun w hw=>Ct.sub rfl rfl rfl (by omega) (by omega)) ?_
 refine CZ rfl rfl rfl rfl (fun w hw=>Ct.assign rfl rfl) ?_
 refine Ei ?_
 refine Hk ?_
 refine Qt (fun i:Nat=>[(0,.func (.yield L) #[] #[]),(1,Cr f),(3,Cs ((i:Int)-1))]) (fun i=>J (vs.length-i)) (fun i=>i<=vs.length) (fun i=>i) vs.length (Al _) Sb3 (fun w hw=>by rw[Cb];exact hw) ?_
 intro i hi
 refine DO ?_
 refine DO ?_
 refine Do ?_
 refine CZ rfl rfl rfl rfl (fun w hw=>Ct.move rfl rfl) ?_
 refine CZ rfl rfl rfl rfl (fun w hw=>Ct.geq rfl rfl rfl) ?_
 refine Ei ?_
 refine TW_if rfl (fun ht=>?_) (fun ht=>?_)
 ·obtain⟨i,rfl⟩:∃j,i=j+1:=⟨i-1,by omega⟩
  obtain⟨v,hv⟩:∃v,vs[i]? =some v:=⟨_,Ae (by omega)⟩
  have hc:∀q u,(Gi v)[q]? =some u->(vs.flatMap Gi)[i*2+q]? =some u:=ED (g:=Gi) (s:=2) (fun _=>rfl) hv
  refine IL ?_
  refine DO ?_
  refine Hk ?_
  refine DO ?_
  refine Do ?_
  refine CZ rfl rfl rfl rfl (fun w hw=>Ct.move rfl rfl) ?_
  refine CZ rfl rfl rfl rfl (v:=Cs (i:Int)) (fun w hw=>Ct.move rfl (Dd rfl (by omega))) ?_
  refine CZ rfl rfl rfl rfl (fun w hw=>Ct.old rfl rfl u307 rfl (d _ w hw) (by simp)) ?_
  refine CZ rfl rfl rfl rfl (v:=Cs (i:Int)) (fun w hw=>Ct.move rfl (Dd rfl (by omega))) ?_
  obtain⟨x,rfl⟩|l:(∃x,a=some x)∨∀w,¬J (vs.length-(i+1)) w:=by
   cases a with
   |some x=>exact .inl ⟨x,rfl⟩
   |none=>exact .inr fun w hw=>by obtain⟨x,e,_⟩:=(hP _ w hw).2 _ _ (hc 0 _ rfl);cases e
  ·refine CZ rfl rfl rfl rfl (fun w hw=>Jt i u307) ?_
   refine CZ rfl rfl rfl rfl (v:=gV v) (fun w hw=>Ct.oldS rfl rfl (fun k u n=>by
    obtain⟨x',e,h4⟩:=(hP _ w hw).2 _ _ (hc k u (by simpa using n))
    cases e
    rw[add_add];exact h4) u309 rfl rfl rfl) ?_
   have hk:(bkI vs)[vs.length-(i+1)]? =some [Cs (i:Int),gV v]:=by
    unfold bkI
    rw[Aq,List.getElem?_range (by omega)]
    show some [Value.int .i64 ((vs.length-1-(vs.length-(i+1)):Nat):Int),gV (vs.getD (vs.length-1-(vs.length-(i+1))) ⟨0,0⟩)]=_
    rw[show vs.length-1-(vs.length-(i+1))=i by omega]
    simp[List.getD_eq_getElem?_getD,hv]
   refine Rj rfl rfl rfl rfl rfl (vs:=[Cs i,gV v]) rfl (fun w hw=>m _ _ w hk hw) ?_ ?_
   ·refine CZ rfl rfl rfl rfl (fun w hw=>Ct.not (b:=true) rfl rfl) ?_
    refine Ei ?_
    refine TW_no rfl ?_
    refine IL ?_
    refine Do ?_
    refine CZ rfl rfl rfl rfl (fun w hw=>Ct.move rfl rfl) ?_
    refine CZ rfl rfl rfl rfl (fun w hw=>Ct.sub rfl rfl rfl (by omega) (by omega)) ?_
    refine CZ rfl rfl rfl rfl (fun w hw=>Ct.assign rfl rfl) ?_
    refine Ei ?_
    exact⟨i,by omega,⟨rfl,rfl,Dd rfl (by omega),trivial⟩,fun w hw=>by rw[show vs.length-i=vs.length-(i+1)+1 by omega];exact hw,by omega⟩
   ·refine CZ rfl rfl rfl rfl (fun w hw=>Ct.not (b:=false) rfl rfl) ?_
    refine Ei ?_
    refine TW_yes rfl ?_
    refine Qd ?_
    exact fun w hw=>.inr hw
  ·exact fun a w hf hw=>absurd hw (l w)
 ·refine QE ?_
  exact fun w hw=>.inl (by
   rw[hbl,<-show vs.length-i=vs.length by omega];exact hw)
theorem XM(a:A_)(n c:Nat):Sp P0 196 [.slice a n c] [] fun u h=>∃b,u= .func (.func 231) #[] #[Cr b]/\h=[blk b (.cells #[.slice a n c] 307 (0,0))]:=by
 refine Sq Tryz.func196 fun w0 b_=>?_
 refine OA 2 ?_
 refine O6 YR fun b1=>?_
 refine OA 4 ?_
 refine O1 (Qaa (ys:=[.tmp 1]) (vs:=[_]) rfl rfl) ?_
 refine OA 2 ?_
 exact Cu (CB rfl rfl (.refl _) ⟨b1,rfl,rfl⟩)
theorem SM(p:Nat)(S:N_)(L:PL)(s:Fj)(hf:s.Fit)(txn key at_:Int):Sp P0 155 [Cr p,Cs txn,Cs key,Cs at_] [cm S (Hr p L s),pool L] fun v h=>v= .tuple #[Cs (s.read txn key at_).1,Cs (s.read txn key at_).2.1,Cs (s.read txn key at_).2.2]/\∃M,h=[cm M (Hr p L s),pool L]:=by
 refine Qa6 fun rs ⟨B,rb,eb,kal,ral,e,hka,hra⟩=>?_
 subst e
 obtain⟨a,c,hv,hc,hm⟩:=(KJ hka key).sh
 have G:Dx L (.slice a (s.vs key).length c) Gi (s.vs key):=hv▸KJ hka key
 change _=Value.slice a (s.vs key).length c at hv
 have hvl:(s.vs key).length<1099511627776:=by
  unfold Fj.vs
  cases hk:alk key s.keys with
  |none=>exact(by decide:0<1099511627776)
  |some x=>exact hf.keysL key x hk
 obtain⟨q,hq⟩:∃q,q=s.blocks txn fun r=>r.wr key && decide (r.start<at_):=⟨_,rfl⟩
 have hrd:s.read txn key at_=if q.2=true then (0,q.1,60)else (rdV at_ (s.vs key).reverse,0,0):=by rw[hq];rfl
 rw[hrd]
 refine Pz Tryz.func155 rfl rfl rfl fun w0 b_=>?_
 show We _ _ _ _ _ _ _ [Ut p s B rb eb,Dm B id kal,Dm rb gA ral,Dm eb gE s.ends,pool L] _
 refine FU (Li ?_)
 refine OA 1 ?_
 refine O6 YR fun J=>?_
 refine O6 YR fun n=>?_
 refine O6 (YQ zr3) fun C=>?_
 refine O6 (YQ zr3) fun F=>?_
 refine O6 (YQ zr35) fun d=>?_
 refine OA 1 ?_
 refine FU (Li ?_)
 refine OA 7 ?_
 refine FU (Li ?_)
 refine OA 4 ?_
 refine O1 (Qaa (ys:=[.tmp 6,.tmp 7]) (vs:=[_,_]) rfl rfl) ?_
 refine CL (YL (.p5 (.p5 .d)) (A:=(fun rs=>rs=[blk J (.cells #[Cs key] 3 (0,0)),blk n (.cells #[Cs at_] 3 (0,0))])) rfl) ?_
 rintro _ ⟨N,rfl⟩
 refine Oc rfl (en 193) rfl (.p0 (.p1 (.p2 (.p5 .d)))) (Ly p L s B rb eb ral hra hf txn _ _ N (fun r=>r.wr key && decide (r.start<at_)) (fun c r G _ S=>⟨_,[],[_,_],rfl,(en 194),TU J n key at_ L c r G S⟩)) ?_
 rintro _ _ ⟨rfl,I,rfl⟩
 rw[<-hq]
 refine CL (Cv.op (.p8 .d)) ?_
 rintro _ ⟨_,rfl,rfl⟩
 refine Oi (YN (.t5 (.t0 (.t4 (.t0 (.t3 (.t3 (.t3 (.t0 (.t0 (.t0 .e))))))))))) ?_
 refine OA 10 ?_
 refine Df 25 rfl (fun b=>?_) (fun b=>?_)
 ·refine OA 4 ?_
  refine O1 (YK (v':=Cs 0) (Za rfl rfl rfl) rfl) ?_
  refine O1 Rv ?_
  refine OA 10 ?_
  refine Cu ?_
  rw[Ah b]
  refine .inl ⟨rfl,retS3 rfl rfl rfl rfl at7 at8 at9 u3 u3 u35 rfl rfl rfl ?_⟩
  exact fun w ho=>(Cv.then (YL (.p0 (.p0 (.p0 (.p0 .d)))) (A:=Hr p L s) ⟨B,rb,eb,kal,ral,rfl,hka,hra⟩) fun _ ⟨I,e⟩=>e▸Cv.then (YN (.t6 (.t0 .e))) fun _ e=>YM ⟨rfl,I,e⟩) w ho
 refine OA 10 ?_
 rw[Aa (by rw[b];exact AS)]
 refine FU ?_
 refine FU (Li ?_)
 refine Cw (.t (.t (.s3 (.t .d)))) rfl (fun j=>false) ?_
 intro H
 refine DA [0,1,2,3,4] ?_
 refine D1 5 rfl (YK (ZF (g:=id) (z:=.slice none 0 0) key u273 u3) hv) ?_
 refine Da 6 ?_
 refine D6 rfl (Zd rfl (en 196) rfl .d (XM _ _ _)) ?_
 rintro _ _ ⟨_,⟨l,rfl,rfl⟩,rfl⟩
 refine⟨.inr (fun r hr=>Bp _ (H r hr)),?_⟩
 refine D0 (Ka (YL (.p0 (.p0 (.p0 (.p0 .d)))) (A:=Hr p L s) ⟨B,rb,eb,kal,ral,rfl,hka,hra⟩) ?_)
 rintro _ ⟨o,rfl⟩
 refine Ka (YN (.t7 (.t0 (.t1 (.t1 (.t1 (.t1 (.t1 .e)))))))) ?_
 rintro _ rfl
 refine Pd ?_
 refine WR (ps:=[41,42]) (lb:=[Cr l]) (σ:=Unit) (Y:=Nat×Hq) (Z:=Unit) (fun i _=>rdV at_ ((s.vs key).reverse.drop i)=rdV at_ (s.vs key).reverse) (fun _=>[cm o (Hr p L s),pool L,blk n (.cells #[Cs at_] 3 (0,0)),blk C (.cells #[Cs 0] 3 (0,0)),blk F (.cells #[Cs 0] 3 (0,0)),blk d (.cells #[Cs 0] 35 (0,0)),blk l (.cells #[.slice a (s.vs key).length c] 307 (0,0))]) (fun _ _ y=>[(7,Cr n),(8,Cr C),(9,Cr F),(10,Cr d),(14,Cr y.1)]) (fun _ y=>[cm o (Hr p L s),pool L,blk n (.cells #[Cs at_] 3 (0,0)),blk C (.cells #[Cs 0] 3 (0,0)),blk F (.cells #[Cs 0] 3 (0,0)),blk d (.cells #[Cs 0] 35 (0,0)),blk l (.cells #[.slice a (s.vs key).length c] 307 (0,0)),blk y.1 (.cells (Gi y.2).toArray 309 (0,0))]) (fun i _ y=>(s.vs key).reverse[i]? =some y.2) (fun _=>True) (fun _=>[cm o (Hr p L s),pool L,blk n (.cells #[Cs at_] 3 (0,0)),blk C (.cells #[Cs (rdV at_ (s.vs key).reverse)] 3 (0,0)),blk F (.cells #[Cs 0] 3 (0,0)),blk d (.cells #[Cs 0] 35 (0,0)),blk l (.cells #[.slice a (s.vs key).length c] 307 (0,0))]) () (back_it l a c (s.vs key) hvl) rfl (en 231) rfl rfl ?_ rfl ?_ ?_ ?_ ?_ ?_
 ·refine BD.2 fun xs f=>?_
  obtain⟨k,hk⟩:=List.getElem?_of_mem f
  obtain⟨_,v,_,_,rfl⟩:=bkI_at hk
  rfl
 ·intro i _ E w _ hw
  refine⟨?_,fun j u O=>?_⟩
  ·have:Go.Cru.hf w l=some _:=hw.mine (blk l (.cells #[.slice a (s.vs key).length c] 307 (0,0))) (by simp)
   rw[HU,Gx,this];rfl
  ·obtain⟨x,e,h4⟩:=G.rd _ (hw.mine (pool L) (by simp)) j u O
   exact⟨x,e,by rw[HU];exact h4⟩
 ·intro i _ xs D K r f _
  obtain⟨_,v,_,m,rfl⟩:=bkI_at f
  refine GK rfl ?_
  refine O6 (YQ zr309) fun t=>?_
  refine OA 2 ?_
  exact⟨rfl,(t,v),m,Sb5,.refl _⟩
 ·rintro i _ ⟨t,v⟩ xs D K r f hi m
  change rdV at_ ((s.vs key).reverse.drop i)=_ at hi
  rw[rdV_drop m]at hi
  refine Oz ?_
  refine Wm (GK rfl ?_)
  refine OA 5 ?_
  refine TCR_cond rfl (fun ht=>?_) (fun ht=>?_)
  ·rw[Ah (of_decide_eq_true ht)]at hi
   refine Wm (GK rfl ?_)
   refine OA 6 ?_
   refine TCR_ret ?_
   rw[hi]
   exact .inr ⟨rfl,(),trivial,.cons_cons _ (.cons_cons _ (.cons_cons _ (.cons_cons _ (.cons_cons _ (.cons_cons _ (.cons_cons _ (.cons_cons _ (.cons_cons _ (An _)))))))))⟩
  ·rw[Aa (of_decide_eq_false ht)]at hi
   refine TCR_skip ?_
   exact .inl ⟨rfl,(),hi,.cons_cons _ (.cons_cons _ (.cons_cons _ (.cons_cons _ (.cons_cons _ (.cons_cons _ (.cons_cons _ (.cons_cons _ (.cons_cons _ (An _)))))))))⟩
 ·intro D _ hi
  refine FU (Na ?_)
  change rdV at_ ((s.vs key).reverse.drop (bkI (s.vs key)).length)=_ at hi
  rw[AM (by unfold bkI;simp)]at hi
  refine KT rfl rfl YO ?_
  rintro _ _ ⟨rfl,rfl⟩
  refine KT rfl rfl YO ?_
  rintro _ _ ⟨rfl,rfl⟩
  refine KT rfl rfl YO ?_
  rintro _ _ ⟨rfl,rfl⟩
  refine Wf ?_
  refine Wr ?_
  rw[<-hi]
  refine .inr ⟨D,_,rfl,rfl,retS3 rfl rfl rfl rfl at3 at4 at5 u3 u3 u35 rfl rfl rfl ?_⟩
  exact fun w ho=>(Cv.then (YN (.t0 (.t0 .e))) fun _ e=>YM ⟨rfl,o,e⟩) w ho
 ·intro D _ _
  refine .inr ⟨D,_,rfl,rfl,retS3 rfl rfl rfl rfl at3 at4 at5 u3 u3 u35 rfl rfl rfl ?_⟩
  exact fun w ho=>(Cv.then (YN (.t0 (.t0 .e))) fun _ e=>YM ⟨rfl,o,e⟩) w ho
def RU(xs ys:V_)(q:Nat):V_:=xs.take q++ys++xs.drop q
theorem ins_grow{xs ys vs:V_}{q:Nat}(hq:q<=xs.length)(hy:ys.length=xs.length-q+vs.length):Oh (Oh (xs.take q++ys) vs q) (xs.drop q) (q+vs.length)=RU xs vs q:=by
 have h1:(xs.take q).length=q:=by rw[AF];omega
 have e1:Oh (xs.take q++ys) vs q=xs.take q++vs++ys.drop vs.length:=by
  unfold Oh
  rw[List.take_left' h1,List.drop_append,h1,AM (by rw[h1];omega),show q+vs.length-q=vs.length by omega];rfl
 have h2:(xs.take q++vs).length=q+vs.length:=by rw[Ac,h1]
 rw[e1]
 unfold Oh RU
 rw[List.take_left' h2,AM (l:=xs.take q++vs++ys.drop vs.length) (by rw[Ac,h2,AD,AD];omega),AH]
theorem XI{xs ys vs:V_}{q:Nat}(hq:q<=xs.length)(hy:ys.length=vs.length):Oh (Oh (xs++ys) (xs.drop q) (q+vs.length)) vs q=RU xs vs q:=by
 have e0:(xs++ys).length=xs.length+vs.length:=by rw[Ac,hy]
 have hl:((xs++ys).take (q+vs.length)).length=q+vs.length:=by rw[AF,e0];omega
 have e1:Oh (xs++ys) (xs.drop q) (q+vs.length)=(xs++ys).take (q+vs.length)++xs.drop q:=by
  unfold Oh
  rw[AM (l:=xs++ys) (by rw[e0,AD];omega),AH]
 rw[e1]
 unfold Oh RU
 rw[Ce (by omega),List.take_take,BC (by omega),List.drop_left' hl,Ce hq]
theorem LY(a:A_)(n c i y:Nat)(xs:V_)(v:Hq)(hi:i<=n)(hn:n<1099511627776)(f:∀u∈xs,EL u=true):
  Sp P0 206 [.slice a n c,Cs i,.slice (some ⟨y,0,none⟩) 1 1] [sq a n c 309 2 xs,blk y (.cells (Gi v).toArray 309 (0,0))] fun v' h=>∃t x,v'= .slice t (n+1) x/\h=[sq t (n+1) x 309 2 (RU xs (Gi v) (i*2))]:=by
 refine Sq Tryz.func206 fun w0 b_=>?_
 refine CO (p:=xs.length=n*2/\n<=c/\c<=maxLen) (fun w hw=>?_) fun⟨hxl,hnc,hcm⟩=>?_
 ·obtain⟨h1,h2⟩:=hw.mine (sq a n c 309 2 xs) (by simp)
  rcases h2 with ⟨_,e1,e2⟩|⟨_,_,_,_,e1,e2,_⟩
  ·exact⟨h1,by omega,by rw[e2];exact Af _⟩
  ·exact⟨h1,e1,e2⟩
 unfold maxLen at hcm
 refine OA 8 ?_
 refine O1 (ZB 2 i u307) ?_
 refine OA 13 ?_
 refine Cy rfl (fun d=>absurd d (by decide)) fun d=>?_
 refine OA 14 ?_
 refine Cy rfl (fun l=>?_) (fun l=>?_)
 ·obtain rfl:i=n:=by omega
  refine OA 4 ?_
  refine O2 (LO.app (ao:=a) el307) ?_
  rintro _ _ ⟨a2,c2,rfl,rfl⟩
  refine Mz (fun w hw=>hw.sqCap at0) fun⟨_,hx2⟩=>?_
  refine OA 2 ?_
  refine Tp (.t0 .e) ?_
  exact Cu (CB rfl rfl (.refl _) ⟨a2,c2,rfl,by unfold RU;rw[<-hxl,BJ,List.drop_length,AH]⟩)
 refine CO (fun w hw=>hw.sqNN (ao:=a) at0 (by omega)) fun⟨g,hg⟩=>?_
 subst hg
 refine OA 8 ?_
 refine O1 (Ct.capSl u307) ?_
 refine OA 2 ?_
 refine Cy rfl (fun o=>?_) (fun o=>?_)
 ·obtain⟨k,hk⟩:∃k,k=n+1-i:=⟨_,rfl⟩
  refine OA 4 ?_
  refine O1 (YK (v':=.slice (some ⟨g,0,none⟩) i c) (ZR 2 (i) u307) (by unfold EH;rw[Aa (by omega)];simp[add_lit])) ?_
  refine OA 5 ?_
  refine O2 (LO.appZ (k:=k) el307 u3 (Reads.sq.take (i*2)) rfl rfl (Dd rfl (by omega)) at0 (by rw[AF,hxl];omega) (by omega) (by omega) (by omega) (by unfold maxLen;omega) (by intro r;repeat constructor)) ?_
  rintro _ _ ⟨g2,c2,ys,rfl,hys,rfl⟩
  refine OA 2 ?_
  rw[show i+k=n+1 by omega]
  refine CO (fun w hw=>hw.sqCap at2) fun⟨A,_⟩=>?_
  refine OA 4 ?_
  refine O1 (YK (v':=.slice (some ⟨g2,i*2,none⟩) (n+1-i) (c2-i)) (ZB 2 (i) u307) (by unfold EH;rw[Aa (by omega)];simp[add_lit])) ?_
  refine O1 DC ?_
  refine O5 (LO.cpy (q:=i*2) (s:=2) (ys:=Gi v) u307 Reads.blk rfl rfl rfl rfl s2 at1 (by rw[Nat.min_eq_right (by omega)];rfl) (by show i*2+2<=_;omega) (fun u b=>BD.1 rfl u b)) ?_
  refine OA 2 ?_
  refine CS rfl (fun j=>Nat.beq j 8) ?_
  refine DP [0,1,2,3] ?_
  refine D1 4 rfl (YK (v':=.slice (some ⟨g2,(i+1)*2,none⟩) (n+1-(i+1)) (c2-(i+1))) (ZB 2 (i+1) u307) (by unfold EH;rw[Aa (by omega)];simp[add_lit])) ?_
  refine DP [5,6] ?_
  refine D1 7 rfl (YK (v':=.slice (some ⟨g,i*2,none⟩) (n-i) (c-i)) (ZB 2 (i) u307) (by unfold EH;rw[Aa (by omega)];simp[add_lit])) ?_
  refine Da 8 ?_
  refine D9 rfl (LO.cpy (q:=(i+1)*2) (s:=2) (ys:=xs.drop (i*2)) u307 (Reads.off Reads.sq (fun j u b=>by rwa [BW]at b)) rfl rfl rfl rfl s2 at0 (by rw[AD,hxl,BC (by omega)];omega) (by rw[AD,hxl];omega) (fun u b=>f u (Bw b))) ?_
  refine OA 6 ?_
  refine Tp (.t2 .e) ?_
  exact Cu (CB rfl rfl (.refl _) ⟨_,c2,rfl,by rw[show(i+1)*2=i*2+(Gi v).length from by show _=i*2+2;omega,ins_grow (by rw[hxl];omega) (by rw[hys,hxl];show _=_+2;omega)]⟩)
 refine OA 7 ?_
 refine O1 (YK (v':=.slice (some ⟨g,0,none⟩) (n+1) c) (ZR 2 (n+1) u307) (by unfold EH;rw[Aa (by omega)];simp[add_lit])) ?_
 refine OA 2 ?_
 refine Cx (Cv.wide (m:=n) (cap:=c) 1 (by omega) (by intro r;exact s0)) ?_
 rintro _ ⟨ys,hys,rfl⟩
 refine OA 8 ?_
 refine O1 (YK (v':=.slice (some ⟨g,(i+1)*2,none⟩) (n+1-(i+1)) (c-(i+1))) (ZB 2 (i+1) u307) (by unfold EH;rw[Aa (by omega)];simp[add_lit])) ?_
 refine Mz (fun w hw=>hw.apart at1 at0 (by decide)) fun hne=>?_
 refine O1 (Ct.ovl (tR:=4) Tryz.func235 (by kernel_rfl) (by kernel_rfl) (by kernel_rfl) (by kernel_rfl) u307 rfl rfl rfl rfl at1 at0 hne (by omega)) ?_
 refine OA 2 ?_
 refine CE rfl (fun e=>?_) (fun e=>?_)
 ·refine Ts (CS rfl (fun j=>Nat.beq j 8) ?_)
  refine DP [0,1,2,3] ?_
  refine D1 4 rfl (YK (v':=.slice (some ⟨g,(i+1)*2,none⟩) (n+1-(i+1)) (c-(i+1))) (ZB 2 (i+1) u307) (by unfold EH;rw[Aa (by omega)];simp[add_lit])) ?_
  refine DP [5,6] ?_
  refine D1 7 rfl (YK (v':=.slice (some ⟨g,i*2,none⟩) (n+1-i) (c-i)) (ZB 2 (i) u307) (by unfold EH;rw[Aa (by omega)];simp[add_lit])) ?_
  refine Da 8 ?_
  refine D9 rfl (LO.cpy (q:=(i+1)*2) (s:=2) (ys:=xs.drop (i*2)) u307 (Reads.off Reads.sq (fun j u b=>by rw[BW]at b;exact(Bh (Ab.1 b).1).trans b)) rfl rfl rfl rfl s0 at0 (by rw[AD,hxl,BC (by omega)];omega) (by rw[AD,hxl];omega) (fun u b=>f u (Bw b))) ?_
  refine OA 5 ?_
  refine O1 (YK (v':=.slice (some ⟨g,i*2,none⟩) (n+1-i) (c-i)) (ZB 2 (i) u307) (by unfold EH;rw[Aa (by omega)];simp[add_lit])) ?_
  refine O1 DC ?_
  refine O5 (LO.cpy (q:=i*2) (s:=2) (ys:=Gi v) u307 Reads.blk rfl rfl rfl rfl s0 at1 (by rw[Nat.min_eq_right (by omega)];rfl) (by show i*2+2<=_;omega) (fun u b=>BD.1 rfl u b)) ?_
  refine OA 6 ?_
  refine Tp (.t0 .e) ?_
  exact Cu (CB rfl rfl (.refl _) ⟨_,c,rfl,by rw[show(i+1)*2=i*2+(Gi v).length from by show _=i*2+2;omega,XI (by rw[hxl];omega) (by rw[hys];rfl)]⟩)
 cases e
def It(vs:List Hq)(t v:Int):List Hq:=if bsS vs t=true then vs.set (Ob vs t) ⟨(vs.getD (Ob vs t) ⟨0,0⟩).at_,v⟩else vs.take (Ob vs t)++⟨t,v⟩::vs.drop (Ob vs t)
def putK(t:Int)(ks:List (Int×List Hq))(o:Es):List (Int×List Hq):=aset o.key (It ((alk o.key ks).getD []) t o.val) ks
def NK(t:Int):List (Int×List Hq)->List Es->List (Int×List Hq)
 |ks,[]=>ks
 |ks,o::os=>NK t (putK t ks o) os
def Fj.finK(s:Fj)(e:NY):List (Int×List Hq):=if e.commit=true then NK e.at_ s.keys ((alk e.txn s.ready).getD Hx).writes else s.keys
def Fj.fin(s:Fj)(e:NY):Fj:=if(alk e.txn s.ends).isSome=true then s else ⟨s.serial,s.finK e,adel e.txn s.ready,aset e.txn e s.ends⟩
theorem bsI_le(vs:List Hq)(t:Int):Ob vs t<=vs.length:=Vh vs t vs.length 0 vs.length (Af _)
theorem SF(vs:List Hq)(t v:Int):(It vs t v).length<=vs.length+1:=by
 have:=bsI_le vs t
 unfold It
 split
 ·rw[AQ];omega
 ·simp only[List.length_append,List.length_take,List.length_cons,List.length_drop];omega
theorem Tt:∀(vs:List Hq) (i:Nat),(vs.take i).flatMap Gi=(vs.flatMap Gi).take (i*2)
 |[],i=>by simp
 |v::vs,0=>by simp
 |v::vs,i+1=>by rw[List.take_succ_cons,Az,Az,Tt vs i,show(i+1)*2=i*2+1+1 by omega];rfl
theorem TA:∀(vs:List Hq) (i:Nat),(vs.drop i).flatMap Gi=(vs.flatMap Gi).drop (i*2)
 |[],i=>by simp
 |v::vs,0=>by simp
 |v::vs,i+1=>by rw[List.drop_succ_cons,Az,TA vs i,show(i+1)*2=i*2+1+1 by omega];rfl
theorem WC:∀(vs:List Hq) (i:Nat) (v:Int),i<vs.length->(vs.set i ⟨(vs.getD i ⟨0,0⟩).at_,v⟩).flatMap Gi=(vs.flatMap Gi).set (i*2+1) (gI v)
 |[],i,_,h=>by simp at h
 |x::vs,0,v,_=>by simp
 |x::vs,i+1,v,h=>by
  rw[List.set_cons_succ,Az,Az,show(i+1)*2+1=(i*2+1)+1+1 by omega]
  have:=WC vs i v (by simpa using h)
  simp only[List.getD_cons_succ]
  rw[this];rfl
theorem VK(vs:List Hq)(i:Nat)(v:Hq):RU (vs.flatMap Gi) (Gi v) (i*2)=(vs.take i++v::vs.drop i).flatMap Gi:=by
 unfold RU
 rw[AI,Az,Tt,TA,Ao]
theorem TO.got2{L:PL}{b:List (Int×V_)}{rs:List (Int×Ge)}(h:AR (TO L) b rs)(k:Int):∃d wc e f,(alk k b).getD (Jg Hx (.slice none 0 0) (.slice none 0 0))=Jg ((alk k rs).getD Hx) (.slice d ((alk k rs).getD Hx).writes.length wc) (.slice e ((alk k rs).getD Hx).reads.length f)/\Dx L (.slice d ((alk k rs).getD Hx).writes.length wc) Et ((alk k rs).getD Hx).writes:=by
 rcases h.alk k with ⟨h1,h2⟩|⟨c,x,h1,h2,i,g,h3,hw,hr⟩
 ·exact⟨none,0,none,0,by rw[h1,h2];rfl,by rw[h2];exact Dx.nil _ _⟩
 ·obtain⟨d,wc,rfl,_⟩:=hw.sh
  obtain⟨e,f,rfl,_⟩:=hr.sh
  exact⟨d,wc,e,f,by rw[h1,h2];exact h3,by rw[h2];exact hw⟩
theorem QX(p:Nat)(S:N_)(L:PL)(s:Fj)(hf:s.Fit)(e:NY)(N:Nat)(hN:∀k,((alk k s.keys).getD []).length<=N)(a0:N+16777216<1099511627776):
  Sp P0 158 [Cr p,gE e] [cm S (Hr p L s),pool L] fun v h=>v= Cs 0/\∃L' S',Le L L'/\h=[cm S' (Hr p L' (s.fin e)),pool L']:=by
 refine Sq Tryz.func158 fun w0 b_=>?_
 refine Cx (Cv.op (.p0 .d)) ?_
 rintro _ ⟨_,⟨C,D,eb,G,f,rfl,I,q⟩,rfl⟩
 refine Cx (YN (.t1 (.t1 (.t1 (.t1 (.t0 .e)))))) ?_
 rintro _ rfl
 obtain⟨Z,wc,ra,rc,e',J⟩:=TO.got2 q e.txn
 have hwl:((alk e.txn s.ready).getD Hx).writes.length<=16777216:=by
  cases h:alk e.txn s.ready with
  |none=>exact Af _
  |some x=>exact(hf.readyF _ _ h).writes
 have E:s.finK e=if e.commit=true then NK e.at_ s.keys ((alk e.txn s.ready).getD Hx).writes else s.keys:=rfl
 obtain⟨r,hr⟩:∃r,r=(alk e.txn s.ready).getD Hx:=⟨_,rfl⟩
 rw[<-hr]at e' J hwl E
 refine OA 2 ?_
 refine O6 YR fun b3=>?_
 refine OA 12 ?_
 refine Cw (.t (.s2 (.t (.s (.t .d))))) rfl (fun j=>Nat.beq j 11) ?_
 intro t
 refine DA [0,1,2,3,4,5] ?_
 refine D1 6 rfl (YK (v':=.tuple [gE ((alk e.txn s.ends).getD ⟨0,false,0⟩),.bool (alk e.txn s.ends).isSome].toArray) (Qan (g:=gE) (z:=gE ⟨0,false,0⟩) e.txn u254 u3) (by cases alk e.txn s.ends<;>rfl)) ?_
 refine DA [7,8] ?_
 refine D2 9 rfl (fun _=>Yo) ?_
 refine Da 10 ?_
 refine D6 rfl (YQ zr98) ?_
 rintro _ _ ⟨b5,rfl,rfl⟩
 refine ys (Da 11 ?_)
 refine D8 rfl YO ?_
 refine D2 12 rfl (fun _=>FC) ?_
 refine D0 (Tp (.t0 (.t0 (.t0 (.t0 (.t0 (.t0 .e)))))) (OA 4 ?_))
 refine CE rfl (fun y=>?_) (fun y=>?_)
 ·rw[show s.fin e=s by unfold Fj.fin;rw[Ah y]]
  refine OA 4 ?_
  refine Tx (YL (.p0 (.p0 (.p0 (.p0 .d)))) (A:=Hr p L s) ⟨C,D,eb,G,f,rfl,I,q⟩) fun T=>Tp (.t2 (.t0 .e)) ?_
  exact Cu (Rr ⟨rfl,L,T,.refl _,rfl⟩)
 rw[show s.fin e=⟨s.serial,s.finK e,adel e.txn s.ready,aset e.txn e s.ends⟩ by unfold Fj.fin;rw[Aa (by rw[y];exact AS)]]
 refine OA 2 ?_
 refine Cw (.t (.s (.t (.s2 (.t .d))))) rfl (fun j=>Nat.beq j 11) ?_
 intro t
 refine DA [0,1,2,3,4,5] ?_
 refine D1 6 rfl (YK (v':=.tuple [gA (Jg r (.slice Z r.writes.length wc) (.slice ra r.reads.length rc)),.bool (alk e.txn s.ready).isSome].toArray) (Qan (g:=gA) (z:=gA (Jg Hx (.slice none 0 0) (.slice none 0 0))) e.txn u272 u3) (by rw[<-e',<-q.some];cases alk e.txn f<;>rfl)) ?_
 refine DA [7,8] ?_
 refine D2 9 rfl (fun _=>Yo) ?_
 refine Da 10 ?_
 refine D6 rfl (YQ Lx) ?_
 rintro _ _ ⟨b7,rfl,rfl⟩
 refine ys (Da 11 ?_)
 refine D8 rfl YO ?_
 refine D2 12 rfl (fun _=>FC) ?_
 refine D0 (Tp (.t0 (.t0 (.t0 (.t0 (.t1 (.t0 (.t0 .e))))))) (OA 2 ?_))
 refine CP (fun(_:Unit)=>[(0,Cr p),(3,Cr b3),(7,Cr b7),(41,.bool ((alk e.txn s.ready).isSome && e.commit))]) (fun _=>[Ut p s C D eb,Dm C id G,Dm D gA f,Dm eb gE s.ends,blk b3 (.cells (env e).toArray 98 (0,0)),pool L,blk b7 (.cells (Jg r (.slice Z r.writes.length wc) (.slice ra r.reads.length rc)).toArray 201 (0,0))]) (fun _=>True) ?_ ?_
 ·refine OA 3 ?_
  refine Df 38 rfl (fun B=>?_) (fun B=>?_)
  ·refine OA 4 ?_
   exact⟨(),trivial,⟨rfl,rfl,rfl,by rw[B];rfl,trivial⟩,.refl _⟩
  refine OA 4 ?_
  exact⟨(),trivial,⟨rfl,rfl,rfl,by rw[B];rfl,trivial⟩,.refl _⟩
 rintro _ -
 refine CP (fun((L2,b):PL×List (Int×Value))=>[(0,Cr p),(3,Cr b3)]) (fun(L2,b)=>[Ut p s C D eb,Dm C id b,Dm D gA f,Dm eb gE s.ends,blk b3 (.cells (env e).toArray 98 (0,0)),pool L2]) (fun(L2,b)=>Le L L2/\AR (VsR L2) b (s.finK e)) ?_ ?_
 ·refine CE rfl (fun d=>?_) (fun d=>?_)
  ·have ht42:=(Bool.and_eq_true_iff.1 d).2
   rw[Ah ht42]at E
   refine OA 7 ?_
   refine Tp (.t0 (.t0 (.t0 (.t0 (.t0 (.t0 .e)))))) (Tb (CD (fun((i,L2,b,c):Nat×PL×List (Int×Value)×List (Int×List Hq))=>[(0,Cr p),(3,Cr b3),(43,.slice Z r.writes.length wc),(44,Cs r.writes.length),(45,Cs i)]) (fun(i,L2,b,c)=>[Ut p s C D eb,Dm C id b,Dm D gA f,Dm eb gE s.ends,blk b3 (.cells (env e).toArray 98 (0,0)),pool L2]) (fun(i,L2,b,c)=>Le L L2/\AR (VsR L2) b c/\i<=r.writes.length/\NK e.at_ c (r.writes.drop i)=s.finK e/\∀k,((alk k c).getD []).length<=N+i) (fun(i,_)=>r.writes.length-i) (0,L,G,s.keys) ?_ ?_))
   ·exact⟨⟨.refl _,I,Af _,E.symm,hN⟩,Sb5,.refl _⟩
   rintro⟨i,L2,b,c⟩ ⟨hL,m,hi,he,hb⟩
   conv=>arg 7;dsimp only
   conv=>arg 8;dsimp only
   refine OA 5 ?_
   refine Cy rfl (fun P=>?_) (fun P=>?_)
   ·obtain⟨o,hx⟩:∃o,r.writes[i]? =some o:=⟨_,Ae (by omega)⟩
    have hc:∀k u,(Et o)[k]? =some u->(r.writes.flatMap Et)[i*3+k]? =some u:=ED (g:=Et) (s:=3) (fun _=>rfl) hx
    have hil:=(Ab.1 hx).1
    have W:r.writes.drop i=o::r.writes.drop (i+1):=by rw[Ay hil,(Ab.1 hx).2]
    rw[W]at he
    change NK e.at_ (aset o.key (It ((alk o.key c).getD []) e.at_ o.val) c) (r.writes.drop (i+1))=_ at he
    refine CM at5 (J.le hL).rd (hc 0 _ rfl) fun ad V=>?_
    subst V
    obtain⟨Q,R,hv,_,_⟩:=(KJ m o.key).sh
    have O:Dx L2 (.slice Q ((alk o.key c).getD []).length R) Gi ((alk o.key c).getD []):=hv▸KJ m o.key
    have hbo:=hb o.key
    obtain⟨vs,Y⟩:∃x,x=(alk o.key c).getD []:=⟨_,rfl⟩
    rw[<-Y]at hv O hbo he
    have hvl:=bsI_le vs e.at_
    refine OA 5 ?_
    refine O1 (Jt i u60) ?_
    refine O1 (YW (j:=i*3) u64 (J.le hL).rd hc rfl) ?_
    refine O6 (YQ XP) fun K=>?_
    refine OA 3 ?_
    refine CS rfl (fun j=>false) ?_
    refine DA [0,1,2,3,4,5] ?_
    refine D1 6 rfl (YK (ZF (g:=id) (z:=.slice none 0 0) o.key u273 u3) hv) ?_
    refine D1 7 rfl FC ?_
    refine OA 6 ?_
    refine O8 (Zd rfl (en 203) rfl (.p5 .d) (bs_spec Q R vs L2 O (by omega) e.at_)) ?_
    refine OA 11 ?_
    refine CP (fun((a2,c2):A_×Nat)=>[(0,Cr p),(3,Cr b3),(10,Cr K),(11,.slice a2 (It vs e.at_ o.val).length c2),(43,.slice (some ad) r.writes.length wc),(44,Cs r.writes.length),(45,Cs i)]) (fun(a2,c2)=>[Ut p s C D eb,Dm C id b,Dm D gA f,Dm eb gE s.ends,blk b3 (.cells (env e).toArray 98 (0,0)),blk K (.cells (Et o).toArray 64 (0,0)),pool L2,sq a2 (It vs e.at_ o.val).length c2 309 2 ((It vs e.at_ o.val).flatMap Gi)]) (fun _=>True) ?_ ?_
    ·refine CE rfl (fun l=>?_) (fun l=>?_)
     ·have hlt:Ob vs e.at_<vs.length:=by
       have h:=l
       unfold bsS at h
       cases hq:vs[Ob vs e.at_]? with
       |none=>rw[hq]at h;cases h
       |some x=>exact(Ab.1 hq).1
      have n:(It vs e.at_ o.val)=vs.set (Ob vs e.at_) ⟨(vs.getD (Ob vs e.at_) ⟨0,0⟩).at_,o.val⟩:=by unfold It;rw[Ah l]
      refine OA 3 ?_
      refine Oc rfl (en 205) rfl (.p6 .d) (IB Q vs.length R (vs.flatMap Gi) (pool L2) O.rd (Ft (g:=Gi) (fun _=>rfl) vs) (GH (g:=Gi) (fun _=>rfl)) (by omega)) ?_
      rintro _ _ ⟨a2,c2,rfl,rfl⟩
      refine OA 2 ?_
      refine CO (fun w hw=>hw.sqNN (ao:=a2) at7 (by omega)) fun⟨g2,hg⟩=>?_
      subst hg
      refine OA 5 ?_
      refine O1 (YK (v':=.pointer (some ⟨g2,Ob vs e.at_*2,none⟩)) (Jt (Ob vs e.at_) u307) (by rw[add_lit,AE];rfl)) ?_
      refine O1 (zYF rfl rfl) ?_
      refine O4 LO.sqS ?_
      refine On ?_
      exact⟨(some ⟨g2,0,none⟩,c2),trivial,⟨rfl,rfl,rfl,by rw[n,AQ];rfl,rfl,rfl,rfl,trivial⟩,by rw[n,AQ,WC vs _ _ hlt];exact .refl _⟩
     have n:(It vs e.at_ o.val)=vs.take (Ob vs e.at_)++⟨e.at_,o.val⟩::vs.drop (Ob vs e.at_):=by unfold It;rw[Aa (by rw[l];exact AS)]
     have F:(It vs e.at_ o.val).length=vs.length+1:=by rw[n,Ac,Am,AF,AD];omega
     refine Cw (.s4 (.t (.t .d))) rfl (fun j=>false) ?_
     intro t
     refine DA [0,2,3,4,5,6,7] ?_
     refine Jy 1 8 ?_ ?_
     ·refine DB rfl rfl (en 205) rfl (.p6 .d) (IB Q vs.length R (vs.flatMap Gi) (pool L2) O.rd (Ft (g:=Gi) (fun _=>rfl) vs) (GH (g:=Gi) (fun _=>rfl)) (by omega)) ?_
      rintro _ _ ⟨a3,U,rfl,rfl⟩
      refine ys (Da 8 ?_)
      refine D6 rfl (YY u307) ?_
      rintro _ _ ⟨H,rfl,rfl⟩
      refine ys (Da 9 ?_)
      refine DB rfl rfl (en 206) rfl (.p7 (.p7 .d)) (LY a3 vs.length U (Ob vs e.at_) H (vs.flatMap Gi) ⟨e.at_,o.val⟩ hvl (by omega) (GH (g:=Gi) (fun _=>rfl))) ?_
      rintro _ _ ⟨a2,c2,rfl,rfl⟩
      refine ys (D1 10 rfl FC ?_)
      refine D0 ?_
      exact⟨(a2,c2),trivial,⟨rfl,rfl,rfl,by rw[F];rfl,rfl,rfl,rfl,trivial⟩,by rw[F,n,<-VK];exact .refl _⟩
     refine D6 rfl (YY u307) ?_
     rintro _ _ ⟨H,rfl,rfl⟩
     refine ys (Da 1 ?_)
     refine DB rfl rfl (en 205) rfl (.p6 .d) (IB Q vs.length R (vs.flatMap Gi) (pool L2) O.rd (Ft (g:=Gi) (fun _=>rfl) vs) (GH (g:=Gi) (fun _=>rfl)) (by omega)) ?_
     rintro _ _ ⟨a3,U,rfl,rfl⟩
     refine ys (Da 9 ?_)
     refine DB rfl rfl (en 206) rfl (.p8 (.p6 .d)) (LY a3 vs.length U (Ob vs e.at_) H (vs.flatMap Gi) ⟨e.at_,o.val⟩ hvl (by omega) (GH (g:=Gi) (fun _=>rfl))) ?_
     rintro _ _ ⟨a2,c2,rfl,rfl⟩
     refine ys (D1 10 rfl FC ?_)
     refine D0 ?_
     exact⟨(a2,c2),trivial,⟨rfl,rfl,rfl,by rw[F];rfl,rfl,rfl,rfl,trivial⟩,by rw[F,n,<-VK];exact .refl _⟩
    rintro⟨a2,c2⟩ -
    refine Cx (Zg (.p6 (.p6 .d))) ?_
    rintro _ ⟨L3,M,X,rfl⟩
    refine Cw (.t (.s4 (.t .d))) rfl (fun j=>false) ?_
    intro t
    refine DA [0,1,2,3,4,5,6] ?_
    refine Da 7 ?_
    refine D7 rfl (ZK (g:=id) o.key (.slice a2 (It vs e.at_ o.val).length c2) u273 u3) ?_
    rintro _ _ ⟨rfl,rfl⟩
    refine ys (OA 5 ?_)
    exact⟨(i+1,L3,aset o.key (.slice a2 (It vs e.at_ o.val).length c2) b,aset o.key (It vs e.at_ o.val) c),⟨⟨hL.trans M,(m.mono fun _ _ h=>Dx.le M h).aset o.key X,by omega,he,fun k=>by rw[DE];have h1:=SF vs e.at_ o.val;have h2:=hb k;split;(show(It vs e.at_ o.val).length<=_;omega);omega⟩,⟨rfl,rfl,rfl,rfl,Dd rfl (by omega),trivial⟩,.cons_cons _ (.cons_cons _ (.cons_cons _ (.cons_cons _ (.cons_cons _ (.cons _ (.refl _))))))⟩,by simp only;omega⟩
   rw[AM (by omega)]at he
   refine Te ?_
   exact⟨(L2,b),⟨hL,he▸m⟩,Sb2,.refl _⟩
  have hrn:s.finK e=s.keys:=by
   rw[E,hr]
   cases h:alk e.txn s.ready with
   |none=>split<;>rfl
   |some x=>rw[h]at d;rw[Aa (by intro h2;rw[h2]at d;cases d)]
  refine Tk ?_
  exact⟨(L,G),⟨.refl _,hrn▸I⟩,Sb2,.cons_cons _ (.cons_cons _ (.cons_cons _ (.cons_cons _ (.cons_cons _ (.cons_cons _ (An _))))))⟩
 rintro⟨L2,b⟩ ⟨hL,m⟩
 refine Ts (Cw (.t (.s3 (.t .d))) rfl (fun j=>false) ?_)
 intro t
 refine DA [0,1,2,3,4,5] ?_
 refine Da 6 ?_
 refine D7 rfl (LO.delA (g:=gA) e.txn (q.kn hf.ready) u272 u3) ?_
 rintro _ _ ⟨rfl,rfl⟩
 refine ys (OA 2 ?_)
 refine Cw (.t (.s3 (.t .d))) rfl (fun j=>false) ?_
 intro t
 refine DA [0,1,2,3,4,5,6] ?_
 refine Da 7 ?_
 refine D7 rfl (ZK (g:=gE) e.txn e u254 u3) ?_
 rintro _ _ ⟨rfl,rfl⟩
 refine ys (OA 5 ?_)
 refine Tx (YL (.p0 (.p0 (.p0 (.p0 .d)))) (A:=Hr p L2 ⟨s.serial,s.finK e,adel e.txn s.ready,aset e.txn e s.ends⟩) ⟨C,D,eb,b,adel e.txn f,rfl,m,(q.mono fun _ _ h=>h.le hL).adel e.txn⟩) fun T=>Tp (.t2 (.t1 .e)) ?_
 exact Cu (Rr ⟨rfl,L2,T,hL,rfl⟩)
structure FA where
 store:Fj
 stamps:Int
 now:Int
 decided:List (Int×NY)
abbrev shc(m:FA)(q db:Nat):V_:=[Cr q,Cs 0,Cs m.stamps,Cs m.now,.map (some db)]
abbrev ShB(p:Nat)(m:FA)(q db:Nat):CW:=blk p (.cells (shc m q db).toArray 256 (0,0))
def Ih(p:Nat)(L:PL)(m:FA)(rs:Mem):Prop:=∃(q db:Nat) (b:Mem),rs=[ShB p m q db,Dm db gE m.decided]++b/\Hr q L m.store b
theorem Ih.le{p:Nat}{L L':PL}{m:FA}(k:Le L L'):∀rs,Ih p L m rs->Ih p L' m rs:=by
 rintro rs ⟨q,db,b,e,h⟩
 exact⟨q,db,b,e,Hr.le k _ h⟩
section
variable {w0:World}{b_:N_}{h c:Mem}{S:N_}{p q db:Nat}{L:PL}{m:FA}
theorem Cv.shO(s:Ps h [cm S (Ih p L m)] c):Cv w0 b_ h fun h'=>∃q db d,h'=c++[ShB p m q db,Dm db gE m.decided,cm d (Hr q L m.store)]:=
 Cv.then (Cv.sp (ι:=Nat×Nat) (fun i=>[ShB p m i.1 i.2,Dm i.2 gE m.decided]) (fun i=>Hr i.1 L m.store) s fun _ ⟨q,db,b,e,h⟩=>⟨(q,db),b,e,h⟩) fun _ ⟨i,d,e⟩=>YM ⟨i.1,i.2,d,by rw[e,Ao];rfl⟩
theorem Qae(s:Ps h [ShB p m q db,Dm db gE m.decided,cm S (Hr q L m.store)] c):Cv w0 b_ h fun h'=>∃d,h'=c++[cm d (Ih p L m)]:=
 Cv.mg [ShB p m q db,Dm db gE m.decided] rfl s fun b h=>⟨q,db,b,rfl,h⟩
end
def sh0(b:Bool)(c:Int):FA:=⟨st0 b,c,0,[]⟩
def Sf(by_:Int):Int->List Ge->Int
 |h,[]=>h
 |h,w::ws=>Sf by_ (if w.txn=by_ then w.home else h) ws
def FA.locked(m:FA)(by_ e:Int):Jd:={Kv with err:=e,by_:=by_,home:=if e=60 then Sf by_ 0 m.store.waits else 0}
theorem GF(b:Bool)(c:Int)(L:PL):Sp P0 140 [.bool b,Cs 0,Cs c] [] fun v h=>∃p S,v= .pointer (some ⟨p,0,none⟩)/\h=[cm S (Ih p L (sh0 b c))]:=by
 refine Sq Tryz.func140 fun w0 b_=>?_
 refine OA 8 ?_
 refine O2 (YP rfl (en 187) rfl (.d) (Vn b L)) ?_
 rintro _ _ ⟨_,⟨q,g,rfl,rfl⟩,rfl⟩
 refine OA 2 ?_
 refine O6 (YS gE) fun f=>?_
 refine O1 (Xb bt256.h) ?_
 refine O6 YR fun d=>?_
 refine OA 2 ?_
 refine Tx (Qae (m:=sh0 b c) (.p2 (.p1 (.p0 .d)))) fun e=>?_
 exact Cu (CB rfl rfl (.refl _) ⟨d,e,rfl,rfl⟩)
theorem Ql(p q db:Nat)(m:FA):Sp P0 116 [Cr p] [ShB p m q db] fun v h=>v= .pointer (some ⟨q,0,none⟩)/\h=[ShB p m q db]:=by
 refine Sq Tryz.func116 fun w0 b_=>?_
 refine OA 20 ?_
 exact Cu (Rr ⟨rfl,rfl⟩)
theorem LQ(p q db:Nat)(S:N_)(L:PL)(m:FA)(hf:m.store.Fit)(by_ e:Int):Sp P0 156 [Cr p,Cs by_,Cs e] [ShB p m q db,cm S (Hr q L m.store),pool L] fun v h=>v=gA (Ue (m.locked by_ e) (.slice none 0 0))/\∃L' y,Le L L'/\h=[ShB p m q db,cm y (Hr q L' m.store),pool L']:=by
 unfold FA.locked
 refine Sq Tryz.func156 fun w0 b_=>?_
 refine OA 2 ?_
 refine O6 (YQ Ib) fun t=>?_
 refine OA 6 ?_
 refine O6 (YQ Ib) fun u=>?_
 refine OA 8 ?_
 refine CH rfl (fun d=>?_) (fun d=>?_)
 ·rw[Aa d]
  refine OA 5 ?_
  exact Cu (Em u193 (.cons_cons _ (.cons_cons _ (.cons_cons _ (An _)))) ⟨rfl,L,S,.refl _,rfl⟩)
 obtain rfl:e=60:=by omega
 rw[Ah rfl]
 refine OA 8 ?_
 refine Oc rfl (en 117) rfl (.p1 (.p1 .d)) (MJ q S L m.store hf) ?_
 rintro _ _ ⟨L2,r,cs,hL,hps,l,rfl⟩
 have hps':=hps
 obtain⟨A,wc,rfl,_,o,_⟩:=hps'
 unfold maxLen at o
 refine OA 3 ?_
 refine Tp (.t0 (.t2 (.t2 (.t0 (.t0 .e))))) (Tb (CD (fun((i,x):Nat×Int)=>[(0,Cr p),(1,Cs by_),(2,Cs 60),(6,Cr t),(7,Cr u),(20,.slice A m.store.waits.length wc),(21,Cs m.store.waits.length),(22,Cs i)]) (fun(i,x)=>[ShB p m q db,cm r (Hr q L2 m.store),pool L2,blk t (.cells (Ue Kv (.slice none 0 0)).toArray 193 (0,0)),blk u (.cells (Ue {Kv with err:=60,by_:=by_,home:=x} (.slice none 0 0)).toArray 193 (0,0))]) (fun(i,x)=>i<=m.store.waits.length/\Sf by_ x (m.store.waits.drop i)=Sf by_ 0 m.store.waits) (fun(i,_)=>m.store.waits.length-i) (0,0) ?_ ?_))
 ·exact⟨⟨Af _,rfl⟩,Sb8,.refl _⟩
 rintro⟨i,x⟩ ⟨hi,he⟩
 conv=>arg 7;dsimp only
 conv=>arg 8;dsimp only
 refine OA 5 ?_
 refine Cy rfl (fun f=>?_) (fun f=>?_)
 ·obtain⟨w,hx⟩:∃w,m.store.waits[i]? =some w:=⟨_,Ae (by omega)⟩
  obtain⟨_,⟨D,C,rfl,hw1,n⟩,hc⟩:=l.at (s:=5) (fun c x h=>by obtain⟨_,_,rfl,_⟩:=h;rfl) hx
  obtain⟨E,F,rfl,_,_⟩:=hw1.sh
  obtain⟨G,H,rfl,_,_⟩:=n.sh
  have hil:=(Ab.1 hx).1
  have k:m.store.waits.drop i=w::m.store.waits.drop (i+1):=by rw[Ay hil,(Ab.1 hx).2]
  rw[k]at he
  change Sf by_ (if w.txn=by_ then w.home else x) (m.store.waits.drop (i+1))=_ at he
  refine CM at2 (Reads.pool hps) (hc 0 _ rfl) fun ad g=>?_
  subst g
  refine OA 5 ?_
  refine O1 (Jt i u206) ?_
  refine O1 (YW (j:=i*5) u201 (Reads.pool hps) hc rfl) ?_
  refine O6 (YQ Lx) fun B=>?_
  refine OA 9 ?_
  refine Cy rfl (fun b=>?_) (fun b=>?_)
  ·rw[Ah b]at he
   refine OA 10 ?_
   exact⟨(i+1,w.home),⟨⟨by omega,he⟩,⟨rfl,rfl,rfl,rfl,rfl,rfl,rfl,Dd rfl (by omega),trivial⟩,.cons_cons _ (.cons_cons _ (.cons_cons _ (.cons_cons _ (.cons_cons _ (An _)))))⟩,by simp only;omega⟩
  rw[Aa b]at he
  refine OA 5 ?_
  exact⟨(i+1,x),⟨⟨by omega,he⟩,⟨rfl,rfl,rfl,rfl,rfl,rfl,rfl,Dd rfl (by omega),trivial⟩,.cons_cons _ (.cons_cons _ (.cons_cons _ (.cons_cons _ (.cons_cons _ (An _)))))⟩,by simp only;omega⟩
 rw[AM (by omega)]at he
 refine OA 6 ?_
 exact Cu (Em u193 (.cons_cons _ (.cons_cons _ (.cons_cons _ (An _)))) ⟨by rw[<-he],L2,r,hL,rfl⟩)
def FA.getL(m:FA)(c:KM):List Int->List Int->Jd
 |vs,[]=>{Kv with vals:=vs}
 |vs,k::ks=>if(m.store.read c.ready.txn k c.ready.start).2.2=0 then FA.getL m c (vs++[(m.store.read c.ready.txn k c.ready.start).1]) ks else m.locked (m.store.read c.ready.txn k c.ready.start).2.1 (m.store.read c.ready.txn k c.ready.start).2.2
def FA.prep(m:FA)(c:KM):FA:={m with store:=(m.store.prepare c.ready).1}
def FA.app(m:FA)(c:KM):Jd×FA:=
 if c.kind=1 then if m.stamps<=m.now then ({Kv with err:=63},m)else ({Kv with at_:=m.now+1},{m with now:=m.now+1})
 else if c.kind=2 then (m.getL c [] c.ready.reads,m)
 else if c.kind=3 then ((m.prep c).locked (m.store.prepare c.ready).2.1 (m.store.prepare c.ready).2.2,m.prep c)
 else if c.kind=4 then if(alk c.fin.txn m.decided).isSome=true then ({Kv with fin:=(alk c.fin.txn m.decided).getD Ma},m)else ({Kv with fin:=c.fin},{m with decided:=aset c.fin.txn c.fin m.decided})
 else (Kv,{m with store:=m.store.fin c.fin})
def FA.apply(m:FA)(b:N_):Jd×FA:=if(Fa b).2=0 then m.app (Fa b).1 else ({Kv with err:=(Fa b).2},m)
structure FA.Fit(m:FA)(N:Nat):Prop where
 store:m.store.Fit
 readyL:m.store.ready.length+1<1099511627776
 keys:∀k,((alk k m.store.keys).getD []).length<=N
 now:0<=m.now
 stamps:m.stamps<=1048576
 decided:KN m.decided
theorem Nr{β:Type}(k:Int)(v:β):∀l:List (Int×β),(aset k v l).length<=l.length+1
 |[]=>by simp[aset]
 |(j,u)::l=>by
  have:=Nr k v l
  unfold aset
  split<;>simp only[List.length_cons]<;>omega
theorem SC{β:Type}{k:Int}{v:β}:∀ {l:List (Int×β)} {q:Int×β},q∈aset k v l->q=(k,v)∨∃u,(q.1,u)∈l
 |[],q,h=>.inl (by simpa [aset] using h)
 |(j,u)::l,q,h=>by
  unfold aset at h
  split at h
  ·rcases AW.1 h with rfl|h
   ·exact .inl rfl
   ·exact .inr ⟨q.2,Aw _ h⟩
  ·rcases AW.1 h with rfl|h
   ·exact .inr ⟨u,Ar⟩
   ·rcases SC h with h|⟨w,h⟩
    ·exact .inl h
    ·exact .inr ⟨w,Aw _ h⟩
theorem QaJ{s:Fj}(h:s.Fit)(hl:s.ready.length+1<1099511627776){r:Ge}(hr:r.Fit)(hw:(Lit.int .i64 r.txn).wf=true):(s.prepare r).1.Fit:=by
 have key:({s with ready:=aset r.txn r s.ready}:Fj).Fit:=⟨h.ready.aset,by have:=Nr r.txn r s.ready;show(aset r.txn r s.ready).length<_;omega,fun q hq=>by
   rcases SC hq with rfl|⟨u,b⟩
   ·exact hw
   ·exact h.readyW (q.1,u) b,fun d x hd=>by
   have hd:alk d (aset r.txn r s.ready)=some x:=hd
   rw[DE]at hd
   split at hd
   ·cases hd;exact hr
   ·exact h.readyF d x hd,h.ends,h.keys,h.keysL⟩
 unfold Fj.prepare
 repeat' split
 all_goals first|exact h|exact key
theorem Um(p:Nat)(S:N_)(L:PL)(m:FA)(N:Nat)(hf:m.Fit N)(hN:N+16777216<1099511627776)(a:A_)(cap:Nat)(b:N_)(hB:Bs L (.slice a b.length cap) b)(hb:b.length<=1048576)(I:(Lit.int .i64 (Fa b).1.ready.txn).wf=true):
  Sp P0 105 [Cr p,.slice a b.length cap] [cm S (Ih p L m),pool L] fun v h=>∃L' S' vv,Le L L'/\v=gA (Ue (m.apply b).1 vv)/\Dx L' vv zv (m.apply b).1.vals/\h=[cm S' (Ih p L' (m.apply b).2),pool L']:=by
 have h1:=hf.now;have h2:=hf.stamps
 have u:m.apply b=if(Fa b).2=0 then m.app (Fa b).1 else ({Kv with err:=(Fa b).2},m):=rfl
 refine Sq Tryz.func105 fun w0 b_=>?_
 refine Cx (Cv.shO (.p0 .d)) ?_
 rintro _ ⟨q,O,Q,rfl⟩
 refine Cx (YN (.t1 (.t1 (.t1 (.t0 .e))))) ?_
 rintro _ rfl
 refine OA 2 ?_
 refine O6 (YQ Ib) fun b4=>?_
 refine OA 12 ?_
 refine Oc rfl (en 154) rfl (.p3 .d) (UJ a cap b L hB hb) ?_
 rintro _ _ ⟨L2,cv,hL,rfl,hR,P,rfl⟩
 obtain⟨c,hc⟩:∃c,c=(Fa b).1:=⟨_,rfl⟩
 obtain⟨ec,V⟩:∃c,c=(Fa b).2:=⟨_,rfl⟩
 rw[<-hc]at hR P u I
 rw[<-V]at u ⊢
 obtain⟨wv,rv,rfl,J,w⟩:=hR
 obtain⟨wa,wc,rfl,_,_⟩:=J.sh
 obtain⟨ra,rc,rfl,_,_⟩:=w.sh
 have hrl:=P.reads
 refine OA 3 ?_
 refine O6 (YQ zr203) fun b5=>?_
 refine OA 3 ?_
 refine Ti (Cv.up (B:=Hr q L2 m.store) s2 (Hr.le hL)) (Tp (.t0 (.t0 (.t0 (.t1 (.t0 (.t0 .e)))))) (OA 6 ?_))
 refine CH rfl (fun t=>?_) (fun t=>?_)
 ·rw[u,Aa t]
  refine OA 6 ?_
  refine Tx (Qae (m:=m) (.p0 (.p0 (.p0 .d)))) fun e=>Tp (.t1 (.t2 (.t0 .e))) ?_
  exact Cu (Em u193 (.cons _ (.refl _)) ⟨L2,e,.slice none 0 0,hL,rfl,Dx.nil _ _,rfl⟩)
 rw[u,Ah t]
 refine OA 13 ?_
 refine Cy rfl (fun d=>?_) (fun d=>?_)
 ·have ea:m.app c=if m.stamps<=m.now then ({Kv with err:=63},m)else ({Kv with at_:=m.now+1},{m with now:=m.now+1}):=by unfold FA.app;rw[Ah d]
  refine OA 2 ?_
  refine CS rfl (fun j=>false) ?_
  refine DA [0,1,2,3,4,5,6,7,8] ?_
  refine D0 (Cy rfl (fun G=>?_) (fun G=>?_))
  ·rw[ea,Ah (by omega)]
   refine OA 5 ?_
   refine Tx (Qae (m:=m) (.p0 (.p0 (.p0 .d)))) fun e=>Tp (.t1 (.t2 (.t0 .e))) ?_
   exact Cu (Em u193 (.cons _ (.refl _)) ⟨L2,e,.slice none 0 0,hL,rfl,Dx.nil _ _,rfl⟩)
  rw[ea,Aa (by omega)]
  refine OA 21 ?_
  refine Tx (Qae (m:={m with now:=m.now+1}) (.p0 (.p0 (.p0 .d)))) fun e=>Tp (.t1 (.t2 (.t0 .e))) ?_
  exact Cu (Em u193 (.cons _ (.refl _)) ⟨L2,e,.slice none 0 0,hL,rfl,Dx.nil _ _,rfl⟩)
 skip
 refine OA 5 ?_
 refine Cy rfl (fun l=>?_) (fun l=>?_)
 ·rw[show m.app c=(m.getL c [] c.ready.reads,m) by unfold FA.app;rw[Aa d,Ah l]]
  refine OA 4 ?_
  refine Ti (Cv.nil 3 1) (OA 10 ?_)
  refine CD (fun((i,vs,M,D,K):Nat×List Int×N_×A_×Nat)=>[(0,Cr p),(4,Cr b4),(5,Cr b5),(7,.slice D vs.length K),(59,.slice ra c.ready.reads.length rc),(60,Cs c.ready.reads.length),(61,Cs i)]) (fun(i,vs,M,D,K)=>[ShB p m q O,Dm O gE m.decided,cm M (Hr q L2 m.store),pool L2,blk b4 (.cells (Ue Kv (.slice none 0 0)).toArray 193 (0,0)),blk b5 (.cells (cmv c (.slice wa c.ready.writes.length wc) (.slice ra c.ready.reads.length rc)).toArray 203 (0,0)),sq D vs.length K 3 1 (vs.flatMap zv)]) (fun(i,vs,_)=>i<=c.ready.reads.length/\vs.length=i/\m.getL c vs (c.ready.reads.drop i)=m.getL c [] c.ready.reads) (fun(i,_)=>c.ready.reads.length-i) (0,[],Q,none,0) ?_ ?_
  ·exact⟨⟨Af _,rfl,rfl⟩,Sb7,.refl _⟩
  rintro⟨i,vs,M,D,K⟩ ⟨hi,hvl,he⟩
  conv=>arg 7;dsimp only
  conv=>arg 8;dsimp only
  refine OA 5 ?_
  refine Cy rfl (fun H=>?_) (fun H=>?_)
  ·obtain⟨k,hx⟩:∃k,c.ready.reads[i]? =some k:=⟨_,Ae (by omega)⟩
   have F:(c.ready.reads.flatMap zv)[i]? =some (gI k):=by have:=ED (g:=zv) (fun _=>rfl) hx 0 _ rfl;rwa [Bm]at this
   have hil:=(Ab.1 hx).1
   have U:c.ready.reads.drop i=k::c.ready.reads.drop (i+1):=by rw[Ay hil,(Ab.1 hx).2]
   rw[U]at he
   obtain⟨rd,hrd⟩:∃x,x=m.store.read c.ready.txn k c.ready.start:=⟨_,rfl⟩
   have s:(if rd.2.2=0 then m.getL c (vs++[rd.1]) (c.ready.reads.drop (i+1))else m.locked rd.2.1 rd.2.2)=m.getL c [] c.ready.reads:=by rw[<-he,hrd];rfl
   refine CM at3 w.rd F fun ad T=>?_
   subst T
   refine OA 5 ?_
   refine O1 (GO (i) u28) ?_
   refine O1 (Ct.reads (j:=i) rfl rfl at3 w.rd u3 rfl F) ?_
   refine OA 3 ?_
   refine Cw (.t (.s4 (.t .d))) rfl (fun j=>false) ?_
   intro y
   refine DA [0,1,2,3,4,5,6,7,8,9,10] ?_
   refine Da 11 ?_
   refine DB rfl rfl (en 155) rfl (.p2 (.p2 .d)) (SM q M L2 m.store hf.store c.ready.txn k c.ready.start) ?_
   rintro _ _ ⟨rfl,E,rfl⟩
   refine ys ?_
   rw[<-hrd]
   refine DA [12,13,14,15,16,17,18] ?_
   refine D0 (Tp (.t0 (.t0 (.t3 (.t3 (.t0 (.t0 (.t0 .e))))))) (OA 6 ?_))
   refine CH rfl (fun C=>?_) (fun C=>?_)
   ·rw[Aa C]at s
    refine OA 5 ?_
    refine Oc rfl (en 156) rfl (.p0 (.p1 (.p1 .d))) (LQ p q O E L2 m hf.store rd.2.1 rd.2.2) ?_
    rintro _ _ ⟨rfl,A,S6,f,rfl⟩
    refine OA 2 ?_
    refine Tx (Qae (m:=m) (.p4 (.p0 (.p3 .d)))) fun e=>Tp (.t0 (.t3 (.t2 .e))) ?_
    exact Cu (Em u193 (.cons _ (.refl _)) ⟨A,e,.slice none 0 0,hL.trans f,by rw[<-s],by rw[<-s];exact Dx.nil _ _,rfl⟩)
   rw[Ah (by omega)]at s
   refine OA 4 ?_
   refine O6 (YY u28) fun a1=>?_
   refine O2 (LO.app (ao:=D) Yq) ?_
   rintro _ _ ⟨Y,Z,rfl,rfl⟩
   refine OA 6 ?_
   exact⟨(i+1,vs++[rd.1],E,Y,Z),⟨⟨by omega,by simp only[List.length_append,List.length_cons,List.length_nil];omega,s⟩,⟨rfl,rfl,rfl,by simp only[List.length_append,List.length_cons,List.length_nil];exact rfl,rfl,rfl,Dd rfl (by omega),trivial⟩,by simp only[List.length_append,List.length_cons,List.length_nil,List.flatMap_append,List.flatMap_cons,List.flatMap_nil];exact .cons_cons _ (.cons_cons _ (.cons_cons _ (.cons_cons _ (.cons_cons _ (.cons_cons _ (.cons_cons _ (List.nil_sublist _)))))))⟩,by simp only;omega⟩
  rw[AM (by omega)]at he
  change ({Kv with vals:=vs}:Jd)=_ at he
  refine Cx (Zg (.p3 (.p5 .d))) ?_
  rintro _ ⟨A,f,X,rfl⟩
  refine Ti (Cv.up (B:=Hr q A m.store) s2 (Hr.le f)) (OA 7 ?_)
  refine Tx (Qae (m:=m) (.p0 (.p0 (.p0 .d)))) fun e=>Tp (.t0 (.t2 (.t1 .e))) ?_
  exact Cu (Em u193 (.cons _ (.refl _)) ⟨A,e,.slice D vs.length K,hL.trans f,by rw[<-he],by rw[<-he];exact X,rfl⟩)
 skip
 refine OA 5 ?_
 refine Cy rfl (fun r=>?_) (fun r=>?_)
 ·rw[show m.app c=((m.prep c).locked (m.store.prepare c.ready).2.1 (m.store.prepare c.ready).2.2,m.prep c) by unfold FA.app;rw[Aa d,Aa l,Ah r]]
  refine Ts (Cw (.t (.s4 (.t .d))) rfl (fun j=>false) ?_)
  intro y
  refine DA [0,1,2,3,4,5] ?_
  refine Da 6 ?_
  refine DB rfl rfl (en 157) rfl (.p2 (.p2 .d)) (Qh q Q L2 m.store hf.store c.ready P _ _ J w) ?_
  rintro _ _ ⟨rfl,A,E,f,rfl⟩
  refine ys (DA [7,8,9,10,11] ?_)
  refine D0 (Tp (.t0 (.t0 (.t2 (.t2 (.t0 (.t0 .e)))))) ?_)
  have W:(m.prep c).store.Fit:=QaJ hf.store hf.readyL P I
  refine OA 5 ?_
  refine Oc rfl (en 156) rfl (.p0 (.p1 (.p1 .d))) (LQ p q O E A (m.prep c) W (m.store.prepare c.ready).2.1 (m.store.prepare c.ready).2.2) ?_
  rintro _ _ ⟨rfl,L4,S6,R,rfl⟩
  refine OA 2 ?_
  refine Tx (Qae (m:=m.prep c) (.p3 (.p0 (.p2 .d)))) fun e=>Tp (.t0 (.t2 (.t1 .e))) ?_
  exact Cu (Em u193 (.cons _ (.refl _)) ⟨L4,e,.slice none 0 0,hL.trans (f.trans R),rfl,Dx.nil _ _,rfl⟩)
 skip
 refine OA 5 ?_
 refine Cy rfl (fun n=>?_) (fun n=>?_)
 ·have e4:m.app c=if(alk c.fin.txn m.decided).isSome=true then ({Kv with fin:=(alk c.fin.txn m.decided).getD Ma},m)else ({Kv with fin:=c.fin},{m with decided:=aset c.fin.txn c.fin m.decided}):=by unfold FA.app;rw[Aa d,Aa l,Aa r,Ah n]
  refine Ts (Cw (.t (.t (.s3 (.t .d)))) rfl (fun j=>Nat.beq j 12) ?_)
  intro y
  refine DA [0,1,2,3,4,5,6] ?_
  refine D1 7 rfl (YK (v':=.tuple [gE ((alk c.fin.txn m.decided).getD Ma),.bool (alk c.fin.txn m.decided).isSome].toArray) (Qan (g:=gE) (z:=gE Ma) c.fin.txn u254 u3) (by cases alk c.fin.txn m.decided<;>rfl)) ?_
  refine DA [8,9] ?_
  refine D2 10 rfl (fun _=>Yo) ?_
  refine Da 11 ?_
  refine D6 rfl (YQ zr98) ?_
  rintro _ _ ⟨a0,rfl,rfl⟩
  refine ys (Da 12 ?_)
  refine D8 rfl YO ?_
  refine D2 13 rfl (fun _=>FC) ?_
  refine OA 6 ?_
  refine Df 124 rfl (fun o=>?_) (fun o=>?_)
  ·rw[e4,Ah o]
   refine OA 4 ?_
   refine O1 (YK (v':=Cs 0) (Za rfl rfl rfl) rfl) ?_
   refine O1 Rv ?_
   refine OA 9 ?_
   refine Tx (Qae (m:=m) (.p0 (.p0 (.p0 .d)))) fun e=>Tp (.t1 (.t3 (.t0 .e))) ?_
   exact Cu (Em u193 (.cons _ (.refl _)) ⟨L2,e,.slice none 0 0,hL,rfl,Dx.nil _ _,rfl⟩)
  rw[e4,Aa (by rw[o];exact AS)]
  refine OA 11 ?_
  refine Cw (.t (.s4 (.t .d))) rfl (fun j=>false) ?_
  intro y
  refine DA [0,1,2,3,4,5,6,7,8] ?_
  refine Da 9 ?_
  refine D7 rfl (ZK (g:=gE) c.fin.txn c.fin u254 u3) ?_
  rintro _ _ ⟨rfl,rfl⟩
  refine ys (OA 8 ?_)
  refine Tx (Qae (m:={m with decided:=aset c.fin.txn c.fin m.decided}) (.p0 (.p0 (.p0 .d)))) fun e=>Tp (.t1 (.t3 (.t0 .e))) ?_
  exact Cu (Em u193 (.cons _ (.refl _)) ⟨L2,e,.slice none 0 0,hL,rfl,Dx.nil _ _,rfl⟩)
 rw[show m.app c=(Kv,{m with store:=m.store.fin c.fin}) by unfold FA.app;rw[Aa d,Aa l,Aa r,Aa n]]
 refine OA 2 ?_
 refine Cw (.t (.s4 (.t .d))) rfl (fun j=>Nat.beq j 8) ?_
 intro y
 refine DA [0,1,2,3,4,5] ?_
 refine Da 6 ?_
 refine DB rfl rfl (en 158) rfl (.p2 (.p2 .d)) (QX q Q L2 m.store hf.store c.fin N hf.keys hN) ?_
 rintro _ _ ⟨rfl,A,E,f,rfl⟩
 refine ys (D1 7 rfl (Xb bt193.h) ?_)
 refine Da 8 ?_
 refine D8 rfl YO ?_
 refine D0 (Tx (Qae (m:={m with store:=m.store.fin c.fin}) (.p0 (.p0 (.p2 .d)))) fun e=>Tp (.t0 (.t2 (.t1 .e))) ?_)
 exact Cu (Em u193 (.cons _ (.refl _)) ⟨A,e,.slice none 0 0,hL.trans f,rfl,Dx.nil _ _,rfl⟩)
def Db.nums(m:Db):List Int:=[m.from_,m.to,m.shard,m.view,m.normal,m.at_,m.commit,m.id,m.err]
def CF.byts:CF->N_->CF
 |w,[]=>w
 |w,b::bs=>CF.byts (w.put b 8) bs
def CF.text(w:CF)(b:N_):CF:=(w.num b.length).byts b
def Om:CF->List Int->Option CF
 |w,[]=>some w
 |w,x::xs=>if x<0∨1099511627776<x then none else Om (w.num x.toNat) xs
def Oo:CF->List N_->Option CF
 |w,[]=>some w
 |w,b::bs=>if 4000<b.length then none else Oo (w.text b) bs
def Ll(m:Db)(w:CF):N_×Int:=if 2000<m.list.length then ([],4)else match Oo (w.num m.list.length) (m.list++[m.data])with
 |none=>([],3)
 |some w=>Dt m.kind w.b
def Db.enc(m:Db):N_×Int:=if m.kind<1∨7<m.kind then ([],14)else match Om EV m.nums with
 |none=>([],1)
 |some w=>Ll m w
theorem XK{w:CF}{xs:List Int}{i:Nat}{x:Int}(h:xs[i]? =some x):Om w (xs.drop i)=if x<0∨1099511627776<x then none else Om (w.num x.toNat) (xs.drop (i+1)):=by
 have hl:=(Ab.1 h).1
 rw[Ay hl,(Ab.1 h).2];rfl
theorem XZ{w:CF}{xs:List N_}{i:Nat}{x:N_}(h:xs[i]? =some x):Oo w (xs.drop i)=if 4000<x.length then none else Oo (w.text x) (xs.drop (i+1)):=by
 have hl:=(Ab.1 h).1
 rw[Ay hl,(Ab.1 h).2];rfl
theorem Yh{w:CF}{xs:N_}{i x:Nat}(h:xs[i]? =some x):w.byts (xs.drop i)=(w.put x 8).byts (xs.drop (i+1)):=by
 have hl:=(Ab.1 h).1
 rw[Ay hl,(Ab.1 h).2];rfl
def rdB:Nat->N_->CC->N_×CC
 |0,os,r=>(os,r)
 |n+1,os,r=>if r.bad=0 then rdB n (os++[(r.get 8).1%256]) (r.get 8).2 else (os,r)
theorem Wk{n:Nat}{os:N_}{r:CC}(h:¬r.bad=0):rdB n os r=(os,r):=by cases n with
 |zero=>rfl
 |succ n=>unfold rdB;rw[Aa h]
theorem rdB_go{n:Nat}{os:N_}{r:CC}(h:r.bad=0):rdB (n+1) os r=rdB n (os++[(r.get 8).1%256]) (r.get 8).2:=Ah h
def CC.txt(r:CC):N_×CC:=rdB r.num.1 [] (if 4000<r.num.1 then r.num.2.fail 3 else r.num.2)
def rdL:Nat->List N_->CC->List N_×CC
 |0,os,r=>(os,r)
 |n+1,os,r=>if r.bad=0 then rdL n (os++[r.txt.1]) r.txt.2 else (os,r)
theorem rdL_bad{n:Nat}{os:List N_}{r:CC}(h:¬r.bad=0):rdL n os r=(os,r):=by cases n with
 |zero=>rfl
 |succ n=>unfold rdL;rw[Aa h]
theorem rdL_go{n:Nat}{os:List N_}{r:CC}(h:r.bad=0):rdL (n+1) os r=rdL n (os++[r.txt.1]) r.txt.2:=Ah h
def CC.fld(r:CC):Int×CC:=(Pj (r.num.1:Nat),if 1099511627776<r.num.1 then r.num.2.fail 1 else r.num.2)
def Db.setN(m:Db)(x:Int):Nat->Db
 |1=>{m with from_:=x}
 |2=>{m with to:=x}
 |3=>{m with shard:=x}
 |4=>{m with view:=x}
 |5=>{m with normal:=x}
 |6=>{m with at_:=x}
 |7=>{m with commit:=x}
 |8=>{m with id:=x}
 |9=>{m with err:=x}
 |_=>m
def decF:Nat->Nat->Db->CC->Db×CC
 |0,_,m,r=>(m,r)
 |n+1,i,m,r=>decF n (i+1) (m.setN r.fld.1 i) r.fld.2
def decG(m:Db)(r:CC):Db×Int:=
 let l:=rdL r.num.1 [] (if 2000<r.num.1 then r.num.2.fail 4 else r.num.2)
 if l.2.txt.2.end_=0 then ({m with list:=l.1,data:=l.2.txt.1},0)else (CY 0,l.2.txt.2.end_)
def Hh(b:N_):Db×Int:=
 if(DD b).2.2≠0 then (CY 0,(DD b).2.2)
 else if(DD b).2.1≠b.length then (CY 0,12)
 else if(DD b).1.kind<1∨7<(DD b).1.kind then (CY 0,14)
 else decG (decF 9 1 (CY (DD b).1.kind) ⟨(DD b).1.data,0,0⟩).1 (decF 9 1 (CY (DD b).1.kind) ⟨(DD b).1.data,0,0⟩).2
theorem nums_nth(m:Db)(c b:Value):∀ {i:Nat} {x:Int},m.nums[i]? =some x->nth (GL m c b) (i+1)=some (Cs x)
 |0,_,h|1,_,h|2,_,h|3,_,h|4,_,h|5,_,h|6,_,h|7,_,h|8,_,h=>by cases h;rfl
 |n+9,x,h=>by simp[Db.nums]at h
def WK(p:Nat):V_:=(List.range 9).map fun i=>.pointer (some ⟨p,i+1,none⟩)
theorem Wq{p i:Nat}(h:i<9):(WK p)[i]? =some (.pointer (some ⟨p,i+1,none⟩)):=by
 unfold WK
 rw[Aq,List.getElem?_range h];rfl
theorem LK(p:Nat):Sp P0 120 [Cr p] [] fun v h=>∃g,v= .slice (some ⟨g,0,none⟩) 9 9/\h=[blk g (.cells (WK p).toArray 183 (0,0))]:=by
 refine Sq Tryz.func120 fun w0 b_=>?_
 refine OA 5 ?_
 refine CS rfl (fun j=>false) ?_
 refine DA [0,1,2,3,4,5,6,7,8,9,10,11,12,13,14,15,16,17,18,19,20,21,22,23,24,25,26] ?_
 refine Da 27 ?_
 refine D6 rfl (Lbs [.pointer none,.pointer none,.pointer none,.pointer none,.pointer none,.pointer none,.pointer none,.pointer none,.pointer none] u184) ?_
 rintro _ _ ⟨b,rfl,rfl⟩
 refine ys (D1 28 rfl FC ?_)
 refine D0 ?_
 exact Cu (CB rfl rfl (.refl _) ⟨b,rfl,rfl⟩)
theorem RF(L:PL)(m:Db)(Y W:Value)(hl:EI L Y m.list)(hd:Bs L W m.data):
  Sp P0 56 [.agg (GL m Y W).toArray] [pool L] fun v h=>∃a c,v= .tuple #[.slice a m.enc.1.length c,Cs m.enc.2]/\h=[pool L,sq a m.enc.1.length c 5 1 (m.enc.1.map u8)]:=by
 obtain⟨Q,R,rfl,a1,a2⟩:=hl.sh
 obtain⟨vs,s,hps⟩:=hl.ns
 obtain⟨⟨q,r,rfl,_,hdm,_⟩,_⟩:=id hd
 have hen:m.enc=if m.kind<1∨7<m.kind then ([],14)else match Om EV m.nums with|none=>([],1)|some w=>Ll m w:=rfl
 refine Sq Tryz.func56 fun w0 b_=>?_
 refine OA 2 ?_
 refine O6 YR fun b1=>?_
 refine OA 10 ?_
 refine CJ 14 rfl (fun l=>?_) (fun l=>?_)
 ·rw[show m.enc=([],14) by rw[hen,Ah (.inl l)]]
  refine OA 11 ?_
  refine Tp (.t0 (.n (T:=5) (sz:=1) .e)) ?_
  exact Cu (Dq rfl rfl rfl (.refl _) ⟨none,0,rfl,rfl⟩)
 refine OA 5 ?_
 refine Cy rfl (fun D=>?_) (fun D=>?_)
 ·rw[show m.enc=([],14) by rw[hen,Ah (.inr (by omega))]]
  refine OA 5 ?_
  refine Tp (.t0 (.n (T:=5) (sz:=1) .e)) ?_
  exact Cu (Dq rfl rfl rfl (.refl _) ⟨none,0,rfl,rfl⟩)
 rw[Aa (fun h=>h.elim l (by omega))]at hen
 refine OA 4 ?_
 refine O6 YR fun b=>?_
 refine OA 2 ?_
 refine Tp (.t0 (.t0 (.t0 (.n (T:=5) (sz:=1) .e)))) (Tx (YL (.p2 (.p2 .d)) (A:=Mt b EV) ⟨none,0,rfl⟩) fun S0=>OA 3 ?_)
 refine O2 (YP rfl (en 120) rfl (.d) (LK b1)) ?_
 rintro _ _ ⟨_,⟨g,rfl,rfl⟩,rfl⟩
 refine OA 3 ?_
 refine Tp (.t0 (.t0 (.t1 (.t0 .e)))) (Tb (CD (fun((i,w,d):Nat×CF×N_)=>[(1,Cr b1),(4,Cr b),(21,.slice (some ⟨g,0,none⟩) 9 9),(22,Cs (9:Nat)),(23,Cs i)]) (fun(i,w,d)=>[pool L,blk b1 (.cells (GL m (.slice Q m.list.length R) (.slice q m.data.length r)).toArray 138 (0,0)),blk g (.cells (WK b1).toArray 183 (0,0)),cm d (Mt b w)]) (fun(i,w,_)=>i<=9/\w.Ok/\w.n<=129*i/\Om w (m.nums.drop i)=Om EV m.nums) (fun(i,_)=>9-i) (0,EV,S0) ?_ ?_))
 ·exact⟨⟨Af _,FL,Al 0,rfl⟩,Sb5,.refl _⟩
 rintro⟨i,w,d⟩ ⟨hi,hw,M,he⟩
 conv=>arg 7;dsimp only
 conv=>arg 8;dsimp only
 refine OA 5 ?_
 refine Cy rfl (fun E=>?_) (fun E=>?_)
 ·obtain⟨x,hx⟩:∃x,m.nums[i]? =some x:=⟨_,Ae (show i<9 by omega)⟩
  have hp:=Wq (p:=b1) (i:=i) (by omega)
  have hn:=nums_nth m (.slice Q m.list.length R) (.slice q m.data.length r) hx
  rw[XK hx]at he
  refine OA 5 ?_
  refine O1 (GO (i) u184) ?_
  refine O1 (Ct.reads (j:=i) rfl rfl at2 Reads.blk u183 rfl hp) ?_
  refine OA 7 ?_
  refine O1 (zYL rfl rfl (hi:=at1) (hc:=hn)) ?_
  refine OA 2 ?_
  refine CJ 31 rfl (fun n=>?_) (fun n=>?_)
  ·rw[Ah (.inl n)]at he
   rw[show m.enc=([],1) by rw[hen,<-he]]
   refine OA 12 ?_
   refine Tp (.t0 (.n (T:=5) (sz:=1) .e)) ?_
   exact Cu (Dq rfl rfl rfl (.refl _) ⟨none,0,rfl,rfl⟩)
  refine OA 2 ?_
  refine O1 (zYL rfl rfl (hi:=at1) (hc:=hn)) ?_
  refine OA 3 ?_
  refine Cy rfl (fun F=>?_) (fun F=>?_)
  ·rw[Ah (.inr (by omega))]at he
   rw[show m.enc=([],1) by rw[hen,<-he]]
   refine OA 5 ?_
   refine Tp (.t0 (.n (T:=5) (sz:=1) .e)) ?_
   exact Cu (Dq rfl rfl rfl (.refl _) ⟨none,0,rfl,rfl⟩)
  rw[Aa (fun h=>h.elim n (by omega))]at he
  refine OA 5 ?_
  refine O1 (zYL rfl rfl (hi:=at1) (hc:=hn)) ?_
  refine O1 (YK (v':=.int .u64 ((x.toNat:Nat):Int)) (Ze rfl rfl u3 u22) (by rw[DJ (by omega) (by omega),Int.toNat_of_nonneg (by omega)])) ?_
  refine Oc rfl (en 121) rfl (.p3 .d) (Vt b d w hw (by omega) x.toNat (by omega)) ?_
  rintro _ _ ⟨rfl,e,rfl⟩
  refine OA 5 ?_
  exact⟨(i+1,w.num x.toNat,e),⟨⟨by omega,CF.num_ok hw _,by have:=ZA (w:=w) (x:=x.toNat) (by omega);omega,he⟩,⟨rfl,rfl,rfl,rfl,Dd rfl (by omega),trivial⟩,.refl _⟩,by simp only;omega⟩
 rw[AM (show 9<=i by omega)]at he
 rw[<-he]at hen
 change m.enc=Ll m w at hen
 have V:w.n<=1161:=by omega
 clear M
 refine OA 9 ?_
 refine Cy rfl (fun G=>?_) (fun G=>?_)
 ·rw[show m.enc=([],4) by rw[hen];unfold Ll;rw[Ah (by omega)]]
  refine OA 5 ?_
  refine Tp (.t0 (.n (T:=5) (sz:=1) .e)) ?_
  exact Cu (Dq rfl rfl rfl (.refl _) ⟨none,0,rfl,rfl⟩)
 have hg:m.enc=match Oo (w.num m.list.length) (m.list++[m.data])with|none=>([],3)|some w=>Dt m.kind w.b:=by rw[hen];unfold Ll;rw[Aa (by omega)]
 have hw1:=ZA (w:=w) (x:=m.list.length) (by omega)
 refine OA 7 ?_
 refine O1 (YK (v':=.int .u64 ((m.list.length:Nat):Int)) (Ze rfl rfl u3 u22) (by rw[DJ (by omega) (by omega)])) ?_
 refine Oc rfl (en 121) rfl (.p3 .d) (Vt b d w hw (by omega) m.list.length (by omega)) ?_
 rintro _ _ ⟨rfl,e,rfl⟩
 refine OA 3 ?_
 refine Cw (.s (.t .d)) rfl (fun j=>false) ?_
 intro U
 refine DA [0,1,2,3,4,5,6,7] ?_
 refine D1 8 rfl (Ct.slc3 1 m.list.length m.list.length u40) ?_
 refine DA [9,10,14] ?_
 refine Da 11 ?_
 refine D6 rfl (YY u40) ?_
 rintro _ _ ⟨a0,rfl,rfl⟩
 refine ys (Da 12 ?_)
 refine D6 rfl (LO.appG KR (Reads.pool hps) .blk (hlx:=by rw[Bm];exact s.1)) ?_
 rintro _ _ ⟨oa,oc,rfl,rfl⟩
 refine ys (D1 13 rfl (MV u40) ?_)
 refine D0 (Tp (.t0 (.t0 (.t3 (.t1 .e)))) (CO (fun w hw=>hw.sqNN (ao:=oa) at2 (by omega)) fun⟨P,hg3⟩=>?_))
 subst hg3
 refine Tb (CD (fun((k,w,d):Nat×CF×N_)=>[(1,Cr b1),(4,Cr b),(66,.slice (some ⟨P,0,none⟩) (m.list.length+1) oc),(67,Cs (m.list.length+1:Nat)),(68,Cs k)]) (fun(k,w,d)=>[pool L,blk b1 (.cells (GL m (.slice Q m.list.length R) (.slice q m.data.length r)).toArray 138 (0,0)),sq (some ⟨P,0,none⟩) (m.list.length+1) oc 53 1 (vs++[.slice q m.data.length r]),cm d (Mt b w)]) (fun(k,w',_)=>k<=m.list.length+1/\w'.Ok/\w'.n<=1290+32129*k/\Oo w' ((m.list++[m.data]).drop k)=Oo (w.num m.list.length) (m.list++[m.data])) (fun(k,_)=>m.list.length+1-k) (0,w.num m.list.length,e) ?_ ?_)
 ·exact⟨⟨Af _,CF.num_ok hw _,by omega,rfl⟩,Sb5,.refl _⟩
 obtain⟨a4,K⟩:∃x,x=w.num m.list.length:=⟨_,rfl⟩
 rw[<-K]at hg ⊢
 clear K hw1 V he hen hw
 rintro⟨k,w,d⟩ ⟨hk,hw,M,he⟩
 conv=>arg 7;dsimp only
 conv=>arg 8;dsimp only
 refine OA 5 ?_
 refine Cy rfl (fun H=>?_) (fun H=>?_)
 ·obtain⟨x,hx⟩:∃x,(m.list++[m.data])[k]? =some x:=⟨_,Ae (by simp only[List.length_append,List.length_cons,List.length_nil];omega)⟩
  obtain⟨u,X⟩:∃u,(vs++[.slice q m.data.length r])[k]? =some u:=⟨_,Ae (by simp only[List.length_append,List.length_cons,List.length_nil];rw[s.1];omega)⟩
  have C:Bs L u x:=(s.snoc hd).2 k u x X hx
  obtain⟨⟨Z,xc,rfl,_,a3,_⟩,B⟩:=id C
  rw[XZ hx]at he
  have hwn2:=ZA (w:=w) (x:=x.length)
  refine OA 5 ?_
  refine O1 (Km k u40) ?_
  refine O1 (YV u53 X) ?_
  refine OA 9 ?_
  refine Cy rfl (fun I=>?_) (fun I=>?_)
  ·rw[Ah (by omega)]at he
   rw[show m.enc=([],3) by rw[hg,<-he]]
   refine OA 5 ?_
   refine Tp (.t0 (.n (T:=5) (sz:=1) .e)) ?_
   exact Cu (Dq rfl rfl rfl (.refl _) ⟨none,0,rfl,rfl⟩)
  rw[Aa (by omega)]at he
  have hwn3:=hwn2 (by omega)
  clear hwn2
  refine OA 6 ?_
  refine O1 (YK (v':=.int .u64 ((x.length:Nat):Int)) (Ze rfl rfl u3 u22) (by rw[DJ (by omega) (by omega)])) ?_
  refine Oc rfl (en 121) rfl (.p3 .d) (Vt b d w hw (by omega) x.length (by omega)) ?_
  rintro _ _ ⟨rfl,e,rfl⟩
  refine OA 8 ?_
  refine CD (fun((i,o,e):Nat×CF×N_)=>[(1,Cr b1),(4,Cr b),(66,.slice (some ⟨P,0,none⟩) (m.list.length+1) oc),(67,Cs (m.list.length+1:Nat)),(68,Cs k),(80,.slice Z x.length xc),(81,Cs x.length),(82,Cs i)]) (fun(i,o,e)=>[pool L,blk b1 (.cells (GL m (.slice Q m.list.length R) (.slice q m.data.length r)).toArray 138 (0,0)),sq (some ⟨P,0,none⟩) (m.list.length+1) oc 53 1 (vs++[.slice q m.data.length r]),cm e (Mt b o)]) (fun(i,o,_)=>i<=x.length/\o.Ok/\o.n=(w.num x.length).n+8*i/\o.byts (x.drop i)=w.text x) (fun(i,_)=>x.length-i) (0,w.num x.length,e) ?_ ?_
  ·exact⟨⟨Af _,CF.num_ok hw _,rfl,rfl⟩,Sb8,.refl _⟩
  rintro⟨i,o,e⟩ ⟨hi,t,hn3,f⟩
  conv=>arg 7;dsimp only
  conv=>arg 8;dsimp only
  refine OA 5 ?_
  refine Cy rfl (fun J=>?_) (fun J=>?_)
  ·obtain⟨y,hy⟩:∃y,x[i]? =some y:=⟨_,Ae (by omega)⟩
   have hyb:=B y (Aj hy)
   have O:(x.map u8)[i]? =some (u8 y):=by rw[Aq,hy];rfl
   rw[Yh hy]at f
   have N:Reads (pool L) Z (x.map u8):=Reads.pool (m:=x.length) (cap:=xc) C.1
   refine CM at0 N O fun ad S=>?_
   subst S
   refine OA 5 ?_
   refine O1 (GO (i) u53) ?_
   refine O1 (Ct.reads (j:=i) rfl rfl at0 N u5 rfl O) ?_
   refine OA 5 ?_
   refine O1 (YK (v':=.int .u64 ((y:Nat):Int)) (Ze rfl rfl u5 u22) (by rw[DJ (by omega) (by omega)])) ?_
   refine Oc rfl (en 122) rfl (.p3 .d) (oput b e o t (by omega) y (by omega) 8 8 rfl (by decide)) ?_
   rintro _ _ ⟨rfl,S4,rfl⟩
   refine OA 5 ?_
   exact⟨(i+1,o.put y 8,S4),⟨⟨by omega,Zu t _ _,by rw[ZT,hn3];omega,f⟩,⟨rfl,rfl,rfl,rfl,rfl,rfl,rfl,Dd rfl (by omega),trivial⟩,.refl _⟩,by simp only;omega⟩
  rw[AM (by omega)]at f
  change o=w.text x at f
  refine OA 5 ?_
  exact⟨(k+1,o,e),⟨⟨by omega,t,by omega,by rw[f];exact he⟩,⟨rfl,rfl,rfl,rfl,Dd rfl (by omega),trivial⟩,.refl _⟩,by simp only;omega⟩
 rw[AM (by simp only[List.length_append,List.length_cons,List.length_nil];omega)]at he
 rw[show m.enc=Dt m.kind w.b by rw[hg,<-he];rfl]
 have hwl:=hw.len
 refine OA 2 ?_
 refine Cw (.s (.t .d)) rfl (fun j=>false) ?_
 intro U
 refine DA [0,1,2] ?_
 refine Da 3 ?_
 refine DB rfl rfl (en 123) rfl (.p3 .d) (PR b d w (by omega)) ?_
 rintro _ _ ⟨za,zc,rfl,rfl⟩
 refine ys (D1 4 rfl (Xb bt171.h) ?_)
 refine Da 5 ?_
 refine DB rfl rfl (en 85) rfl (.p3 .d) (Kf m.kind za zc w.b _ Reads.sq (by omega)) ?_
 rintro _ _ ⟨ea,ec,rfl,rfl⟩
 refine ys (DA [6,7,8,9] ?_)
 refine D0 (Tp (.t0 (.t3 .e)) ?_)
 exact Cu (Dq rfl rfl rfl (.refl _) ⟨ea,ec,rfl,rfl⟩)
theorem rdB_ok:∀(n:Nat) (os:N_) (r:CC),r.Ok->(rdB n os r).2.Ok/\r.On (rdB n os r).2 0/\(rdB n os r).1.length<=os.length+n/\((∀x∈os,x<256)->∀x∈(rdB n os r).1,x<256)
 |0,os,r,h=>⟨h,⟨rfl,Al _,fun b=>⟨b,Al _⟩⟩,Al _,fun h=>h⟩
 |n+1,os,r,h=>by
  unfold rdB
  split
  ·obtain⟨h1,h2,h3,h4⟩:=rdB_ok n (os++[(r.get 8).1%256]) (r.get 8).2 (ZE h 8)
   refine⟨h1,((Qas h 8).less (Af _)).trans h2,by simp only[List.length_append,List.length_cons,List.length_nil]at h3;omega,fun ho=>h4 fun x hx=>?_⟩
   rcases AC.1 hx with hx|hx
   ·exact ho x hx
   ·rw[Ap.1 hx];exact By _ (by decide)
  ·exact⟨h,⟨rfl,Al _,fun b=>⟨b,Al _⟩⟩,BF _ _,fun h=>h⟩
def CC.lim(r:CC)(n:Nat)(e:Int):CC:=if n<r.num.1 then r.num.2.fail e else r.num.2
theorem CC.fail_bad(r:CC){e:Int}(he:e≠0):¬(r.fail e).bad=0:=by
 unfold CC.fail
 split
 ·exact he
 ·rename_i h;exact h
theorem QaF{r:CC}(h:r.Ok)(n:Nat){e:Int}(he:e≠0):(r.lim n e).Ok/\r.On (r.lim n e) 1/\((r.lim n e).bad=0->r.num.1<=n):=by
 unfold CC.lim
 split
 ·exact⟨Qay (CC.num_ok h) e,(ZU h).trans (Qax _ e he 0),fun hb=>absurd hb (CC.fail_bad _ he)⟩
 ·exact⟨CC.num_ok h,ZU h,fun _=>by omega⟩
theorem CC.txt_ok{r:CC}(h:r.Ok):r.txt.2.Ok/\r.On r.txt.2 1/\(∀x∈r.txt.1,x<256)/\r.txt.1.length<=4000:=by
 obtain⟨h1,h2,h3⟩:=QaF h 4000 (e:=3) (by decide)
 obtain⟨k1,k2,k3,k4⟩:=rdB_ok r.num.1 [] _ h1
 refine⟨k1,h2.trans k2,k4 (fun _ h=>by cases h),?_⟩
 show(rdB r.num.1 [] (r.lim 4000 3)).1.length<=4000
 by_cases hb:(r.lim 4000 3).bad=0
 ·have:=h3 hb;simp only[List.length_nil]at k3;omega
 ·rw[Wk hb];exact Af _
theorem ON(q:Nat)(S:N_)(r:CC)(hr:r.Ok):Sp P0 182 [Cr q] [cm S (HR q r)] fun v h=>∃a c u,v= .slice a r.txt.1.length c/\h=[cm u (HR q r.txt.2),sq a r.txt.1.length c 5 1 (r.txt.1.map u8)]:=by
 have hnl:=Qaj r
 obtain⟨k1,k2,k3⟩:=QaF hr 4000 (e:=3) (by decide)
 have o:rdB r.num.1 [] (r.lim 4000 3)=r.txt:=rfl
 refine Sq Tryz.func182 fun w0 b_=>?_
 refine OA 7 ?_
 refine Oc rfl (en 82) rfl (.p0 .d) (MW q S r hr) ?_
 rintro _ _ ⟨rfl,j,rfl⟩
 refine OA 8 ?_
 refine CP (fun(j:N_)=>[(0,Cr q),(3,.int .u64 r.num.1)]) (fun j=>[cm j (HR q (r.lim 4000 3))]) (fun _=>True) ?_ ?_
 ·refine Cy rfl (fun n=>?_) (fun n=>?_)
  ·refine OA 2 ?_
   refine Oc rfl (en 181) rfl (.p0 .d) (oFail q j r.num.2 3) ?_
   rintro _ _ ⟨rfl,f,rfl⟩
   refine On ?_
   exact⟨f,trivial,Sb2,by rw[show r.lim 4000 3=r.num.2.fail 3 by unfold CC.lim;rw[Ah (by omega)]];exact .refl _⟩
  refine Tk ?_
  exact⟨j,trivial,Sb2,by rw[show r.lim 4000 3=r.num.2 by unfold CC.lim;rw[Aa (by omega)]];exact .refl _⟩
 rintro j -
 refine OA 9 ?_
 refine Tp (.n (T:=5) (sz:=1) (.t0 .e)) (CP (fun((d,g,f):A_×Nat×N_)=>[(4,.slice d r.txt.1.length g)]) (fun(d,g,f)=>[sq d r.txt.1.length g 5 1 (r.txt.1.map u8),cm f (HR q r.txt.2)]) (fun _=>True) ?_ ?_)
 ·refine Tb (CD (fun((i,os,r2,f,d,g):Nat×N_×CC×N_×A_×Nat)=>[(0,Cr q),(3,.int .u64 r.num.1),(4,.slice d os.length g),(5,.int .u64 i)]) (fun(i,os,r2,f,d,g)=>[sq d os.length g 5 1 (os.map u8),cm f (HR q r2)]) (fun(i,os,r2,f,d,g)=>i<=r.num.1/\r2.Ok/\os.length=i/\rdB (r.num.1-i) os r2=r.txt/\(r2.bad=0->r.num.1<=4000)) (fun(i,_)=>r.num.1-i) (0,[],r.lim 4000 3,j,none,0) ?_ ?_)
  ·exact⟨⟨Af _,k1,rfl,o,k3⟩,Sb4,.refl _⟩
  rintro⟨i,os,r2,f,d,g⟩ ⟨hi,l,hol,he,hb⟩
  conv=>arg 7;dsimp only
  conv=>arg 8;dsimp only
  refine OA 7 ?_
  refine CJ 15 rfl (fun m=>?_) (fun m=>?_)
  ·refine O1 DC ?_
   refine Oc rfl (en 94) rfl (.p1 .d) (Xo q f r2) ?_
   rintro _ _ ⟨rfl,t,rfl⟩
   refine OA 3 ?_
   refine Cy rfl (fun b=>?_) (fun b=>?_)
   ·obtain⟨k,hk⟩:∃k,r.num.1-i=k+1:=⟨r.num.1-i-1,by omega⟩
    rw[hk,rdB_go b]at he
    have hle:=hb b
    refine OA 6 ?_
    refine Oc rfl (en 142) rfl (.p1 .d) (ogetr q t r2 l 8 (by decide)) ?_
    rintro _ _ ⟨rfl,w,rfl⟩
    refine O1 (YK (v':=u8 ((r2.get 8).1%256)) (Ze rfl rfl u22 u5) (congrArg (Value.int IntKind.u8) (by rw[EM];omega))) ?_
    refine O6 (YY u53) fun x=>?_
    refine O2 (LO.app (ao:=d) Jf) ?_
    rintro _ _ ⟨p,s,rfl,rfl⟩
    refine OA 4 ?_
    refine O1 (YK (v':=.int .u64 ((i+1:Nat):Int)) (Qar rfl rfl rfl) (by rw[DJ (by omega) (by omega)];rfl)) ?_
    refine OA 2 ?_
    exact⟨(i+1,os++[(r2.get 8).1%256],(r2.get 8).2,w,p,s),⟨⟨by omega,ZE l 8,by simp only[List.length_append,List.length_cons,List.length_nil];omega,by rw[show r.num.1-(i+1)=k by omega];exact he,fun _=>hle⟩,⟨rfl,rfl,by simp only[List.length_append,List.length_cons,List.length_nil];exact rfl,rfl,trivial⟩,by simp only[List.length_append,List.length_cons,List.length_nil,List.map_append,List.map_cons,List.map_nil];exact .cons_cons _ (.cons_cons _ (List.nil_sublist _))⟩,by simp only;omega⟩
   refine Te ?_
   rw[Wk b]at he
   exact⟨(d,g,t),trivial,⟨by rw[<-he];rfl,trivial⟩,by rw[<-he];exact .refl _⟩
  refine OA 7 ?_
  have EQ:r.num.1-i=0:=by omega
  rw[EQ]at he
  change (os,r2)=r.txt at he
  exact⟨(d,g,f),trivial,⟨by rw[<-he];rfl,trivial⟩,by rw[<-he];exact .refl _⟩
 rintro⟨d,g,f⟩ -
 refine OA 5 ?_
 refine Tp (.t1 (.t0 .e)) ?_
 exact Cu (CB rfl rfl (.refl _) ⟨d,g,f,rfl,rfl⟩)
theorem putN(m:Db)(c b:Value)(x:Int):∀ {i:Nat},i<9->If (GL m c b) (i+1) [Cs x] (GL (m.setN x (i+1)) c b)
 |0,_|1,_|2,_|3,_|4,_|5,_|6,_|7,_|8,_=>by repeat constructor
 |n+9,h=>by omega
theorem Bs.nil(L:PL):Bs L (.slice none 0 0) []:=⟨⟨none,0,rfl,Al _,Af _,fun i u h=>by cases h⟩,fun _ h=>by cases h⟩
theorem SE(a:A_)(cap:Nat)(b:N_)(L:PL)(hB:Bs L (.slice a b.length cap) b)(hb:b.length<=1048576):
  Sp P0 135 [.slice a b.length cap] [pool L] fun v h=>∃L' c,Le L L'/\v= .tuple #[gA c,Cs (Hh b).2]/\Gu L' c (Hh b).1/\h=[pool L']:=by
 have O:b.length<=cap:=by obtain⟨⟨_,_,e,h1,_⟩,_⟩:=id hB;cases e;exact h1
 have s:Hh b=if(DD b).2.2≠0 then (CY 0,(DD b).2.2)else if(DD b).2.1≠b.length then (CY 0,12)else if(DD b).1.kind<1∨7<(DD b).1.kind then (CY 0,14)else decG (decF 9 1 (CY (DD b).1.kind) ⟨(DD b).1.data,0,0⟩).1 (decF 9 1 (CY (DD b).1.kind) ⟨(DD b).1.data,0,0⟩).2:=rfl
 have hfb:=SK (b:=b) hB.2
 have Z:(DD b).1.data.length<=b.length:=by
  unfold DD
  repeat' split
  all_goals first|exact Af _|(show(sl b 12 (12+FD b)).length<=_;rw[HN (by omega)];omega)
 refine Sq Tryz.func135 fun w0 b_=>?_
 refine OA 2 ?_
 refine O6 (YQ JQ) fun b2=>?_
 refine OA 5 ?_
 refine Oc rfl (en 141) rfl (.p0 .d) (Re a cap b (pool L) (Reads.pool hB.1) O (by omega)) ?_
 rintro _ _ ⟨da,dc,rfl,rfl⟩
 obtain⟨f,hf⟩:∃f,f=(DD b).1:=⟨_,rfl⟩
 obtain⟨n,hn⟩:∃f,f=(DD b).2.1:=⟨_,rfl⟩
 obtain⟨e,he⟩:∃f,f=(DD b).2.2:=⟨_,rfl⟩
 rw[<-hf,<-hn,<-he]at s
 rw[<-hf]at hfb Z ⊢
 rw[<-hn,<-he]
 refine OA 4 ?_
 refine O6 (YQ Wl) fun b4=>?_
 refine OA 4 ?_
 refine Cx (Zg (.p1 (.p1 .d))) ?_
 rintro _ ⟨L2,C,P,rfl⟩
 have a4:Bs L2 (.slice da f.data.length dc) f.data:=⟨P,hfb⟩
 refine OA 8 ?_
 refine CH rfl (fun G=>?_) (fun G=>?_)
 ·rw[show Hh b=(CY 0,e) by rw[s,Ah G]]
  refine OA 7 ?_
  exact Cu (Ec u138 (.cons _ (.cons _ (.refl _))) ⟨L2,_,C,rfl,⟨_,_,rfl,EI.nil _,Bs.nil _⟩,rfl⟩)
 rw[Aa (fun h=>h G)]at s
 refine OA 8 ?_
 refine CH rfl (fun Q=>?_) (fun Q=>?_)
 ·rw[show Hh b=(CY 0,12) by rw[s,Ah (by omega)]]
  refine OA 6 ?_
  exact Cu (Ec u138 (.cons _ (.cons _ (.refl _))) ⟨L2,_,C,rfl,⟨_,_,rfl,EI.nil _,Bs.nil _⟩,rfl⟩)
 rw[Aa (by omega)]at s
 refine OA 6 ?_
 refine CJ 36 rfl (fun H=>?_) (fun H=>?_)
 ·rw[show Hh b=(CY 0,14) by rw[s,Ah (.inl H)]]
  refine OA 13 ?_
  exact Cu (Ec u138 (.cons _ (.cons _ (.refl _))) ⟨L2,_,C,rfl,⟨_,_,rfl,EI.nil _,Bs.nil _⟩,rfl⟩)
 refine OA 6 ?_
 refine Cy rfl (fun R=>?_) (fun R=>?_)
 ·rw[show Hh b=(CY 0,14) by rw[s,Ah (.inr (by omega))]]
  refine OA 6 ?_
  exact Cu (Ec u138 (.cons _ (.cons _ (.refl _))) ⟨L2,_,C,rfl,⟨_,_,rfl,EI.nil _,Bs.nil _⟩,rfl⟩)
 rw[Aa (fun h=>h.elim H (by omega))]at s
 obtain⟨r0,e0⟩:∃x:CC,x=⟨f.data,0,0⟩:=⟨_,rfl⟩
 have k0:r0.Ok:=by rw[e0];exact⟨hfb,by show f.data.length<_;omega,Af _⟩
 rw[<-e0]at s
 obtain⟨D,hD⟩:∃D,D=decF 9 1 (CY f.kind) r0:=⟨_,rfl⟩
 rw[<-hD]at s
 refine OA 6 ?_
 refine O6 (YQ JQ) fun w=>?_
 refine OA 6 ?_
 refine Oc rfl (en 81) rfl (.p2 .d) (Hi da dc f.data _ (Reads.pool P) (by omega)) ?_
 rintro _ _ ⟨q,a',c',rfl,rfl⟩
 refine OA 2 ?_
 refine Tx (YL (.p4 (.p4 .d)) (A:=HR q r0) ⟨a',c',by rw[e0]⟩) fun S0=>Tp (.t0 (.t2 (.t1 (.t1 .e)))) (OA 3 ?_)
 refine O2 (YP rfl (en 120) rfl (.d) (LK w)) ?_
 rintro _ _ ⟨_,⟨g,rfl,rfl⟩,rfl⟩
 refine OA 4 ?_
 refine CD (fun((i,m,r,d):Nat×Db×CC×N_)=>[(2,Cr b2),(3,Cs 0),(7,Cr w),(8,Cr q),(48,.slice (some ⟨g,0,none⟩) 9 9),(49,Cs (9:Nat)),(50,Cs i)]) (fun(i,m,r,d)=>[blk b2 (.cells (GL (CY 0) (.slice none 0 0) (.slice none 0 0)).toArray 138 (0,0)),pool L2,blk w (.cells (GL m (.slice none 0 0) (.slice none 0 0)).toArray 138 (0,0)),cm d (HR q r),blk g (.cells (WK w).toArray 183 (0,0))]) (fun(i,m,r,_)=>i<=9/\r.Ok/\decF (9-i) (i+1) m r=D) (fun(i,_)=>9-i) (0,CY f.kind,r0,S0) ?_ ?_
 ·exact⟨⟨Af _,k0,hD.symm⟩,Sb7,.refl _⟩
 rintro⟨i,m,r,d⟩ ⟨hi,hr,he⟩
 conv=>arg 7;dsimp only
 conv=>arg 8;dsimp only
 refine OA 5 ?_
 refine Cy rfl (fun S=>?_) (fun S=>?_)
 ·have hp:=Wq (p:=w) (i:=i) (by omega)
  obtain⟨k,hk⟩:∃k,9-i=k+1:=⟨9-i-1,by omega⟩
  rw[hk]at he
  change decF k (i+1+1) (m.setN r.fld.1 (i+1)) (r.lim 1099511627776 1)=D at he
  obtain⟨l1,l2,_⟩:=QaF hr 1099511627776 (e:=1) (by decide)
  refine OA 5 ?_
  refine O1 (GO (i) u184) ?_
  refine O1 (Ct.reads (j:=i) rfl rfl at4 Reads.blk u183 rfl hp) ?_
  refine OA 5 ?_
  refine Oc rfl (en 82) rfl (.p3 .d) (MW q d r hr) ?_
  rintro _ _ ⟨rfl,o,rfl⟩
  refine OA 8 ?_
  refine CP (fun(o:N_)=>[(2,Cr b2),(3,Cs 0),(7,Cr w),(8,Cr q),(10,.pointer (some ⟨w,i+1,none⟩)),(11,.int .u64 r.num.1),(48,.slice (some ⟨g,0,none⟩) 9 9),(49,Cs (9:Nat)),(50,Cs i)]) (fun o=>[blk b2 (.cells (GL (CY 0) (.slice none 0 0) (.slice none 0 0)).toArray 138 (0,0)),pool L2,blk w (.cells (GL m (.slice none 0 0) (.slice none 0 0)).toArray 138 (0,0)),blk g (.cells (WK w).toArray 183 (0,0)),cm o (HR q (r.lim 1099511627776 1))]) (fun _=>True) ?_ ?_
  ·refine Cy rfl (fun U=>?_) (fun U=>?_)
   ·refine OA 2 ?_
    refine Oc rfl (en 181) rfl (.p4 .d) (oFail q o r.num.2 1) ?_
    rintro _ _ ⟨rfl,K,rfl⟩
    refine On ?_
    exact⟨K,trivial,Sb9,by rw[show r.lim 1099511627776 1=r.num.2.fail 1 by unfold CC.lim;rw[Ah (by omega)]];exact .refl _⟩
   refine Tk ?_
   exact⟨o,trivial,Sb9,by rw[show r.lim 1099511627776 1=r.num.2 by unfold CC.lim;rw[Aa (by omega)]];exact .refl _⟩
  rintro o -
  refine OA 3 ?_
  refine O1 (YK (v':=Cs r.fld.1) (Ze rfl rfl u22 u3) rfl) ?_
  refine O1 Hl ?_
  refine O4 (YO (hc:=putN _ _ _ r.fld.1 (by omega))) ?_
  refine On (Tp (.t0 (.t0 (.t0 (.t1 (.t0 .e))))) (OA 4 ?_))
  exact⟨(i+1,m.setN r.fld.1 (i+1),r.lim 1099511627776 1,o),⟨⟨by omega,l1,by rw[show 9-(i+1)=k by omega];exact he⟩,⟨rfl,rfl,rfl,rfl,rfl,rfl,Dd rfl (by omega),trivial⟩,.refl _⟩,by simp only;omega⟩
 rw[show 9-i=0 by omega]at he
 change (m,r)=D at he
 rw[<-he]at s
 change Hh b=decG m r at s
 obtain⟨X,M⟩:∃x,x=m:=⟨_,rfl⟩
 obtain⟨rd,hrd⟩:∃x,x=r:=⟨_,rfl⟩
 rw[<-M,<-hrd]at s
 rw[<-hrd]at hr
 rw[<-M,<-hrd]
 clear M hrd he
 obtain⟨k1,_,k3⟩:=QaF hr 2000 (e:=4) (by decide)
 obtain⟨l,hl⟩:∃l,l=rdL rd.num.1 [] (rd.lim 2000 4):=⟨_,rfl⟩
 have s:Hh b=if l.2.txt.2.end_=0 then ({X with list:=l.1,data:=l.2.txt.1},0)else (CY 0,l.2.txt.2.end_):=by rw[s,hl];rfl
 have hnl:=Qaj rd
 refine OA 4 ?_
 refine Oc rfl (en 82) rfl (.p3 .d) (MW q d rd hr) ?_
 rintro _ _ ⟨rfl,o,rfl⟩
 refine OA 8 ?_
 refine CP (fun(o:N_)=>[(2,Cr b2),(3,Cs 0),(7,Cr w),(8,Cr q),(12,.int .u64 rd.num.1)]) (fun o=>[blk b2 (.cells (GL (CY 0) (.slice none 0 0) (.slice none 0 0)).toArray 138 (0,0)),pool L2,blk w (.cells (GL X (.slice none 0 0) (.slice none 0 0)).toArray 138 (0,0)),cm o (HR q (rd.lim 2000 4))]) (fun _=>True) ?_ ?_
 ·refine Cy rfl (fun V=>?_) (fun V=>?_)
  ·refine OA 2 ?_
   refine Oc rfl (en 181) rfl (.p4 .d) (oFail q o rd.num.2 4) ?_
   rintro _ _ ⟨rfl,K,rfl⟩
   refine On ?_
   exact⟨K,trivial,Sb5,by rw[show rd.lim 2000 4=rd.num.2.fail 4 by unfold CC.lim;rw[Ah (by omega)]];exact .cons_cons _ (.cons_cons _ (.cons_cons _ (.cons _ (.refl _))))⟩
  refine Tk ?_
  exact⟨o,trivial,Sb5,by rw[show rd.lim 2000 4=rd.num.2 by unfold CC.lim;rw[Aa (by omega)]];exact .cons_cons _ (.cons_cons _ (.cons_cons _ (.cons _ (.refl _))))⟩
 rintro o -
 refine OA 5 ?_
 refine Tp (.t0 (.t0 (.t0 (.n (T:=53) (sz:=1) (.t0 .e))))) (CP (fun((u,B,F,vs,d):PL×A_×Nat×V_×N_)=>[(2,Cr b2),(3,Cs 0),(7,Cr w),(8,Cr q)]) (fun(u,B,F,vs,d)=>[blk b2 (.cells (GL (CY 0) (.slice none 0 0) (.slice none 0 0)).toArray 138 (0,0)),pool u,blk w (.cells (GL X (.slice B l.1.length F) (.slice none 0 0)).toArray 138 (0,0)),sq B l.1.length F 53 1 vs,cm d (HR q l.2)]) (fun(u,B,F,vs,d)=>Le L2 u/\Dz u vs l.1/\l.2.Ok) ?_ ?_)
 ·refine Tb (CD (fun((i,os,r,u,B,F,vs,d):Nat×List N_×CC×PL×A_×Nat×V_×N_)=>[(2,Cr b2),(3,Cs 0),(7,Cr w),(8,Cr q),(12,.int .u64 rd.num.1),(13,.int .u64 i)]) (fun(i,os,r,u,B,F,vs,d)=>[blk b2 (.cells (GL (CY 0) (.slice none 0 0) (.slice none 0 0)).toArray 138 (0,0)),pool u,blk w (.cells (GL X (.slice B os.length F) (.slice none 0 0)).toArray 138 (0,0)),sq B os.length F 53 1 vs,cm d (HR q r)]) (fun(i,os,r,u,B,F,vs,d)=>i<=rd.num.1/\r.Ok/\os.length=i/\rdL (rd.num.1-i) os r=l/\(r.bad=0->rd.num.1<=2000)/\Le L2 u/\Dz u vs os) (fun(i,_)=>rd.num.1-i) (0,[],rd.lim 2000 4,L2,none,0,[],o) ?_ ?_)
  ·exact⟨⟨Af _,k1,rfl,hl.symm,k3,.refl _,Dz.nil _⟩,Sb6,.refl _⟩
  rintro⟨i,os,r,u,B,F,vs,d⟩ ⟨hi,t,hol,he,Y,hL,hns⟩
  conv=>arg 7;dsimp only
  conv=>arg 8;dsimp only
  refine OA 7 ?_
  refine CJ 74 rfl (fun W=>?_) (fun W=>?_)
  ·refine O1 DC ?_
   refine Oc rfl (en 94) rfl (.p4 .d) (Xo q d r) ?_
   rintro _ _ ⟨rfl,o,rfl⟩
   refine OA 3 ?_
   refine Cy rfl (fun y=>?_) (fun y=>?_)
   ·obtain⟨k,hk⟩:∃k,rd.num.1-i=k+1:=⟨rd.num.1-i-1,by omega⟩
    rw[hk,rdL_go y]at he
    have hle:=Y y
    obtain⟨t1,t2,t3,t4⟩:=CC.txt_ok t
    refine OA 3 ?_
    refine Cw (.s2 (.t .d)) rfl (fun j=>Nat.beq j 7) ?_
    intro a5
    refine DA [0,1,2] ?_
    refine Da 3 ?_
    refine DB rfl rfl (en 182) rfl (.p4 .d) (ON q o r t) ?_
    rintro _ _ ⟨ta,tc,K,rfl,rfl⟩
    refine ys (Da 4 ?_)
    refine Ew (Zg (.p1 (.p4 .d))) ?_
    rintro _ ⟨L4,E,N,rfl⟩
    refine Ew (YN (.t0 (.t3 (.t0 (.t0 (.t0 .e)))))) ?_
    rintro _ rfl
    refine D6 rfl (YY u40) ?_
    rintro _ _ ⟨a3,rfl,rfl⟩
    refine ys (Da 5 ?_)
    refine D6 rfl (LO.app (ao:=B) KR) ?_
    rintro _ _ ⟨a1,a2,rfl,rfl⟩
    refine ys (D1 6 rfl (Ct.fld 10 10 10 u138) ?_)
    refine Da 7 ?_
    refine D8 rfl YO ?_
    refine OA 3 ?_
    refine O1 (YK (v':=.int .u64 ((i+1:Nat):Int)) (Qar rfl rfl rfl) (by rw[DJ (by omega) (by omega)];rfl)) ?_
    refine OA 2 ?_
    exact⟨(i+1,os++[r.txt.1],r.txt.2,L4,a1,a2,vs++[.slice ta r.txt.1.length tc],K),⟨⟨by omega,t1,by simp only[List.length_append,List.length_cons,List.length_nil];omega,by rw[show rd.num.1-(i+1)=k by omega];exact he,fun _=>hle,hL.trans E,(hns.le E).snoc ⟨N,t3⟩⟩,Sb6,by simp only[List.length_append,List.length_cons,List.length_nil];exact .cons_cons _ (.cons_cons _ (.cons_cons _ (.cons_cons _ (.cons_cons _ (List.nil_sublist _)))))⟩,by simp only;omega⟩
   refine Te ?_
   rw[rdL_bad y]at he
   exact⟨(u,B,F,vs,o),⟨hL,he▸hns,he▸t⟩,Sb4,by rw[<-he];exact .refl _⟩
  refine OA 7 ?_
  have EQ:rd.num.1-i=0:=by omega
  rw[EQ]at he
  change (os,r)=l at he
  exact⟨(u,B,F,vs,d),⟨hL,he▸hns,he▸t⟩,Sb4,by rw[<-he];exact .refl _⟩
 rintro⟨u,B,F,vs,d⟩ ⟨hL,hns,t⟩
 obtain⟨os,r⟩:=l
 simp only at hns t s
 obtain⟨t1,t2,t3,t4⟩:=CC.txt_ok t
 refine Cx (Zg (.p1 (.p2 .d))) ?_
 rintro _ ⟨L4,E,N,rfl⟩
 refine OA 3 ?_
 refine Oc rfl (en 182) rfl (.p2 .d) (ON q d r t) ?_
 rintro _ _ ⟨ta,tc,K,rfl,rfl⟩
 refine OA 3 ?_
 refine Cx (Zg (.p2 (.p3 .d))) ?_
 rintro _ ⟨L5,J,a0,rfl⟩
 refine OA 4 ?_
 refine Oc rfl (en 83) rfl (.p2 .d) (oendr q K r.txt.2 t1) ?_
 rintro _ _ ⟨rfl,S5,rfl⟩
 refine OA 7 ?_
 refine CH rfl (fun I=>?_) (fun I=>?_)
 ·rw[show Hh b=(CY 0,r.txt.2.end_) by rw[s,Aa I]]
  refine OA 7 ?_
  exact Cu (Ec u138 (.cons _ (.cons _ (.cons_cons _ (An _)))) ⟨L5,_,C.trans (hL.trans (E.trans J)),rfl,⟨_,_,rfl,EI.nil _,Bs.nil _⟩,rfl⟩)
 rw[show Hh b=({X with list:=os,data:=r.txt.1},0) by rw[s,Ah I]]
 refine OA 7 ?_
 exact Cu (Ec u138 (.cons _ (.cons _ (.cons_cons _ (An _)))) ⟨L5,_,C.trans (hL.trans (E.trans J)),rfl,⟨_,_,rfl,⟨vs,hns.1,N.le J,(hns.le (E.trans J)).2⟩,⟨a0,t3⟩⟩,rfl⟩)

import Derived.Test.YtheoifhidoofbaaGreatDoorProg
import Derived.ChangeKeysEq
import Derived.Test.YtheoifhidoofbaaGreatDoorM01
set_option maxRecDepth 100000
set_option maxHeartbeats 2000000
namespace Go.Cru
open Go Go.Proofs
open Go.Proofs.Tryz renaming prog→P0
abbrev GE:=Exit->Dh->(World->Prop)->Prop
section
variable {P:Program}{n m:Nat}{l:Dh}{o:Oper}{v:Value}{K:GE}{Φ:World->Prop}{ops:Array Oper}{rest:List Oper}{d:Nat}{Q:Exit->Act->World->Prop}
variable (n) in
def RE(K:GE):Exit->Act->World->Prop
 |.panic _,_,_=>False
 |.outgrown,_,_=>False
 |e,a,w=>∃l Φ,Fr n l a/\Φ w/\K e l Φ
variable (P n m) in
def OW(ops:Array Oper)(Q:Exit->Act->World->Prop)(rest:List Oper)(l:Dh)(Φ:World->Prop):Prop:=∀a w,Fr n l a->Φ w->wpListIn FW m P ops Q rest a w
variable (P n m) in
def TW(c:Code)(K:GE)(l:Dh)(Φ:World->Prop):Prop:=∀a w,Fr n l a->Φ w->c.wpIn FW m P (RE n K) a w
theorem QI.self(w:World):QI w [] [] w:=⟨Al _,fun _ _ _=>rfl,by simp⟩
theorem Ei(hq:K .normal l Φ):OW P n m ops (RE n K) [] l Φ:=fun _ _ hf hw=>⟨l,Φ,hf,hw,hq⟩
theorem CZ(hg:o.guard=none)(hn:Gh o=true)(hd:o.dst=some d)(hlt:Nat.blt d n=true)(hs:∀w,Φ w->Ct P n w [] [] l o v)(hk:OW P n m ops Q rest ((d,v)::l) Φ):OW P n m ops Q (o::rest) l Φ:=by
 intro a w hf hw
 unfold wpListIn
 rw[Ah (by unfold Region.wanted;rw[hg])]
 refine⟨fun _ _=>trivial,?_⟩
 rw[Oper.semAt_eq _ _ _ (Fp hn),hs w hw a w hf (QI.self w)]
 show wpListIn FW m P ops Q rest (a.put o.dst v) w
 rw[hd]
 exact hk _ _ (hf.put hlt v) hw
theorem Oe{L:Nat}{x:Operand}{b:List Operand}{ts:Array TypeId}{vs:V_}{a:Act}{w:World}{r:Next}(ho:o.op= .call {callee:=.value x,args:=b.toArray,argTypes:=ts})(hf:Fr n l a)(hx:ev l x=some (.func (.yield L) #[] #[]))(hv:b.map (ev l)=vs.map some)
  (hy:(Instr.yield L vs.toArray).run P w= .ok r w):(execOp a.eval o).run P w= .ok r w:=by
 have c:b.map a.eval=vs:=by
  clear ho hy
  induction b generalizing vs with
  |nil=>cases vs with
   |nil=>rfl
   |cons _ _=>cases hv
  |cons x b ih=>cases vs with
   |nil=>cases hv
   |cons v vs=>
    simp only[List.map_cons,List.cons.injEq]at hv ⊢
    exact⟨hf.eval hv.1,ih hv.2⟩
 unfold execOp
 simp only[ho,resolve,hf.eval hx,List.map_toArray,c]
 show(invoke (.fn (.yield L) #[]) (#[]++vs.toArray)).run P w=_
 simpa [invoke] using hy
theorem Rj{L:Nat}{x:Operand}{b:List Operand}{ts:Array TypeId}{vs:V_}{Φ1 Φ2:World->Prop}(hg:o.guard=none)(ho:o.op= .call {callee:=.value x,args:=b.toArray,argTypes:=ts})(hd:o.dst=some d)(hlt:Nat.blt d n=true)
  (hx:ev l x=some (.func (.yield L) #[] #[])) (hv:b.map (ev l)=vs.map some)
  (h:∀w,Φ w->YieldAt FW (m-1) P L vs.toArray w fun e w'=>(e= .returned (.bool true)/\Φ1 w')∨(e= .returned (.bool false)/\Φ2 w'))
  (h1:OW P n m ops Q rest ((d,.bool true)::l) Φ1) (h2:OW P n m ops Q rest ((d,.bool false)::l) Φ2):OW P n m ops Q (o::rest) l Φ:=by
 intro a w hf hw
 unfold wpListIn
 rw[Ah (by unfold Region.wanted;rw[hg])]
 refine⟨fun _ _=>trivial,?_⟩
 obtain⟨i,tmps,assign,f,hy,g⟩:=h w hw
 rw[Oper.semAt_eq _ _ _ (fun c e=>by rw[ho]at e;cases e),Oe ho hf hx hv hy]
 refine⟨fun hh=>(by cases hh),g.mono fun e w' hq=>?_⟩
 rcases hq with ⟨rfl,hq⟩|⟨rfl,hq⟩
 ·show wpListIn FW m P ops Q rest (a.put o.dst (.bool true)) w'
  rw[hd];exact h1 _ _ (hf.put hlt _) hq
 ·show wpListIn FW m P ops Q rest (a.put o.dst (.bool false)) w'
  rw[hd];exact h2 _ _ (hf.put hlt _) hq
def GE.then(K:GE)(N:Dh->(World->Prop)->Prop):GE
 |.normal,l,h=>N l h
 |e,l,h=>K e l h
def GE.inBlock(K:GE)(id:Nat):GE
 |.exit b,l,h=>match Nat.beq b id with
  |true=>K .normal l h
  |false=>K (.exit b) l h
 |e,l,h=>K e l h
attribute [reducible] GE.then GE.inBlock
theorem DO{x y:Code}(hx:TW P n m x (K.then (TW P n m y K)) l Φ):TW P n m (.seq x y) K l Φ:=by
 intro a w hf ho
 refine wpIn_seq (wpIn_mono (hx a w hf ho) fun e b w' hq=>?_)
 cases e with
 |normal=>obtain⟨l',h',h1,h2,h3⟩:=hq;exact h3 b w' h1 h2
 |_=>exact hq
theorem Do{id:Nat}{os:List Oper}(hk:OW P n m os.toArray (RE n K) os l Φ):TW P n m (.region id os.toArray false) K l Φ:=fun a w hf ho=>wpIn_region_lit (hk a w hf ho)
theorem IL(hk:K .normal l Φ):TW P n m .skip K l Φ:=fun _ _ hf ho=>wpIn_skip ⟨l,Φ,hf,ho,hk⟩
theorem QE{id:Nat}(hk:K (.exit id) l Φ):TW P n m (.exit id) K l Φ:=fun _ _ hf ho=>wpIn_exit ⟨l,Φ,hf,ho,hk⟩
theorem Qd(hk:K .ret l Φ):TW P n m .ret K l Φ:=fun _ _ hf ho=>wpIn_ret ⟨l,Φ,hf,ho,hk⟩
theorem Hk{id:Nat}{c:Code}(hk:TW P n m c (K.inBlock id) l Φ):TW P n m (.block id c) K l Φ:=by
 intro a w hf ho
 refine wpIn_block (wpIn_mono (hk a w hf ho) fun e d w' hq=>?_)
 cases e with
 |exit b=>
  obtain⟨l',h',h1,h2,h3⟩:=hq
  simp only[Exit.inBlock]
  simp only[GE.inBlock]at h3
  split
  ·rename_i e;subst e;rw[Nat.beq_refl]at h3;exact⟨l',h',h1,h2,h3⟩
  ·rename_i e
   cases hb:Nat.beq b id with
   |true=>exact absurd (BK hb) e
   |false=>rw[hb]at h3;exact⟨l',h',h1,h2,h3⟩
 |_=>exact hq
theorem TW_if{c:Operand}{x y:Code}{p:Prop}[Decidable p](hc:ev l c=some (.bool (decide p)))(h1:p->TW P n m x K l Φ)(h0:¬p->TW P n m y K l Φ):TW P n m (.cond c x y) K l Φ:=
 fun a w hf ho=>wpIn_cond_split (hf.eval hc) (fun e=>h1 (of_decide_eq_true e) a w hf ho) (fun e=>h0 (of_decide_eq_false e) a w hf ho)
theorem TW_yes{c:Operand}{x y:Code}(hc:ev l c=some (.bool true))(hk:TW P n m x K l Φ):TW P n m (.cond c x y) K l Φ:=fun a w hf ho=>wpIn_cond_true (hf.eval hc) (hk a w hf ho)
theorem TW_no{c:Operand}{x y:Code}(hc:ev l c=some (.bool false))(hk:TW P n m y K l Φ):TW P n m (.cond c x y) K l Φ:=fun a w hf ho=>wpIn_cond_false (hf.eval hc) (hk a w hf ho)
theorem Qt{c:Code}{σ:Type}(L:σ->Dh)(H:σ->World->Prop)(h:σ->Prop)(μ:σ->Nat)(o:σ)(hp0:h o)(r:Ml (L o) l)(p:∀w,Φ w->H o w)
  (round:∀x,h x->TW P n m c (K.then fun l Φ=>∃x',h x'/\Ml (L x') l/\(∀w,Φ w->H x' w)/\μ x'<μ x) (L x) (H x)):TW P n m (.loop c) K l Φ:=by
 intro a w hf ho b k cs q hb hr
 have key:∀j x,μ x=j->∀a w,h x->Fr n (L x) a->H x w->
   ∃e i w',RE n K e i w'/\ArrivesIn (Machine.fenced P FW) P (lone (b.atR a (.code c:: .inLoop c::k)) cs w) b k cs e i w':=by
  intro j
  induction j using Nat.strongRecOn with
  |_ j ih=>
   intro x hx a w hp hf ho
   obtain⟨e,a1,w1,hq,d⟩:=round x hp a w hf ho b (.inLoop c::k) cs q hb hr
   cases e with
   |normal=>
    obtain⟨l',Φ',h1,h2,x',s,g,hh,hlt⟩:=hq
    obtain⟨e2,a2,t,hq2,f⟩:=ih (μ x') (hx▸hlt) x' rfl a1 w1 s (h1.weak g) (hh _ h2)
    exact⟨e2,a2,t,hq2,.of_steps (StepsIn.trans d (.one (fenced_calm hb hr rfl) stepR_inLoop)) f⟩
   |exit id=>exact⟨.exit id,a1,w1,hq,.pass (x:=.inLoop c) rfl (fun _ _=>.inl (by simp)) d⟩
   |goto l=>exact⟨.goto l,a1,w1,hq,.pass (x:=.inLoop c) rfl (fun _ _=>.inl (by simp)) d⟩
   |ret=>exact⟨.ret,a1,w1,hq,.pass (x:=.inLoop c) rfl (fun _ _=>.inl (by simp)) d⟩
   |panic u=>exact hq.elim
   |outgrown=>exact hq.elim
 obtain⟨e,i,w',hq,d⟩:=key _ o rfl a w hp0 (hf.weak r) (p _ ho)
 exact⟨e,i,w',hq,.of_steps (.one (fenced_calm hb hr rfl) stepR_loop) d⟩
theorem SY(vs:V_)(hl:vs.length<=n):Fr n (Og 0 vs) {tmps:=vs.toArray++Array.replicate (n-vs.toArray.size) undef,defers:=[]}:=by
 refine⟨by simp;omega,rfl,fun t v b=>?_⟩
 obtain⟨_,h2⟩:=NU vs 0 t v b
 have hlt:=(Ab.1 h2).1
 rw[Nat.sub_zero]at h2 hlt
 show(vs.toArray++_)[t]? =_
 rw[Array.getElem?_append_left (by simpa using hlt)]
 simpa using h2
theorem VL{f:FuncId}{b:Func}{c:Code}{vs:V_}{w:World}{R:World->Prop}(hf:P.funcs[f]? =some b)(hb:b.body=some c)(hn:b.ntmps=n)(hr:b.results= #[])(hl:Nat.ble vs.length n=true)(h0:Φ w)
  (ht:TW P n m c (fun e _ Φ=>match e with
   |.normal=>∀w,Φ w->R w
   |.ret=>∀w,Φ w->R w
   |_=>False) (Og 0 vs) Φ):CallsIn FW m P f vs.toArray w fun e w'=>(∃v,e= .returned v)/\R w':=by
 refine callsIn_of_wp hf hb trivial (wpIn_mono (ht _ w (hn▸SY vs (hn▸Cn hl)) h0) fun e d w' hq=>?_) rfl
 cases e with
 |normal=>obtain⟨l',Φ',h1,h2,h3⟩:=hq;exact⟨h1.defers,.tuple #[],by simp[results,hr],⟨_,rfl⟩,h3 _ h2⟩
 |ret=>obtain⟨l',Φ',h1,h2,h3⟩:=hq;exact⟨h1.defers,.tuple #[],by simp[results,hr],⟨_,rfl⟩,h3 _ h2⟩
 |exit id=>obtain⟨_,_,_,_,hh⟩:=hq;exact hh.elim
 |goto id=>obtain⟨_,_,_,_,hh⟩:=hq;exact hh.elim
 |panic g=>exact hq.elim
 |outgrown=>exact hq.elim
end
inductive DM:Mem->Mem->Mem->Prop
 |d {h:Mem}:DM h [] h
 |t {r:CW} {h a b:Mem}:DM h a b->DM (r::h) (r::a) b
 |s {r:CW} {h a b:Mem}:DM h a b->DM (r::h) a (r::b)
theorem DM.s2{r0 r1:CW}{h a b:Mem}(q:DM h a b):DM (r0::r1::h) a (r0::r1::b):=.s (.s q)
theorem DM.s3{r0 r1 r2:CW}{h a b:Mem}(q:DM h a b):DM (r0::r1::r2::h) a (r0::r1::r2::b):=.s q.s2
theorem DM.s4{r0 r1 r2 c:CW}{h a b:Mem}(q:DM h a b):DM (r0::r1::r2::c::h) a (r0::r1::r2::c::b):=.s q.s3
theorem DM.s5{r0 r1 r2 c d:CW}{h a b:Mem}(q:DM h a b):DM (r0::r1::r2::c::d::h) a (r0::r1::r2::c::d::b):=.s q.s4
theorem DM.s6{r0 r1 r2 c d e:CW}{h a b:Mem}(q:DM h a b):DM (r0::r1::r2::c::d::e::h) a (r0::r1::r2::c::d::e::b):=.s q.s5
theorem DM.s7{r0 r1 r2 c d e f:CW}{h a b:Mem}(q:DM h a b):DM (r0::r1::r2::c::d::e::f::h) a (r0::r1::r2::c::d::e::f::b):=.s q.s6
theorem DM.s8{r0 r1 r2 c d e f g:CW}{h a b:Mem}(q:DM h a b):DM (r0::r1::r2::c::d::e::f::g::h) a (r0::r1::r2::c::d::e::f::g::b):=.s q.s7
theorem DM.s9{r0 r1 r2 c d e f g i:CW}{h a b:Mem}(q:DM h a b):DM (r0::r1::r2::c::d::e::f::g::i::h) a (r0::r1::r2::c::d::e::f::g::i::b):=.s q.s8
theorem DM.s10{r0 r1 r2 c d e f g i j:CW}{h a b:Mem}(q:DM h a b):DM (r0::r1::r2::c::d::e::f::g::i::j::h) a (r0::r1::r2::c::d::e::f::g::i::j::b):=.s q.s9
theorem DM.s11{r0 r1 r2 d e f g i j k c:CW}{h a b:Mem}(q:DM h a b):DM (r0::r1::r2::d::e::f::g::i::j::k::c::h) a (r0::r1::r2::d::e::f::g::i::j::k::c::b):=.s q.s10
theorem DM.s12{r0 r1 r2 e f g i j k l c d:CW}{h a b:Mem}(q:DM h a b):DM (r0::r1::r2::e::f::g::i::j::k::l::c::d::h) a (r0::r1::r2::e::f::g::i::j::k::l::c::d::b):=.s q.s11
theorem DM.s13{r0 r1 r2 f g i j k l m c d e:CW}{h a b:Mem}(q:DM h a b):DM (r0::r1::r2::f::g::i::j::k::l::m::c::d::e::h) a (r0::r1::r2::f::g::i::j::k::l::m::c::d::e::b):=.s q.s12
theorem DM.s14{r0 r1 r2 g i j k l m n c d e f:CW}{h a b:Mem}(q:DM h a b):DM (r0::r1::r2::g::i::j::k::l::m::n::c::d::e::f::h) a (r0::r1::r2::g::i::j::k::l::m::n::c::d::e::f::b):=.s q.s13
theorem DM.perm{h a b:Mem}(s:DM h a b):(a++b).Perm h:=by
 induction s with
 |d=>exact .refl _
 |t _ ih=>exact ih.cons _
 |s _ ih=>exact(Cq).trans (ih.cons _)
theorem Perm.ids{a b:Mem}(p:a.Perm b):(a.flatMap CW.ids).Perm (b.flatMap CW.ids):=p.flatMap_right _
theorem CX.perm{w0 w:World}{b_:N_}{h h':Mem}(o:CX w0 b_ h w)(p:h'.Perm h):CX w0 b_ h' w:=
 ⟨o.os,o.tape,o.output,o.size,o.old,fun r hr=>o.mine r (p.mem_iff.1 hr),(Perm.ids p).nodup_iff.2 o.nd,fun r hr=>o.fr r (p.mem_iff.1 hr)⟩
theorem CX.called{w0 w w':World}{b_:N_}{h a b h1:Mem}(o:CX w0 b_ h w)(s:DM h a b)(c:CX w (a.flatMap CW.ids) h1 w'):CX w0 b_ (b++h1) w':=by
 have o':=o.perm s.perm
 have hlt:=o'.lt
 have hnd:=o'.nd
 rw[AI]at hnd
 obtain⟨n1,n2,n3⟩:=Bu.1 hnd
 have hb:∀r∈b,∀i∈r.ids,i∉a.flatMap CW.ids:=fun r hr i hi f=>n3 i f i (Ba.2 ⟨r,hr,hi⟩) rfl
 refine⟨c.os.trans o.os,c.tape.trans o.tape,c.output.trans o.output,AA o.size c.size,fun k hk hkb=>?_,fun r hr=>?_,?_,fun r hr i hi=>?_⟩
 ·rw[c.old k (Nat.lt_of_lt_of_le hk o.size) (fun j=>?_)]
  ·exact o.old k hk hkb
  ·obtain⟨r,hr,l⟩:=Ba.1 j
   rcases o'.fr r (Bp _ hr) k l with h2|h2
   ·omega
   ·exact hkb h2
 ·rcases AC.1 hr with hr|hr
  ·exact r.loc _ _ (fun i hi=>c.old i (hlt r (BG _ hr) i hi) (hb r hr i hi)) (o'.mine r (BG _ hr))
  ·exact c.mine r hr
 ·rw[AI]
  refine Bu.2 ⟨n2,c.nd,fun x hx y hy=>?_⟩
  obtain⟨r,hr,d⟩:=Ba.1 hx
  obtain⟨t,ht,m⟩:=Ba.1 hy
  have h1:=hlt r (BG _ hr) x d
  rcases c.fr t ht y m with h2|h2
  ·omega
  ·intro e;subst e;exact hb r hr x d h2
 ·rcases AC.1 hr with hr|hr
  ·exact o'.fr r (BG _ hr) i hi
  ·rcases c.fr r hr i hi with h2|h2
   ·exact .inl (AA o.size h2)
   ·obtain⟨t,ht,g⟩:=Ba.1 h2
    exact o'.fr t (Bp _ ht) i g
theorem CX.lend{w0 w:World}{b_:N_}{h a b:Mem}(o:CX w0 b_ h w)(s:DM h a b):CX w (a.flatMap CW.ids) a w:=by
 have o':=o.perm s.perm
 have hnd:=o'.nd
 rw[AI]at hnd
 exact⟨rfl,rfl,rfl,Al _,fun _ _ _=>rfl,fun r hr=>o'.mine r (Bp _ hr),(Bu.1 hnd).1,fun r hr i hi=>.inr (Ba.2 ⟨r,hr,hi⟩)⟩
def Sp(P:Program)(f:FuncId)(vs:V_)(rs:Mem)(R:Value->Mem->Prop):Prop:=
 ∀w,CX w (rs.flatMap CW.ids) rs w->SO P f vs w (rs.flatMap CW.ids) R
theorem Wa{P:Program}{n:Nat}{f:FuncId}{b:Func}{c:Code}{vs:V_}{rs:Mem}{R:Value->Mem->Prop}(hf:P.funcs[f]? =some b)(hb:b.body=some c)(hn:b.ntmps=n)(hl:Nat.ble vs.length n=true)
  (ht:∀w0 b_,TC P n w0 b_ c (Hb P n w0 b_ b R) (Og 0 vs) rs):Sp P f vs rs R:=
 fun w ho=>gives_of hf hb hn hl ho (ht w _)
section
variable {P:Program}{n:Nat}{w0:World}{b_:N_}{l:Dh}{h hs:Mem}{o:Oper}{v:Value}
theorem Fg{a:Act}(hf:Fr n l a){b:List Operand}{vs:V_}(hv:b.map (ev l)=vs.map some):(b.toArray.map a.eval)=vs.toArray:=by
 simp only[List.map_toArray]
 congr 1
 induction b generalizing vs with
 |nil=>cases vs with
  |nil=>rfl
  |cons _ _=>cases hv
 |cons x b ih=>cases vs with
  |nil=>cases hv
  |cons v vs=>
   simp only[List.map_cons,List.cons.injEq]at hv ⊢
   exact⟨hf.eval hv.1,ih hv.2⟩
theorem YP{f:FuncId}{d:List Operand}{ts:Array TypeId}{vs:V_}{R:Value->Mem->Prop}{a b:Mem}(ho:o.op= .call {callee:=.value (.func f),args:=d.toArray,argTypes:=ts})(hc:Fc P f)(hv:d.map (ev l)=vs.map some)
  (hs:DM h a b) (hg:Sp P f vs a R):LO P n w0 b_ h l o fun u h'=>∃h1,R u h1/\h'=b++h1:=
 Qao (f:=f) (vs:=vs) (fun _ hf w=>Nz ho hc (Fg hf hv) w) fun w c=>
  Calls.mono (hg w (c.lend hs)) fun _ _ ⟨v,h1,he,hR,ho1⟩=>⟨v,b++h1,he,⟨h1,hR,rfl⟩,c.called hs ho1⟩
theorem Zc{f:FuncId}{d:List Operand}{ts:Array TypeId}{vs:V_}{u:Value}(ho:o.op= .call {callee:=.value (.func f),args:=d.toArray,argTypes:=ts})(hc:Fc P f)(hv:d.map (ev l)=vs.map some)
  (hg:Sp P f vs [] fun v h=>v=u/\h=[]):LO P n w0 b_ h l o fun v h'=>v=u/\h'=h:=by
 intro a w hf c K Q hk
 refine YP ho hc hv .d hg a w hf c K Q fun v w' h' e b=>?_
 obtain⟨h1,⟨rfl,rfl⟩,rfl⟩:=e
 exact hk v w' h ⟨rfl,rfl⟩ (by rw[AH]at b;exact b)
end
def Cv(w0:World)(b_:N_)(h:Mem)(F:Mem->Prop):Prop:=∀w,CX w0 b_ h w->∃h',F h'/\CX w0 b_ h' w
section
variable {P:Program}{n:Nat}{w0:World}{b_:N_}{l:Dh}{h hs:Mem}{F:Mem->Prop}{ops:Array Oper}{K:En}{Q:Exit->Act->World->Prop}{rest:List Oper}{k_:Nat->Bool}{f_:Nat}{l_:Array Bool}
theorem Cx{c:Code}(hi:Cv w0 b_ h F)(hk:∀h',F h'->TC P n w0 b_ c K l h'):TC P n w0 b_ c K l h:=
 fun a w hf ho=>by obtain⟨h',h1,h2⟩:=hi w ho;exact hk h' h1 a w hf h2
theorem CL(hi:Cv w0 b_ h F)(hk:∀h',F h'->OL P n w0 b_ ops Q rest l h'):OL P n w0 b_ ops Q rest l h:=
 fun a w hf ho=>by obtain⟨h',h1,h2⟩:=hi w ho;exact hk h' h1 a w hf h2
theorem Dp(hi:Cv w0 b_ h F)(hk:∀h',F h'->DL P n w0 b_ ops K hs k_ f_ l_ l h'):DL P n w0 b_ ops K hs k_ f_ l_ l h:=
 fun a w hf ho=>by obtain⟨h',h1,h2⟩:=hi w ho;exact hk h' h1 a w hf h2
theorem Ti{c:Code}{h':Mem}(hi:Cv w0 b_ h fun q=>q=h')(hk:TC P n w0 b_ c K l h'):TC P n w0 b_ c K l h:=Cx hi fun _ e=>e▸hk
theorem Oi{h':Mem}(hi:Cv w0 b_ h fun q=>q=h')(hk:OL P n w0 b_ ops Q rest l h'):OL P n w0 b_ ops Q rest l h:=CL hi fun _ e=>e▸hk
theorem Di{h':Mem}(hi:Cv w0 b_ h fun q=>q=h')(hk:DL P n w0 b_ ops K hs k_ f_ l_ l h'):DL P n w0 b_ ops K hs k_ f_ l_ l h:=Dp hi fun _ e=>e▸hk
theorem O8{o:Oper}{d:Nat}{u:Value}{a b:Mem}(hs:LO P n w0 b_ h l o fun v h'=>∃h1,(v=u/\h1=a)/\h'=b++h1)(hk:OL P n w0 b_ ops Q rest ((d,u)::l) (b++a))(hw:CK ops l o=some true:=by exact rfl)(hd:o.dst=some d:=by exact rfl)(hlt:Nat.blt d n=true:=by exact rfl):OL P n w0 b_ ops Q (o::rest) l h:=
 Mq hw hd hlt hs fun _ _ ⟨_,⟨e1,e2⟩,e3⟩=>by subst e1 e2 e3;exact hk
theorem Ew{j:Nat}(hi:Cv w0 b_ h F)(hk:∀h',F h'->DS P n w0 b_ ops K hs k_ f_ l_ j l h'):DS P n w0 b_ ops K hs k_ f_ l_ j l h:=
 fun a w hf ho=>by obtain⟨h',h1,h2⟩:=hi w ho;exact hk h' h1 a w hf h2
end
def cm(S:N_)(A:Mem->Prop):CW where
 ids:=S
 P:=fun H=>∃rs:Mem,A rs/\(rs.flatMap CW.ids).Perm S/\∀r∈rs,r.P H
 loc:=fun H c hh ⟨rs,hA,hp,hr⟩=>⟨rs,hA,hp,fun r hm=>r.loc _ _ (fun i hi=>hh i (hp.mem_iff.1 (Ba.2 ⟨r,hm,hi⟩))) (hr r hm)⟩
 ex:=fun H ⟨rs,_,hp,hr⟩ i hi=>by
  obtain⟨r,hm,b⟩:=Ba.1 (hp.mem_iff.2 hi)
  exact r.ex H (hr r hm) i b
theorem cm_mono{S:N_}{A B:Mem->Prop}(b:∀rs,A rs->B rs)(H:HF)(h:(cm S A).P H):(cm S B).P H:=by
 obtain⟨rs,c,h2⟩:=h
 exact⟨rs,b rs c,h2⟩
theorem ZS{w0:World}{b_:N_}{h b:Mem}{S:N_}{A:Mem->Prop}(s:DM h [cm S A] b):Cv w0 b_ h fun h'=>∃rs,A rs/\h'=b++rs:=by
 intro w o
 have o':=o.perm s.perm
 obtain⟨rs,d,hp,hr⟩:=o'.mine _ (Bp _ (Ap.2 rfl))
 have hnd:=o'.nd
 have c:((b++rs).flatMap CW.ids).Perm (([cm S A]++b).flatMap CW.ids):=by
  simp only[List.flatMap_append,List.flatMap_cons,List.flatMap_nil,List.append_nil]
  exact(Av).trans (hp.append_right _)
 refine⟨b++rs,⟨rs,d,rfl⟩,o'.os,o'.tape,o'.output,o'.size,o'.old,fun r hm=>?_,c.nodup_iff.2 hnd,fun r hm i hi=>?_⟩
 ·rcases AC.1 hm with hm|hm
  ·exact o'.mine r (BG _ hm)
  ·exact hr r hm
 ·rcases AC.1 hm with hm|hm
  ·exact o'.fr r (BG _ hm) i hi
  ·exact o'.fr (cm S A) (Bp _ (Ap.2 rfl)) i (hp.mem_iff.1 (Ba.2 ⟨r,hm,hi⟩))
theorem Zl{w0:World}{b_:N_}{h a b:Mem}{A:Mem->Prop}(s:DM h a b)(e:A a):Cv w0 b_ h fun h'=>h'=b++[cm (a.flatMap CW.ids) A]:=by
 intro w o
 have o':=o.perm s.perm
 have d:((b++[cm (a.flatMap CW.ids) A]).flatMap CW.ids).Perm ((a++b).flatMap CW.ids):=by
  simp only[List.flatMap_append,List.flatMap_cons,List.flatMap_nil,List.append_nil]
  exact Av
 refine⟨_,rfl,o'.os,o'.tape,o'.output,o'.size,o'.old,fun r hm=>?_,d.nodup_iff.2 o'.nd,fun r hm i hi=>?_⟩
 ·rcases AC.1 hm with hm|hm
  ·exact o'.mine r (BG _ hm)
  ·rw[Ap.1 hm]
   exact⟨a,e,.refl _,fun r hr=>o'.mine r (Bp _ hr)⟩
 ·rcases AC.1 hm with hm|hm
  ·exact o'.fr r (BG _ hm) i hi
  ·rw[Ap.1 hm]at hi
   obtain⟨r,hr,c⟩:=Ba.1 hi
   exact o'.fr r (Bp _ hr) i c
theorem QaY{w0:World}{b_:N_}{h a b:Mem}(s:DM h a b):Cv w0 b_ h fun h'=>h'=b++a:=fun _ o=>⟨_,rfl,o.perm (Av.trans s.perm)⟩
theorem Cv.then{w0:World}{b_:N_}{h:Mem}{F G:Mem->Prop}(hi:Cv w0 b_ h F)(hk:∀h',F h'->Cv w0 b_ h' G):Cv w0 b_ h G:=fun w o=>by
 obtain⟨h',h1,o1⟩:=hi w o
 exact hk h' h1 w o1
theorem YM{w0:World}{b_:N_}{h:Mem}{G:Mem->Prop}(b:G h):Cv w0 b_ h G:=fun _ o=>⟨h,b,o⟩
theorem Cv.nil{w0:World}{b_:N_}{h:Mem}(T sz:Nat):Cv w0 b_ h fun h'=>h'=h++[sq none 0 0 T sz []]:=fun _ o=>⟨_,rfl,o.nil T sz⟩
abbrev PL:=List (Nat×Obj)
def pool(L:PL):CW where
 ids:=L.map (·.1)
 P:=fun H=>∀p∈L,H p.1=some p.2
 loc:=fun H b hh h p hp=>by rw[hh p.1 (AZ.2 ⟨p,hp,rfl⟩)];exact h p hp
 ex:=fun H h i hi=>by
  obtain⟨p,hp,rfl⟩:=AZ.1 hi
  rw[h p hp];simp
def Le(L L':PL):Prop:=∀p∈L,p∈L'
theorem Le.refl(L:PL):Le L L:=fun _ h=>h
theorem Le.trans{A B C:PL}(h:Le A B)(k:Le B C):Le A C:=fun p hp=>k p (h p hp)
theorem Le.cons(p:Nat×Obj)(L:PL):Le L (p::L):=fun _ h=>Aw _ h
def PAt(L:PL)(a:Addr)(v:Value):Prop:=a.spot=none/\∃cs T b,(a.block,Obj.cells cs T b)∈L/\cs[a.off]? =some v
theorem PAt.le{L L':PL}(k:Le L L'){a:Addr}{v:Value}(h:PAt L a v):PAt L' a v:=by
 obtain⟨h1,cs,T,b,h2,h3⟩:=h
 exact⟨h1,cs,T,b,k _ h2,h3⟩
theorem PAt.cell{L:PL}{a:Addr}{v:Value}(h:PAt L a v){H:HF}(hp:(pool L).P H):Gx H a=some v:=by
 obtain⟨h1,cs,T,b,h2,h3⟩:=h
 have h4:H a.block=some (Obj.cells cs T b):=hp _ h2
 rw[Gx,h4,h1]
 exact h3
def Reads(r:CW)(a:A_)(xs:V_):Prop:=∀H,r.P H->∀i u,xs[i]? =some u->∃x,a=some x/\Gx H (x.add i)=some u
def PSl(L:PL)(v:Value)(m:Nat)(xs:V_):Prop:=∃a cap,v= .slice a m cap/\m<=cap/\m<=maxLen/\∀i u,xs[i]? =some u->∃x,a=some x/\PAt L (x.add i) u
theorem PSl.le{L L':PL}(k:Le L L'){v:Value}{m:Nat}{xs:V_}(h:PSl L v m xs):PSl L' v m xs:=by
 obtain⟨a,cap,e,h1,h2,h3⟩:=h
 exact⟨a,cap,e,h1,h2,fun i u b=>by obtain⟨x,hx,hc⟩:=h3 i u b;exact⟨x,hx,hc.le k⟩⟩
def u8(x:Nat):Value:=.int .u8 (x:Int)
def Bs(L:PL)(v:Value)(bs:N_):Prop:=PSl L v bs.length (bs.map u8)/\∀x∈bs,x<256
theorem Bs.le{L L':PL}(k:Le L L'){v:Value}{bs:N_}(h:Bs L v bs):Bs L' v bs:=⟨h.1.le k,h.2⟩
def EI(L:PL)(v:Value)(bss:List N_):Prop:=∃vs:V_,vs.length=bss.length/\PSl L v bss.length vs/\∀(i:Nat) (u:Value) (bs:N_),vs[i]? =some u->bss[i]? =some bs->Bs L u bs
theorem EI.le{L L':PL}(k:Le L L'){v:Value}{bss:List N_}(h:EI L v bss):EI L' v bss:=by
 obtain⟨vs,h1,h2,h3⟩:=h
 exact⟨vs,h1,h2.le k,fun i u bs b hb=>(h3 i u bs b hb).le k⟩
theorem Reads.pool{L:PL}{a:A_}{m cap:Nat}{xs:V_}(h:PSl L (.slice a m cap) m xs):Reads (Cru.pool L) a xs:=by
 obtain⟨d,b,e,_,_,h3⟩:=h
 cases e
 intro H hp i u c
 obtain⟨x,hx,hc⟩:=h3 i u c
 exact⟨x,hx,hc.cell hp⟩
theorem Reads.sq{ao:A_}{m cap T sz:Nat}{xs:V_}:Reads (Cru.sq ao m cap T sz xs) ao xs:=by
 intro H hp i u b
 obtain⟨h1,h2⟩:=hp
 have hi:i<xs.length:=(Ab.1 b).1
 rcases h2 with ⟨rfl,rfl,rfl⟩|⟨g,cur,rfl,hg,_,_,_,ht⟩
 ·omega
 ·refine⟨_,rfl,?_⟩
  rw[add_lit,AE]
  simp only[Gx,hg]
  rw[<-ht,BH]at b
  split at b
  ·simpa using b
  ·cases b
theorem CX.poolPut{w0 w:World}{b_:N_}{b:Mem}{L:PL}{r:CW}{g:Nat}{ob:Obj}(o:CX w0 b_ (pool L::r::b) w)(hid:r.ids=[g])(hg:hf w g=some ob):CX w0 b_ (b++[pool ((g,ob)::L)]) w:=by
 have hL:=o.mine (pool L) (by simp)
 refine⟨o.os,o.tape,o.output,o.size,o.old,fun q hm=>?_,?_,fun q hm i hi=>?_⟩
 ·rcases AC.1 hm with hm|hm
  ·exact o.mine q (by simp[hm])
  ·rw[Ap.1 hm]
   intro p hp
   rcases AW.1 hp with rfl|hp
   ·exact hg
   ·exact hL p hp
 ·have hnd:=o.nd
  rw[Az,Az,hid]at hnd
  rw[AI,Az,Bc,AH]
  refine(List.Perm.nodup_iff ?_).2 hnd
  show(b.flatMap CW.ids++g::L.map (·.1)).Perm (L.map (·.1)++(g::b.flatMap CW.ids))
  exact Cq.trans ((Av.cons g).trans Cq.symm)
 ·rcases AC.1 hm with hm|hm
  ·exact o.fr q (by simp[hm]) i hi
  ·rw[Ap.1 hm]at hi
   rcases AW.1 hi with e|hi
   ·exact o.fr r (by simp) i (by rw[hid,e];exact Ap.2 rfl)
   ·exact o.fr (pool L) (by simp) i hi
theorem Cv.freeze{w0:World}{b_:N_}{h b:Mem}{L:PL}{ao:A_}{m cap T sz:Nat}{xs:V_}(s:DM h [pool L,sq ao m cap T sz xs] b):
  Cv w0 b_ h fun h'=>∃L',Le L L'/\PSl L' (.slice ao m cap) m xs/\h'=b++[pool L']:=by
 intro w o
 have o':=o.perm s.perm
 obtain⟨h1,h2⟩:=o'.mine (sq ao m cap T sz xs) (by simp)
 rcases h2 with ⟨rfl,rfl,rfl⟩|⟨g,cur,rfl,hg,hmc,d,hsz,ht⟩
 ·refine⟨_,⟨L,.refl _,⟨none,0,rfl,Al _,Af _,fun i u c=>?_⟩,rfl⟩,(o'.drop (h':=pool L::b) ?_).perm Av⟩
  ·have:xs=[]:=Bv (by simpa using h1)
   rw[this]at c;cases c
  ·exact Ax _ (List.Sublist.cons _ (List.Sublist.refl _))
 ·refine⟨_,⟨(g,.cells cur T (0,0))::L,.cons _ _,⟨_,_,rfl,hmc,AA hmc d,fun i u c=>⟨_,rfl,?_⟩⟩,rfl⟩,o'.poolPut rfl hg⟩
  rw[add_lit,AE]
  refine⟨rfl,cur,T,(0,0),Ar,?_⟩
  rw[<-ht,BH]at c
  split at c
  ·simpa using c
  ·cases c
section
variable {P:Program}{n:Nat}{w0:World}{b_:N_}{l:Dh}{h hs:Mem}{o:Oper}{v:Value}
theorem Ct.reads{x:Operand}{T:TypeId}{d:TypeDesc}{i j:Nat}{r:CW}{a:Addr}{xs:V_}(ho:o.op= .load T x)(hx:ev l x=some (.pointer (some (a.add j))))(hi:FG hs i r)(hr:Reads r (some a) xs)(c:P.underlying T=some d)(hd:ET d=false)(hv:xs[j]? =some v):Ct P n w0 b_ hs l o v:=
 Ct.load ho hx c hd fun w b=>by
  obtain⟨y,hy,hc⟩:=hr _ (b.mine _ (Aj hi.at)) j v hv
  cases hy
  exact hc
theorem Reads.some{r:CW}{a:A_}{xs:V_}{w:World}(hr:Reads r a xs)(hp:r.P (hf w)){i:Nat}{u:Value}(b:xs[i]? =some u):∃x,a=some x:=by
 obtain⟨x,hx,_⟩:=hr _ hp i u b
 exact⟨x,hx⟩
theorem CM{c:Code}{K:En}{r:CW}{a:A_}{xs:V_}{i j:Nat}{u:Value}(hi:FG h i r)(hr:Reads r a xs)(b:xs[j]? =some u)(hk:∀x,a=some x->TC P n w0 b_ c K l h):TC P n w0 b_ c K l h:=
 fun act w hf ho=>by
  obtain⟨x,hx⟩:=hr.some (ho.mine _ (Aj hi.at)) b
  exact hk x hx act w hf ho
end
theorem DM.sub{h a b:Mem}(s:DM h a b):∀r∈a,r∈h:=fun _ hr=>s.perm.mem_iff.1 (Bp _ hr)
theorem Cw{P:Program}{n:Nat}{w0:World}{b_:N_}{l:Dh}{h a b:Mem}{K:En}{id:Nat}{ops:Array Oper}(s:DM h a b)(hm:P.follows .mixedOrders=true)(k_:Nat->Bool)(hk:(∀r∈a,r∈h)->DL P n w0 b_ ops K a k_ ops.size (Array.replicate ops.size false) l h):TC P n w0 b_ (.region id ops true) K l h:=
 Kr a s.sub hm k_ hk
inductive Ps:Mem->Mem->Mem->Prop
 |d {h:Mem}:Ps h [] h
 |p {r:CW} {h h1 a b:Mem}:DM h [r] h1->Ps h1 a b->Ps h (r::a) b
theorem Ps.p0{r0:CW}{h a b:Mem}(q:Ps (h) a b):Ps (r0::h) (r0::a) b:=.p (.t .d) q
theorem Ps.p1{r0 r1:CW}{h a b:Mem}(q:Ps (r0::h) a b):Ps (r0::r1::h) (r1::a) b:=.p (.s (.t .d)) q
theorem Ps.p2{r0 r1 r2:CW}{h a b:Mem}(q:Ps (r0::r1::h) a b):Ps (r0::r1::r2::h) (r2::a) b:=.p (DM.s2 (.t .d)) q
theorem Ps.p3{r0 r1 r2 c:CW}{h a b:Mem}(q:Ps (r0::r1::r2::h) a b):Ps (r0::r1::r2::c::h) (c::a) b:=.p (DM.s3 (.t .d)) q
theorem Ps.p4{r0 r1 r2 c d:CW}{h a b:Mem}(q:Ps (r0::r1::r2::c::h) a b):Ps (r0::r1::r2::c::d::h) (d::a) b:=.p (DM.s4 (.t .d)) q
theorem Ps.p5{r0 r1 r2 c d e:CW}{h a b:Mem}(q:Ps (r0::r1::r2::c::d::h) a b):Ps (r0::r1::r2::c::d::e::h) (e::a) b:=.p (DM.s5 (.t .d)) q
theorem Ps.p6{r0 r1 r2 c d e f:CW}{h a b:Mem}(q:Ps (r0::r1::r2::c::d::e::h) a b):Ps (r0::r1::r2::c::d::e::f::h) (f::a) b:=.p (DM.s6 (.t .d)) q
theorem Ps.p7{r0 r1 r2 c d e f g:CW}{h a b:Mem}(q:Ps (r0::r1::r2::c::d::e::f::h) a b):Ps (r0::r1::r2::c::d::e::f::g::h) (g::a) b:=.p (DM.s7 (.t .d)) q
theorem Ps.p8{r0 r1 r2 c d e f g i:CW}{h a b:Mem}(q:Ps (r0::r1::r2::c::d::e::f::g::h) a b):Ps (r0::r1::r2::c::d::e::f::g::i::h) (i::a) b:=.p (DM.s8 (.t .d)) q
theorem Ps.p9{r0 r1 r2 c d e f g i j:CW}{h a b:Mem}(q:Ps (r0::r1::r2::c::d::e::f::g::i::h) a b):Ps (r0::r1::r2::c::d::e::f::g::i::j::h) (j::a) b:=.p (DM.s9 (.t .d)) q
theorem Ps.p10{r0 r1 r2 d e f g i j k c:CW}{h a b:Mem}(q:Ps (r0::r1::r2::d::e::f::g::i::j::k::h) a b):Ps (r0::r1::r2::d::e::f::g::i::j::k::c::h) (c::a) b:=.p (DM.s10 (.t .d)) q
theorem Ps.p11{r0 r1 r2 e f g i j k l c d:CW}{h a b:Mem}(q:Ps (r0::r1::r2::e::f::g::i::j::k::l::c::h) a b):Ps (r0::r1::r2::e::f::g::i::j::k::l::c::d::h) (d::a) b:=.p (DM.s11 (.t .d)) q
theorem Ps.p12{r0 r1 r2 f g i j k l m c d e:CW}{h a b:Mem}(q:Ps (r0::r1::r2::f::g::i::j::k::l::m::c::d::h) a b):Ps (r0::r1::r2::f::g::i::j::k::l::m::c::d::e::h) (e::a) b:=.p (DM.s12 (.t .d)) q
theorem Ps.p13{r0 r1 r2 g i j k l m n c d e f:CW}{h a b:Mem}(q:Ps (r0::r1::r2::g::i::j::k::l::m::n::c::d::e::h) a b):Ps (r0::r1::r2::g::i::j::k::l::m::n::c::d::e::f::h) (f::a) b:=.p (DM.s13 (.t .d)) q
theorem Ps.p14{r0 r1 r2 i j k l m n o c d e f g:CW}{h a b:Mem}(q:Ps (r0::r1::r2::i::j::k::l::m::n::o::c::d::e::f::h) a b):Ps (r0::r1::r2::i::j::k::l::m::n::o::c::d::e::f::g::h) (g::a) b:=.p (DM.s14 (.t .d)) q
theorem Ps.perm{h a b:Mem}(s:Ps h a b):(a++b).Perm h:=by
 induction s with
 |d=>exact .refl _
 |p s _ ih=>exact(ih.cons _).trans s.perm
theorem CX.calledP{w0 w w':World}{b_:N_}{h a b h1:Mem}(o:CX w0 b_ h w)(s:Ps h a b)(c:CX w (a.flatMap CW.ids) h1 w'):CX w0 b_ (b++h1) w':=by
 have key:∀a b:Mem,DM (a++b) a b:=fun a b=>by
  induction a with
  |nil=>exact .d
  |cons r a ih=>exact .t ih
 exact(o.perm s.perm).called (key a b) c
theorem CX.lendP{w0 w:World}{b_:N_}{h a b:Mem}(o:CX w0 b_ h w)(s:Ps h a b):CX w (a.flatMap CW.ids) a w:=by
 have key:∀a b:Mem,DM (a++b) a b:=fun a b=>by
  induction a with
  |nil=>exact .d
  |cons r a ih=>exact .t ih
 exact(o.perm s.perm).lend (key a b)
theorem Zd{P:Program}{n:Nat}{w0:World}{b_:N_}{l:Dh}{h:Mem}{o:Oper}{f:FuncId}{d:List Operand}{ts:Array TypeId}{vs:V_}{R:Value->Mem->Prop}{a b:Mem}(ho:o.op= .call {callee:=.value (.func f),args:=d.toArray,argTypes:=ts})(hc:Fc P f)(hv:d.map (ev l)=vs.map some)
  (hs:Ps h a b) (hg:Sp P f vs a R):LO P n w0 b_ h l o fun u h'=>∃h1,R u h1/\h'=b++h1:=
 Qao (f:=f) (vs:=vs) (fun _ hf w=>Nz ho hc (Fg hf hv) w) fun w c=>
  Calls.mono (hg w (c.lendP hs)) fun _ _ ⟨v,h1,he,hR,ho1⟩=>⟨v,b++h1,he,⟨h1,hR,rfl⟩,c.calledP hs ho1⟩
theorem Zb{w0:World}{b_:N_}{h a b:Mem}{A:Mem->Prop}(s:Ps h a b)(c:A a):Cv w0 b_ h fun h'=>h'=b++[cm (a.flatMap CW.ids) A]:=by
 have key:∀a b:Mem,DM (a++b) a b:=fun a b=>by
  induction a with
  |nil=>exact .d
  |cons r a ih=>exact .t ih
 exact fun w o=>Zl (key a b) c w (o.perm s.perm)
theorem Cv.op{w0:World}{b_:N_}{h b:Mem}{S:N_}{A:Mem->Prop}(s:Ps h [cm S A] b):Cv w0 b_ h fun h'=>∃rs,A rs/\h'=b++rs:=by
 cases s with
 |p s t=>cases t;exact ZS s
theorem Zg{w0:World}{b_:N_}{h b:Mem}{L:PL}{ao:A_}{m cap T sz:Nat}{xs:V_}(s:Ps h [pool L,sq ao m cap T sz xs] b):
  Cv w0 b_ h fun h'=>∃L',Le L L'/\PSl L' (.slice ao m cap) m xs/\h'=b++[pool L']:=fun w o=>by
 have key:∀a b:Mem,DM (a++b) a b:=fun a b=>by
  induction a with
  |nil=>exact .d
  |cons r a ih=>exact .t ih
 exact Cv.freeze (key [pool L,sq ao m cap T sz xs] b) w (o.perm s.perm)
theorem Rr {P:Program} {n:Nat} {w0:World} {b_:N_} {b:Func} {R:Value->Mem->Prop} {l:Dh} {h:Mem} {t:Nat} {v:Value} (c:R v h) (hr:b.results=#[.tmp t]:=by rfl) (ht:fnd l t=some v:=by rfl):Hb P n w0 b_ b R .ret l h:=CB hr ht (.refl _) c
theorem Sq {P:Program} {n:Nat} {f:FuncId} {b:Func} {c:Code} {vs:V_} {rs:Mem} {R:Value->Mem->Prop} (hf:P.funcs[f]? =some b) (ht:∀w0 b_,TC P n w0 b_ c (Hb P n w0 b_ b R) (Og 0 vs) rs) (hb:b.body=some c:=by rfl) (hn:b.ntmps=n:=by rfl) (hl:Nat.ble vs.length n=true:=by rfl):Sp P f vs rs R:=Wa hf hb hn hl ht
def bitI(k:IntKind)(f:BitVec k.bits->BitVec k.bits->BitVec k.bits)(x y:Int):Int:=k.wrap ((f (BitVec.ofInt k.bits x) (BitVec.ofInt k.bits y)).toNat:Int)
def Fx(k:IntKind):Int->Int->Int:=bitI k (·&&& ·)
def YH(k:IntKind):Int->Int->Int:=bitI k (·||| ·)
def KV(k:IntKind):Int->Int->Int:=bitI k (·^^^ ·)
def GN(x y:Int)(k:IntKind):Int:=x.fdiv (2 ^ min y.toNat k.bits)
def FZ(k:IntKind)(x y:Int):Int:=k.wrap (x*2 ^ min y.toNat k.bits)
abbrev Pj:Int->Int:=IntKind.i64.wrap
section
variable {P:Program}{n:Nat}{w0:World}{b_:N_}{l:Dh}{h hs:Mem}{o:Oper}{v:Value}
theorem Za{t t':TypeId}{x y:Operand}{k:IntKind}{i j:Int}(ho:o.op= .binOp .and t x y t')(hx:ev l x=some (.int k i))(hy:ev l y=some (.int k j)):Ct P n w0 b_ hs l o (.int k (Fx k i j)):=Zs ho hx hy fun _=>by cases k<;>rfl
theorem Qaw{t t':TypeId}{x y:Operand}{k:IntKind}{i j:Int}(ho:o.op= .binOp .or t x y t')(hx:ev l x=some (.int k i))(hy:ev l y=some (.int k j)):Ct P n w0 b_ hs l o (.int k (YH k i j)):=Zs ho hx hy fun _=>by cases k<;>rfl
theorem Qbd{t t':TypeId}{x y:Operand}{k:IntKind}{i j:Int}(ho:o.op= .binOp .xor t x y t')(hx:ev l x=some (.int k i))(hy:ev l y=some (.int k j)):Ct P n w0 b_ hs l o (.int k (KV k i j)):=Zs ho hx hy fun _=>by cases k<;>rfl
theorem Zy{t t':TypeId}{x y:Operand}{k k':IntKind}{i j:Int}(ho:o.op= .binOp .shr t x y t')(hx:ev l x=some (.int k i))(hy:ev l y=some (.int k' j))(hj:0<=j):Ct P n w0 b_ hs l o (.int k (GN i j k)):=
 Zs ho hx hy fun w=>by
  have h0:¬(j<0):=by omega
  show(Op.shift .shr k i k' j).run P w=_
  unfold Op.shift
  rw[Aa h0]
  rfl
theorem ZZ{t t':TypeId}{x y:Operand}{k k':IntKind}{i j:Int}(ho:o.op= .binOp .shl t x y t')(hx:ev l x=some (.int k i))(hy:ev l y=some (.int k' j))(hj:0<=j):Ct P n w0 b_ hs l o (.int k (FZ k i j)):=
 Zs ho hx hy fun w=>by
  have h0:¬(j<0):=by omega
  show(Op.shift .shl k i k' j).run P w=_
  unfold Op.shift
  rw[Aa h0]
  rfl
theorem Ct.negG{t:TypeId}{x:Operand}{k:IntKind}{i:Int}(ho:o.op= .unOp .neg t x)(hx:ev l x=some (.int k i)):Ct P n w0 b_ hs l o (.int k (k.wrap (0-i))):=
 Ct.of (s:=Op.unary .neg (.int k i)) (fun a hf=>by unfold execOp;simp only[ho,hf.eval hx]) (fun w _=>rfl)
theorem Ct.notG{t:TypeId}{x:Operand}{k:IntKind}{i:Int}(ho:o.op= .unOp .xor t x)(hx:ev l x=some (.int k i)):Ct P n w0 b_ hs l o (.int k (KV k (if k.signed then -1 else k.max) i)):=
 Ct.of (s:=Op.unary .xor (.int k i)) (fun a hf=>by unfold execOp;simp only[ho,hf.eval hx]) (fun w _=>by cases k<;>rfl)
end
inductive Ep {α:Type}:List α->Nat->α->α->List α->Prop
 |head {a b:α} {l:List α}:Ep (a::l) 0 a b (b::l)
 |tail {a b c:α} {l l':List α} {i:Nat}:Ep l i a b l'->Ep (c::l) (i+1) a b (c::l')
theorem Ep.at{α:Type}{l l':List α}{i:Nat}{a b:α}(h:Ep l i a b l'):l[i]? =some a/\l'=l.set i b:=by
 induction h with
 |head=>exact⟨rfl,rfl⟩
 |tail _ ih=>exact⟨by rw[List.getElem?_cons_succ];exact ih.1,by rw[List.set_cons_succ,ih.2]⟩
section
variable {α:Type}{a b c0 c1 c2 c3 c4 c5 c6 c7 c8 c9 c10 c11:α}{l:List α}
theorem s0:Ep (a::l) 0 a b (b::l):=.head
theorem s1:Ep (c0::a::l) 1 a b (c0::b::l):=s0.tail
theorem s2:Ep (c0::c1::a::l) 2 a b (c0::c1::b::l):=s1.tail
theorem s3:Ep (c0::c1::c2::a::l) 3 a b (c0::c1::c2::b::l):=s2.tail
theorem s4:Ep (c0::c1::c2::c3::a::l) 4 a b (c0::c1::c2::c3::b::l):=s3.tail
theorem s5:Ep (c0::c1::c2::c3::c4::a::l) 5 a b (c0::c1::c2::c3::c4::b::l):=s4.tail
theorem s6:Ep (c0::c1::c2::c3::c4::c5::a::l) 6 a b (c0::c1::c2::c3::c4::c5::b::l):=s5.tail
theorem s7:Ep (c0::c1::c2::c3::c4::c5::c6::a::l) 7 a b (c0::c1::c2::c3::c4::c5::c6::b::l):=s6.tail
theorem s8:Ep (c0::c1::c2::c3::c4::c5::c6::c7::a::l) 8 a b (c0::c1::c2::c3::c4::c5::c6::c7::b::l):=s7.tail
theorem s9:Ep (c0::c1::c2::c3::c4::c5::c6::c7::c8::a::l) 9 a b (c0::c1::c2::c3::c4::c5::c6::c7::c8::b::l):=s8.tail
theorem s10:Ep (c0::c1::c2::c3::c4::c5::c6::c7::c8::c9::a::l) 10 a b (c0::c1::c2::c3::c4::c5::c6::c7::c8::c9::b::l):=s9.tail
theorem s11:Ep (c0::c1::c2::c3::c4::c5::c6::c7::c8::c9::c10::a::l) 11 a b (c0::c1::c2::c3::c4::c5::c6::c7::c8::c9::c10::b::l):=s10.tail
theorem s12:Ep (c0::c1::c2::c3::c4::c5::c6::c7::c8::c9::c10::c11::a::l) 12 a b (c0::c1::c2::c3::c4::c5::c6::c7::c8::c9::c10::c11::b::l):=s11.tail
end
inductive If {α:Type}:List α->Nat->List α->List α->Prop
 |nil {cs:List α}:If cs 0 [] cs
 |put {c v:α} {cs vs cs':List α}:If cs 0 vs cs'->If (c::cs) 0 (v::vs) (v::cs')
 |skip {c:α} {cs vs cs':List α} {off:Nat}:If cs off vs cs'->If (c::cs) (off+1) vs (c::cs')
theorem If.len{α:Type}{cs vs cs':List α}{off:Nat}(h:If cs off vs cs'):off+vs.length<=cs.length/\cs'.length=cs.length:=by
 induction h with
 |nil=>exact⟨by simp,rfl⟩
 |put _ ih=>simp only[List.length_cons];omega
 |skip _ ih=>simp only[List.length_cons];omega
theorem If.at{α:Type}{cs vs cs':List α}{off:Nat}(h:If cs off vs cs')(j:Nat):cs'[j]? =if off<=j/\j<off+vs.length then vs[j-off]? else cs[j]? :=by
 induction h generalizing j with
 |nil=>rw[Aa (by simp)]
 |@put c v cs vs cs' _ ih=>
  cases j with
  |zero=>simp
  |succ j=>
   simp only[List.getElem?_cons_succ,ih j,List.length_cons,Nat.sub_zero,Nat.zero_add,Nat.zero_le,true_and]
   by_cases hj:j<vs.length
   ·rw[Ah hj,Ah (by omega)]
   ·rw[Aa hj,Aa (by omega)]
 |@skip c cs vs cs' off _ ih=>
  cases j with
  |zero=>rw[Aa (by omega)];rfl
  |succ j=>
   simp only[List.getElem?_cons_succ,ih j]
   rw[show j+1-(off+1)=j-off from by omega]
   by_cases hj:off<=j/\j<off+vs.length
   ·rw[Ah hj,Ah (by omega)]
   ·rw[Aa hj,Aa (by omega)]
theorem If.put_eq{cs vs cs':V_}{off:Nat}(h:If cs off vs cs'):putCells cs.toArray off vs=cs'.toArray:=by
 apply Array.ext_getElem?
 intro j
 rw[Gn vs cs.toArray off j (by simpa using h.len.1)]
 simp only[List.getElem?_toArray,h.at j]
inductive Qu {α:Type}:List α->Nat->Nat->List α->Prop
 |nil {cs:List α}:Qu cs 0 0 []
 |take {c:α} {cs vs:List α} {k:Nat}:Qu cs 0 k vs->Qu (c::cs) 0 (k+1) (c::vs)
 |skip {c:α} {cs vs:List α} {off k:Nat}:Qu cs off k vs->Qu (c::cs) (off+1) k vs
theorem Qu.at{α:Type}{cs vs:List α}{off k:Nat}(h:Qu cs off k vs):vs.length=k/\∀j v,vs[j]? =some v->cs[off+j]? =some v:=by
 induction h with
 |nil=>exact⟨rfl,fun j v hj=>by cases hj⟩
 |take _ ih=>
  refine⟨by rw[Am,ih.1],fun j v hj=>?_⟩
  cases j with
  |zero=>simpa using hj
  |succ j=>have:=ih.2 j v (by simpa using hj);simpa using this
 |@skip c cs vs off k _ ih=>
  refine⟨ih.1,fun j v hj=>?_⟩
  rw[show off+1+j=(off+j)+1 from by omega,List.getElem?_cons_succ]
  exact ih.2 j v hj
inductive JZ:Value->V_->Prop
 |agg {vs:V_}:JZ (.agg vs.toArray) vs
 |one {v:Value} (h:v.cells= #[v]):JZ v [v]
theorem JZ.eq{v:Value}{vs:V_}(h:JZ v vs):v.cells=vs.toArray:=by
 cases h with
 |agg=>rfl
 |one h=>exact h
section
variable {P:Program}{n:Nat}{w0:World}{b_:N_}{l:Dh}{h hs:Mem}{o:Oper}{v:Value}
theorem Zi{x:Operand}{T:TypeId}{d:TypeDesc}{b off i:Nat}{cs:V_}{T':TypeId}{c:Nat×Nat}(e:P.underlying T=some d)(ho:o.op= .load T x:=by rfl)(hx:ev l x=some (.pointer (some ⟨b,off,none⟩)):=by rfl)
  (hi:FG hs i (blk b (.cells cs.toArray T' c)):=by first|exact at0|exact at1|exact at2|exact at3|exact at4|exact at5|exact at6|exact at7|exact at8|exact at9|exact at10|exact at11|exact at12) (hd:ET d=false:=by rfl) (hc:nth cs off=some v:=by rfl):Ct P n w0 b_ hs l o v:=
 Ct.ownV ho hx hi e hd hc
theorem ZX{x:Operand}{T:TypeId}{d:TypeDesc}{b off i:Nat}{cs vs:V_}{T':TypeId}{c:Nat×Nat}(k:Nat)(f:P.underlying T=some d)(ho:o.op= .load T x:=by rfl)(hx:ev l x=some (.pointer (some ⟨b,off,none⟩)):=by rfl)
  (hi:FG hs i (blk b (.cells cs.toArray T' c)):=by first|exact at0|exact at1|exact at2|exact at3|exact at4|exact at5|exact at6|exact at7|exact at8|exact at9|exact at10|exact at11|exact at12) (hd:ET d=true:=by rfl) (hk:(P.info? T).map (·.size)=some k:=by rfl) (hc:Qu cs off k vs:=by repeat constructor):Ct P n w0 b_ hs l o (.agg vs.toArray):=
 QaW ho hx ⟨f,hk⟩ hd hc.at.1 fun w e j v hj=>by
  rw[add_lit,e.own hi.at]
  have:=hc.at.2 j v hj
  simpa using this
theorem YO{x y:Operand}{T:TypeId}{b off i:Nat}{cs vs cs':V_}{T':TypeId}{h':Mem}(ho:o.op= .store T x y:=by rfl)(hx:ev l x=some (.pointer (some ⟨b,off,none⟩)):=by rfl)(hy:ev l y=some v:=by rfl)(hv:JZ v vs:=by first|exact .agg|exact .one rfl)
  (hi:Ep h i (blk b (.cells cs.toArray T' (0,0))) (blk b (.cells cs'.toArray T' (0,0))) h':=by first|exact s0|exact s1|exact s2|exact s3|exact s4|exact s5|exact s6|exact s7|exact s8|exact s9|exact s10|exact s11|exact s12)
  (hc:If cs off vs cs':=by repeat constructor) (d:(P.info? T).map (·.size)=some vs.length:=by rfl) (h1:vs.all EL=true:=by rfl):
  LO P n w0 b_ h l o fun u k=>u=undef/\k=h':=by
 obtain⟨e1,e2⟩:=hi.at
 subst e2
 refine LO.storeAs i cs'.toArray ho hx hy e1 d (by rw[hv.eq];simp) (fun u c=>?_) (by have:=hc.len.1;simpa using this) (by rw[hv.eq];exact hc.put_eq)
 rw[hv.eq]at c
 exact BD.1 h1 u c
theorem Ct.fld{x:Operand}{T:TypeId}{s h b m:Nat}{e:Array Field}(f off q:Nat)(i:P.underlying T=some (.struct e))(ho:o.op= .fieldAddr T x f:=by rfl)(hx:ev l x=some (.pointer (some ⟨b,m,none⟩)):=by rfl)
  (c:(e[f]?).map (fun g=>(g.type,g.offset))=some (h,off):=by rfl) (d:(P.info? h).map (·.size)=some (s+1):=by rfl) (hq:m+off=q:=by rfl):Ct P n w0 b_ hs l o (.pointer (some ⟨b,q,none⟩)):=hq▸Qbb f ho hx i c d
theorem Ct.nilF{t t' e:TypeId}{x y:Operand}{a:Addr}(b:P.underlying t=some (.pointer e))(ho:o.op= .binOp .eql t x y t':=by rfl)(hx:ev l x=some (.pointer (some a)):=by rfl)(hy:ev l y=some (.pointer none):=by rfl):Ct P n w0 b_ hs l o (.bool false):=Zh ho hx hy b
end
theorem EM(x:Int):IntKind.u8.wrap x=x%256:=by
 simp[IntKind.wrap,IntKind.signed,IntKind.bits]
theorem Rg(x:Int):IntKind.u32.wrap x=x%4294967296:=by
 simp[IntKind.wrap,IntKind.signed,IntKind.bits]
theorem IU{x:Int}(h0: -9223372036854775808<=x)(h1:x<=9223372036854775807):Pj x=x:=wrap_i64 h0 h1
theorem bv(b x:Nat)(hx:x<2 ^ b):(BitVec.ofInt b (x:Int)).toNat=x:=DQ b x hx
theorem RX{x y:Nat}(hx:x<9223372036854775808)(hy:y<9223372036854775808):Fx .i64 x y=((x&&&y:Nat):Int):=by
 have h1:(BitVec.ofInt 64 (x:Int)&&&BitVec.ofInt 64 (y:Int)).toNat=x&&&y:=by rw[Ch,bv 64 x (by omega),bv 64 y (by omega)]
 show IntKind.i64.wrap ((BitVec.ofInt 64 (x:Int)&&&BitVec.ofInt 64 (y:Int)).toNat:Int)=_
 rw[h1,DU (BA Nat.and_le_left hx)]
theorem andI_u64{x y:Nat}(hx:x<18446744073709551616)(hy:y<18446744073709551616):Fx .u64 x y=((x&&&y:Nat):Int):=by
 have h1:(BitVec.ofInt 64 (x:Int)&&&BitVec.ofInt 64 (y:Int)).toNat=x&&&y:=by rw[Ch,bv 64 x (by omega),bv 64 y (by omega)]
 show IntKind.u64.wrap ((BitVec.ofInt 64 (x:Int)&&&BitVec.ofInt 64 (y:Int)).toNat:Int)=_
 rw[h1,Eh (BA Nat.and_le_left hx)]
theorem VG{x y:Nat}(hx:x<18446744073709551616)(hy:y<18446744073709551616):YH .u64 x y=((x|||y:Nat):Int):=by
 have h1:(BitVec.ofInt 64 (x:Int)|||BitVec.ofInt 64 (y:Int)).toNat=x|||y:=by rw[BitVec.toNat_or,bv 64 x (by omega),bv 64 y (by omega)]
 show IntKind.u64.wrap ((BitVec.ofInt 64 (x:Int)|||BitVec.ofInt 64 (y:Int)).toNat:Int)=_
 rw[h1,Eh (SV hx hy)]
theorem SS{x y:Nat}(hx:x<18446744073709551616)(hy:y<18446744073709551616):KV .u64 x y=((x^^^y:Nat):Int):=by
 have h1:(BitVec.ofInt 64 (x:Int)^^^BitVec.ofInt 64 (y:Int)).toNat=x^^^y:=by rw[BitVec.toNat_xor,bv 64 x (by omega),bv 64 y (by omega)]
 show IntKind.u64.wrap ((BitVec.ofInt 64 (x:Int)^^^BitVec.ofInt 64 (y:Int)).toNat:Int)=_
 rw[h1,Eh (xor_lt hx hy)]
theorem VP{x y:Nat}(hx:x<256)(hy:y<256):Fx .u8 x y=((x&&&y:Nat):Int):=by
 have h1:(BitVec.ofInt 8 (x:Int)&&&BitVec.ofInt 8 (y:Int)).toNat=x&&&y:=by rw[Ch,bv 8 x (by omega),bv 8 y (by omega)]
 show IntKind.u8.wrap ((BitVec.ofInt 8 (x:Int)&&&BitVec.ofInt 8 (y:Int)).toNat:Int)=_
 have h2:x&&&y<256:=BA Nat.and_le_left hx
 rw[h1,EM];omega
theorem orI_u8{x y:Nat}(hx:x<256)(hy:y<256):YH .u8 x y=((x|||y:Nat):Int):=by
 have h1:(BitVec.ofInt 8 (x:Int)|||BitVec.ofInt 8 (y:Int)).toNat=x|||y:=by rw[BitVec.toNat_or,bv 8 x (by omega),bv 8 y (by omega)]
 show IntKind.u8.wrap ((BitVec.ofInt 8 (x:Int)|||BitVec.ofInt 8 (y:Int)).toNat:Int)=_
 have h2:x|||y<256:=Nat.or_lt_two_pow (n:=8) hx hy
 rw[h1,EM];omega
theorem DF{x i:Nat}{k:IntKind}(hi:i<=k.bits):GN x i k=((x/2 ^ i:Nat):Int):=by
 unfold GN
 rw[Bf,BC hi,TE]
theorem WE{x i:Nat}(hi:i<=8)(h:x*2 ^ i<256):FZ .u8 x i=((x*2 ^ i:Nat):Int):=by
 unfold FZ
 rw[Bf,BC (show i<=IntKind.u8.bits from hi),EM]
 have:(x:Int)*2 ^ i=((x*2 ^ i:Nat):Int):=by simp
 rw[this];omega
theorem JX{x i:Nat}(hi:i<=64):FZ .u64 x i=((x*2 ^ i%18446744073709551616:Nat):Int):=by
 unfold FZ
 rw[Bf,BC (show i<=IntKind.u64.bits from hi),EN]
 have:(x:Int)*2 ^ i=((x*2 ^ i:Nat):Int):=by simp
 rw[this];omega
theorem and7(x:Nat):x&&&7=x%8:=BQ x 3
theorem and1(x:Nat):x&&&1=x%2:=BQ x 1
theorem and7i{x:Nat}(hx:x<9223372036854775808):Fx .i64 x 7=((x%8:Nat):Int):=(RX (y:=7) hx (by decide)).trans (by rw[and7])
theorem and1i{x:Nat}(hx:x<9223372036854775808):Fx .i64 x 1=((x%2:Nat):Int):=(RX (y:=1) hx (by decide)).trans (by rw[and1])
theorem and1u{x:Nat}(hx:x<18446744073709551616):Fx .u64 x 1=((x%2:Nat):Int):=(andI_u64 (y:=1) hx (by decide)).trans (by rw[and1])
theorem and1_8{x:Nat}(hx:x<256):Fx .u8 x 1=((x%2:Nat):Int):=(VP (y:=1) hx (by decide)).trans (by rw[and1])
theorem u64_lt{x:Nat}(h:x<18446744073709551616):IntKind.u64.wrap (x:Int)=x:=Eh h
theorem Xv{α:Type}{a b:List α}(e:a=b):b.Sublist a:=e▸ .refl _
theorem getD_some{b:N_}{i:Nat}(h:i<b.length):b[i]? =some (b.getD i 0):=by
 rw[AB,Ae h];rfl
theorem Ez{b:N_}{i:Nat}(h:i<b.length):(b.map u8)[i]? =some (u8 (b.getD i 0)):=by
 rw[Aq,getD_some h];rfl
theorem EU(bs:N_):∀u∈bs.map u8,EL u=true:=by
 intro u b
 obtain⟨x,_,rfl⟩:=AZ.1 b
 rfl
theorem u8_lt{x:Nat}(h:x<256):IntKind.u8.wrap (x:Int)=x:=by rw[EM];omega
section
variable {P:Program}{n:Nat}{w0:World}{b_:N_}{l:Dh}{h hs:Mem}{o:Oper}{v:Value}
theorem YT{k:IntKind}{x y:Int}(s:Ct P n w0 b_ hs l o (.int k x))(e:x=y):Ct P n w0 b_ hs l o (.int k y):=e▸s
end
section
variable {P:Program}{n:Nat}{w0:World}{b_:N_}{l:Dh}{h hs:Mem}{o:Oper}{v:Value}
theorem LO.app{x y:Operand}{t e:TypeId}{z:Value}{sz d:Nat}{ao:A_}{m cap k c i j tb T':Nat}{A:Nat×Nat}{xs cs:V_}{f:CW->Mem}(he:El P t e z sz d)
  (ho:o.op= .call {callee:=.builtin .append,args:= #[x,y],argTypes:= #[t,t]}:=by rfl) (hx:ev l x=some (.slice ao m cap):=by rfl) (hy:ev l y=some (.slice (some ⟨tb,0,none⟩) k c):=by rfl)
  (hi:∀r,Ep h i (sq ao m cap e sz xs) r (f r):=by intro r;first|exact s0|exact s1|exact s2|exact s3|exact s4|exact s5|exact s6|exact s7|exact s8|exact s9|exact s10|exact s11|exact s12)
  (hj:FG h j (blk tb (.cells cs.toArray T' A)):=by first|exact at0|exact at1|exact at2|exact at3|exact at4|exact at5|exact at6|exact at7|exact at8|exact at9|exact at10|exact at11|exact at12) (hl:cs.length=k*sz:=by rfl) (h1:cs.all EL=true:=by rfl) (q:m+k<=maxLen:=by unfold maxLen;omega) (hb:(m+k)*d<=140737488355328:=by omega):
  LO P n w0 b_ h l o fun u h'=>∃g b,u= .slice g (m+k) b/\h'=f (sq g (m+k) b e sz (xs++cs)):=by
 intro a w hf s K Q hk
 refine LO.append i cs ho hx hy (hi (sq ao m cap e sz xs)).at.1 he hl (fun w hw=>by have:=hw.cells hj.at;simpa using this) (fun u C=>BD.1 h1 u C) q hb a w hf s K Q fun v w' h' B p=>?_
 obtain⟨g,b,rfl,rfl⟩:=B
 exact hk _ w' _ ⟨g,b,rfl,rfl⟩ (by rw[(hi _).at.2];exact p)
theorem ZH{x y:Operand}{t e:TypeId}{z:Value}{sz g:Nat}{ao B:A_}{m cap k c i j:Nat}{xs b:V_}{r:CW}{f:CW->Mem}(he:El P t e z sz g)(hr:Reads r B b)
  (ho:o.op= .call {callee:=.builtin .append,args:= #[x,y],argTypes:= #[t,t]}:=by rfl) (hx:ev l x=some (.slice ao m cap):=by rfl) (hy:ev l y=some (.slice B k c):=by rfl)
  (hi:∀r,Ep h i (sq ao m cap e sz xs) r (f r):=by intro r;first|exact s0|exact s1|exact s2|exact s3|exact s4|exact s5|exact s6|exact s7|exact s8|exact s9|exact s10|exact s11|exact s12)
  (hj:FG h j r:=by first|exact at0|exact at1|exact at2|exact at3|exact at4|exact at5|exact at6|exact at7|exact at8|exact at9|exact at10|exact at11|exact at12) (s:m+k<=maxLen:=by unfold maxLen;omega) (hb:(m+k)*g<=140737488355328:=by omega) (hl:b.length=k*sz:=by simp) (h1:∀u∈b,EL u=true:=by first|exact EU _|simp):
  LO P n w0 b_ h l o fun u h'=>∃p d,u= .slice p (m+k) d/\h'=f (sq p (m+k) d e sz (xs++b)):=by
 intro a w hf A K Q hk
 refine LO.appendV i b ho hx hy (hi (sq ao m cap e sz xs)).at.1 he hl (fun w hw E u D=>hr _ (hw.mine _ (Aj hj.at)) E u D) h1 s hb a w hf A K Q fun v w' h' C q=>?_
 obtain⟨p,d,rfl,rfl⟩:=C
 exact hk _ w' _ ⟨p,d,rfl,rfl⟩ (by rw[(hi _).at.2];exact q)
theorem YV{x:Operand}{T:TypeId}{d:TypeDesc}{g m cap T' sz off i:Nat}{xs:V_}(b:P.underlying T=some d)(hc:xs[off]? =some v)(ho:o.op= .load T x:=by rfl)(hx:ev l x=some (.pointer (some ⟨g,off,none⟩)):=by rfl)
  (hi:FG hs i (sq (some ⟨g,0,none⟩) m cap T' sz xs):=by first|exact at0|exact at1|exact at2|exact at3|exact at4|exact at5|exact at6|exact at7|exact at8|exact at9|exact at10|exact at11|exact at12) (hd:ET d=false:=by rfl):Ct P n w0 b_ hs l o v:=
 Ct.sqLoad i ho hx hi.at b hd hc
theorem LO.sqS{x y:Operand}{T:TypeId}{g m cap T' sz off i:Nat}{xs:V_}{h':Mem}(ho:o.op= .store T x y:=by rfl)(hx:ev l x=some (.pointer (some ⟨g,off,none⟩)):=by rfl)(hy:ev l y=some v:=by rfl)
  (hi:Ep h i (sq (some ⟨g,0,none⟩) m cap T' sz xs) (sq (some ⟨g,0,none⟩) m cap T' sz (xs.set off v)) h':=by first|exact s0|exact s1|exact s2|exact s3|exact s4|exact s5|exact s6|exact s7|exact s8|exact s9|exact s10|exact s11|exact s12)
  (b:(P.info? T).map (·.size)=some 1:=by rfl) (hl:v.cells= #[v]:=by rfl) (h1:EL v=true:=by rfl) (hfit:off<m*sz:=by omega):LO P n w0 b_ h l o fun u k=>u=undef/\k=h':=by
 rw[hi.at.2]
 exact LO.sqStore i ho hx hy hi.at.1 b hl h1 hfit
theorem CX.sqNN{w:World}(ho:CX w0 b_ h w){i m cap T sz:Nat}{ao:A_}{xs:V_}(hi:FG h i (sq ao m cap T sz xs))(hm:0<m):∃g,ao=some ⟨g,0,none⟩:=ho.sqSome hi.at hm
theorem CX.sqB{w:World}(ho:CX w0 b_ h w){i m cap T sz:Nat}{ao:A_}{xs:V_}(hi:FG h i (sq ao m cap T sz xs)):m<=cap/\m<=maxLen:=sq_le (ho.mine _ (Aj hi.at))
end
def EH(a:A_)(cap l s:Nat):A_:=if cap=l then a else a.map (·.add (l*s))
theorem Yd{P:Program}{T e:TypeId}{a:A_}{len cap s l h:Nat}{k k':IntKind}(lo hi:Option Value)(w:World)(d:P.underlying T=some (.slice e))(hs:(P.info? e).map (·.size)=some s)
  (hlo:lo=none/\l=0∨lo=some (.int k l)) (b:hi=none/\h=len∨hi=some (.int k' h)) (h1:l<=h) (h2:h<=cap):
  (Instr.slice T (.slice a len cap) lo hi none).run P w= .ok (.slice (EH a cap l s) (h-l) (cap-l)) w:=by
 have hb:(Instr.sliceBounds true len cap lo hi none).run P w= .ok (l,h,cap) w:=by
  unfold Instr.sliceBounds
  have hh:∀c,(Instr.sliceBound (.int k' (h:Int)) cap c).run P w= .ok h w:=fun c=>by
   unfold Instr.sliceBound
   simp only[asIntOf]
   show((if _ then _ else _:Sem Nat)).run P w=_
   rw[Ah ⟨by omega,by omega⟩]
   simp
  have hl:∀c,(Instr.sliceBound (.int k (l:Int)) h c).run P w= .ok l w:=fun c=>by
   unfold Instr.sliceBound
   simp only[asIntOf]
   show((if _ then _ else _:Sem Nat)).run P w=_
   rw[Ah ⟨by omega,by omega⟩]
   simp
  rcases hlo with ⟨rfl,rfl⟩|rfl<;>rcases b with ⟨rfl,rfl⟩|rfl
  ·rfl
  ·simp only[Sem.run_bind,Sem.run_pure,Result.andThen_ok,hh]
  ·simp only[Sem.run_bind,Sem.run_pure,Result.andThen_ok,hl]
  ·simp only[Sem.run_bind,Sem.run_pure,Result.andThen_ok,hh,hl]
 unfold Instr.slice
 rw[Ak,Cz d,Ai]
 show((Instr.sliceBounds true len cap lo hi none >>= fun _=>_:Sem Value)).run P w=_
 rw[Ak,hb,Ai]
 show((sizeOf e >>= fun _=>_:Sem Value)).run P w=_
 rw[Ak,run_sizeOf hs,Ai]
 rfl
theorem IK{P:Program}{T e:TypeId}{a:A_}{len cap s l h:Nat}{k k':IntKind}(lo hi:Option Value)(w:World)(c:P.underlying T=some (.slice e))(hs:(P.info? e).map (·.size)=some s)
  (hlo:lo=none/\l=0∨lo=some (.int k l)) (b:hi=none/\h=len∨hi=some (.int k' h)) (h1:l<=h) (h2:h<=cap):
  (Instr.sliceAt T (.slice a len cap) lo hi none).run P w= .ok (.slice (EH a cap l s) (h-l) (cap-l)) w:=by
 unfold Instr.sliceAt
 rw[Ak,Cz c,Ai]
 exact Yd lo hi w c hs hlo b h1 h2
section
variable {P:Program}{n:Nat}{w0:World}{b_:N_}{l:Dh}{h hs:Mem}{o:Oper}{v:Value}
theorem ZB{x y:Operand}{T e:TypeId}{a:A_}{len cap:Nat}{k:IntKind}{i:Int}(s:Nat)(j:Nat)(c:P.underlying T=some (.slice e))(ho:o.op= .slice T x (some y) none none:=by rfl)(hx:ev l x=some (.slice a len cap):=by rfl)(hy:ev l y=some (.int k i):=by rfl)(b:(P.info? e).map (·.size)=some s:=by rfl)(hj:i=(j:Int):=by first|rfl|omega)(h1:j<=len:=by omega)(h2:len<=cap:=by omega):
  Ct P n w0 b_ hs l o (.slice (EH a cap j s) (len-j) (cap-j)):=
 Ct.of (s:=Instr.sliceAt T (.slice a len cap) (some (.int k i)) none none) (fun d hf=>by unfold execOp;simp only[ho,hf.eval hx,Option.map_some,Option.map_none,hf.eval hy]) fun w _=>by subst hj;exact IK (k':=.i64) _ _ w c b (.inr rfl) (.inl ⟨rfl,rfl⟩) h1 h2
theorem ZR{x y:Operand}{T e:TypeId}{a:A_}{len cap:Nat}{k:IntKind}{i:Int}(s:Nat)(j:Nat)(c:P.underlying T=some (.slice e))(ho:o.op= .slice T x none (some y) none:=by rfl)(hx:ev l x=some (.slice a len cap):=by rfl)(hy:ev l y=some (.int k i):=by rfl)(b:(P.info? e).map (·.size)=some s:=by rfl)(hj:i=(j:Int):=by first|rfl|omega)(h2:j<=cap:=by omega):
  Ct P n w0 b_ hs l o (.slice (EH a cap 0 s) (j-0) (cap-0)):=
 Ct.of (s:=Instr.sliceAt T (.slice a len cap) none (some (.int k i)) none) (fun d hf=>by unfold execOp;simp only[ho,hf.eval hx,Option.map_some,Option.map_none,hf.eval hy]) fun w _=>by subst hj;exact IK (k:=.i64) _ _ w c b (.inl ⟨rfl,rfl⟩) (.inr rfl) (Nat.zero_le _) h2
theorem ZQ{x y z:Operand}{T e:TypeId}{a:A_}{len cap:Nat}{k k':IntKind}{i c:Int}(s:Nat)(j q:Nat)(d:P.underlying T=some (.slice e))(ho:o.op= .slice T x (some y) (some z) none:=by rfl)(hx:ev l x=some (.slice a len cap):=by rfl)(hy:ev l y=some (.int k i):=by rfl)(hz:ev l z=some (.int k' c):=by rfl)(b:(P.info? e).map (·.size)=some s:=by rfl)(hj:i=(j:Int):=by first|rfl|omega)(hq:c=(q:Int):=by first|rfl|omega)(h1:j<=q:=by omega)(h2:q<=cap:=by omega):
  Ct P n w0 b_ hs l o (.slice (EH a cap j s) (q-j) (cap-j)):=
 Ct.of (s:=Instr.sliceAt T (.slice a len cap) (some (.int k i)) (some (.int k' c)) none) (fun f hf=>by unfold execOp;simp only[ho,hf.eval hx,hf.eval hy,hf.eval hz,Option.map_some,Option.map_none]) fun w _=>by subst hj hq;exact IK _ _ w d b (.inr rfl) (.inr rfl) h1 h2
theorem LO.copyAll{x y:Operand}{t t' e:TypeId}{b m c k g i j T':Nat}{p:A_}{cs:Array Value}{d:V_}{r:CW}{h':Mem}(B:P.underlying t=some (.slice e))(hr:Reads r p d)
  (ho:o.op= .call {callee:=.builtin .copy,args:= #[x,y],argTypes:= #[t,t']}:=by rfl) (hx:ev l x=some (.slice (some ⟨b,0,none⟩) m c):=by rfl) (hy:ev l y=some (.slice p k g):=by rfl)
  (hi:Ep h i (blk b (.cells cs T' (0,0))) (blk b (.cells d.toArray T' (0,0))) h':=by first|exact s0|exact s1|exact s2|exact s3|exact s4|exact s5|exact s6|exact s7|exact s8|exact s9|exact s10|exact s11|exact s12)
  (hj:FG h j r:=by first|exact at0|exact at1|exact at2|exact at3|exact at4|exact at5|exact at6|exact at7|exact at8|exact at9|exact at10|exact at11|exact at12) (A:(P.info? e).map (·.size)=some 1:=by rfl) (hk:k=m:=by rfl) (hl:d.length=m:=by simp) (hc:cs.size=m:=by first|exact Tj _ _|simp) (h1:∀u∈d,EL u=true:=by first|exact EU _|simp):
  LO P n w0 b_ h l o fun u q=>u= .int .i64 (m:Int)/\q=h':=by
 obtain⟨e1,e2⟩:=hi.at
 subst e2 hk
 refine Zf (s:=Builtin.copy_ #[t,t'] o.type #[.slice (some ⟨b,0,none⟩) k c,.slice p k g]) (fun a hf=>?_) fun w hw=>?_
 ·unfold execOp
  simp only[ho,resolve,List.map_toArray,List.map_cons,List.map_nil,hf.eval hx,hf.eval hy]
  rfl
 ·have hb:Go.Cru.hf w b=some (.cells cs T' (0,0)):=hw.mine _ (Aj e1)
  obtain⟨w',hrun,q1,q2,q3,q4,q5⟩:=Ej (P:=P) d 0 w b 0 cs T' h1 hb (by omega)
  have f:(Builtin.firstCells 1 k (.slice p k g)).run P w= .ok d.toArray w:=by
   cases p with
   |none=>
    have:d=[]:=by
     cases d with
     |nil=>rfl
     |cons u us=>obtain⟨x,hx,_⟩:=hr _ (hw.mine _ (Aj hj.at)) 0 u rfl;cases hx
    rw[this];exact run_firstCells_none w 1 k k g
   |some ad=>
    refine run_firstCells_some w 1 k ad k g d (by omega) fun D u C=>?_
    obtain⟨x,hx,hcl⟩:=hr _ (hw.mine _ (Aj hj.at)) D u C
    cases hx;exact hcl
  refine⟨_,w',_,?_,⟨rfl,rfl⟩,hw.set e1 rfl q1 q2 q3 q4 (fun z hz=>?_) ?_⟩
  ·unfold Builtin.copy_
   show((underlying t >>= fun _=>_:Sem Value)).run P w=_
   rw[Ak,Cz B,Ai]
   show((sizeOf e >>= fun _=>_:Sem Value)).run P w=_
   rw[Ak,run_sizeOf A,Ai]
   show((Builtin.firstCells 1 (Nat.min k k) (.slice p k g) >>= fun _=>_:Sem Value)).run P w=_
   rw[show Nat.min k k=k from Nat.min_self k,Ak,f,Ai]
   show((storeCells ⟨b,0,none⟩ d.toArray.toList 0 >>= fun _=>(Sem.pure (goInt k):Sem Value))).run P w=_
   rw[Ak]
   simp only[hrun,Result.andThen_ok]
   rfl
  ·have:=congrFun q5 z
   simp only[Go.Cru.hf]at this
   rw[this,Aa (fun e=>hz (by simp[blk,e]))]
  ·show Go.Cru.hf w' b=_
   rw[q5]
   simp only[if_true]
   rw[show 0+0=0 from rfl,<-JL cs d.toArray (by simp;omega)]
end
theorem Reads.sub{r:CW}{a:A_}{xs:V_}{cap j q:Nat}(h:Reads r a xs)(hq:q<=cap):Reads r (EH a cap j 1) ((xs.take q).drop j):=by
 intro H hp i u b
 rw[BW,BH]at b
 split at b
 ·obtain⟨x,rfl,hc⟩:=h H hp (j+i) u b
  refine⟨x.add j,?_,by rw[add_add];exact hc⟩
  unfold EH
  rw[Aa (by omega),Bm]
  rfl
 ·cases b
theorem PSl.sub{L:PL}{a:A_}{m cap:Nat}{xs:V_}{j q:Nat}(h:PSl L (.slice a m cap) m xs)(d:j<=q)(hq:q<=m):PSl L (.slice (EH a cap j 1) (q-j) (cap-j)) (q-j) ((xs.take q).drop j):=by
 obtain⟨f,c,e,h1,h2,h3⟩:=h
 cases e
 refine⟨_,_,rfl,by omega,by omega,fun i u b=>?_⟩
 rw[BW,BH]at b
 split at b
 ·obtain⟨x,rfl,hc⟩:=h3 (j+i) u b
  refine⟨x.add j,?_,by rw[add_add];exact hc⟩
  unfold EH
  rw[Aa (by omega),Bm]
  rfl
 ·cases b
theorem Bs.sub{L:PL}{a:A_}{cap:Nat}{bs:N_}{j q:Nat}(h:Bs L (.slice a bs.length cap) bs)(b:j<=q)(hq:q<=bs.length):Bs L (.slice (EH a cap j 1) (q-j) (cap-j)) ((bs.take q).drop j):=by
 have hl:((bs.take q).drop j).length=q-j:=by rw[AD,AF];omega
 refine⟨?_,fun x hx=>h.2 x (Bx (Bw hx))⟩
 rw[hl]
 have:=h.1.sub b hq
 rwa [<-List.map_take,<-List.map_drop]at this
inductive EY {α:Type}:List α->α->List α->Prop
 |nil {a:α}:EY [] a [a]
 |cons {a b:α} {l l':List α}:EY l a l'->EY (b::l) a (b::l')
theorem EY.eq{α:Type}{l l':List α}{a:α}(h:EY l a l'):l'=l++[a]:=by
 induction h with
 |nil=>rfl
 |cons _ ih=>rw[ih];rfl
def BT(P:Program)(T:TypeId)(c:List (Nat×Nat))(zs:V_):Prop:=∃b:List Field,P.underlying T=some (.struct b.toArray)/\(P.info? T).bind (·.zero)=some (.agg zs.toArray)/\b.map (fun f=>(P.info? f.type).map (·.size))=(c.map (·.2)).map some/\b.map (·.offset)=c.map (·.1)
inductive Hd (pl:List (Nat×Nat)):V_->List (Nat×Value)->V_->Prop
 |nil {cs:V_}:Hd pl cs [] cs
 |cons {i off:Nat} {v:Value} {vs cs cs' cs2:V_} {ps:List (Nat×Value)}:JZ v vs->pl[i]? =some (off,vs.length)->If cs off vs cs'->Hd pl cs' ps cs2->Hd pl cs ((i,v)::ps) cs2
theorem Hd.eq{d:List (Nat×Nat)}{cs cs':V_}{ps:List (Nat×Value)}(h:Hd d cs ps cs'):Instr.fill (fun i=>d.toArray[i]?) cs.toArray ps=some cs'.toArray:=by
 induction h with
 |nil=>rfl
 |@cons i off v vs cs cs' f ps hv hp hl _ ih=>
  have key:∀(vs:V_) (k:Nat) (b:Array Value),(vs.zipIdx k).foldl (fun b (p:Value×Nat)=>b.setIfInBounds (off+p.2) p.1) b=putCells b (off+k) vs:=by
   intro vs
   induction vs with
   |nil=>intro k b;rfl
   |cons u us c=>
    intro k b
    rw[List.zipIdx_cons,BX,c]
    simp only[putCells]
    rw[Nat.add_assoc]
  have e:v.cells.zipIdx.foldl (fun cs (x:Value×Nat)=>cs.setIfInBounds (off+x.2) x.1) cs.toArray=cs'.toArray:=by
   rw[hv.eq,<-hl.put_eq]
   have h3:=key vs 0 cs.toArray
   simp only[Nat.add_zero]at h3
   rw[<-h3]
   simp
  unfold Instr.fill
  simp only[List.getElem?_toArray,hp]at ih ⊢
  rw[Aa (by have:=hl.len.1;rw[hv.eq];simpa using this)]
  exact Eq.trans (congrArg (fun A=>Instr.fill (fun i=>d[i]?) A ps) e) ih
section
variable {P:Program}{n:Nat}{w0:World}{b_:N_}{l:Dh}{h hs:Mem}{o:Oper}{v:Value}
theorem Ct.bld{T:TypeId}{b:List (Nat×Nat)}{zs cs:V_}{ps:List (Nat×Operand)}{vs:List (Nat×Value)}(c:BT P T b zs)(ho:o.op= .build T ps.toArray)(hp:ps.map (fun p=>(p.1,ev l p.2))=vs.map (fun p=>(p.1,some p.2)))(hf:Hd b zs vs cs):Ct P n w0 b_ hs l o (.agg cs.toArray):=by
 obtain⟨d,h1,h2,h3,h4⟩:=c
 refine Ct.buildS (ss:=b.map (·.2)) ho hp h1 h2 h3 ?_
 rw[h4]
 have:(b.map (·.1)).zip (b.map (·.2))=b:=by
  clear h3 h4 hf
  induction b with
  |nil=>rfl
  |cons p b ih=>simp only[List.map_cons,List.zip_cons_cons,ih]
 rw[this]
 exact hf.eq
def evs(l:Dh):List (Nat×Operand)->Option (List (Nat×Value))
 |[]=>some []
 |(i,x)::r=>match ev l x,evs l r with
  |some v,some vs=>some ((i,v)::vs)
  |_,_=>none
theorem Kk{l:Dh}{ps:List (Nat×Operand)}{vs:List (Nat×Value)}(h:evs l ps=some vs):ps.map (fun p=>(p.1,ev l p.2))=vs.map (fun p=>(p.1,some p.2)):=by
 induction ps generalizing vs with
 |nil=>cases h;rfl
 |cons p ps ih=>
  obtain⟨i,x⟩:=p
  unfold evs at h
  split at h
  ·rename_i v b e1 e2;cases h;simp only[List.map_cons,e1,ih e2]
  ·cases h
theorem Xb{T:TypeId}{b:List (Nat×Nat)}{zs cs:V_}{ps:List (Nat×Operand)}{vs:List (Nat×Value)}(c:BT P T b zs)(ho:o.op= .build T ps.toArray:=by exact rfl)(hp:evs l ps=some vs:=by exact rfl)(hf:Hd b zs vs cs:=by repeat (first|exact .nil|(apply Hd.cons;(first|exact .agg|exact .one rfl);exact rfl;focus (repeat constructor)))):Ct P n w0 b_ hs l o (.agg cs.toArray):=Ct.bld c ho (Kk hp) hf
theorem YR{x:Operand}{T:TypeId}{vs:V_}{f:CW->Mem}(ho:o.op= .box T x:=by rfl)(hx:ev l x=some v:=by rfl)(hv:JZ v vs:=by first|exact .agg|exact .one rfl)(hf:∀r,EY h r (f r):=by intro r;repeat constructor):LO P n w0 b_ h l o fun u h'=>∃b,u= .pointer (some ⟨b,0,none⟩)/\h'=f (blk b (.cells vs.toArray T (0,0))):=by
 intro a w d e K Q hk
 refine LO.box ho hx a w d e K Q fun u w' h' g c=>?_
 obtain⟨b,_,rfl,rfl⟩:=g
 rw[hv.eq]at c
 exact hk _ w' _ ⟨b,rfl,rfl⟩ (by rw[(hf _).eq];exact c)
theorem YQ{T:TypeId}{z:Value}{zs:V_}{f:CW->Mem}(hz:(P.info? T).bind (·.zero)=some z)(ho:o.op= .alloc T:=by rfl)(hv:JZ z zs:=by first|exact .agg|exact .one rfl)(hf:∀r,EY h r (f r):=by intro r;repeat constructor):LO P n w0 b_ h l o fun u h'=>∃b,u= .pointer (some ⟨b,0,none⟩)/\h'=f (blk b (.cells zs.toArray T (0,0))):=by
 intro a w d e K Q hk
 refine LO.alloc ho hz a w d e K Q fun u w' h' g c=>?_
 obtain⟨b,_,rfl,rfl⟩:=g
 rw[hv.eq]at c
 exact hk _ w' _ ⟨b,rfl,rfl⟩ (by rw[(hf _).eq];exact c)
theorem YY{T e:TypeId}{s:Nat}{z:Value}{x:Operand}{vs:V_}{f:CW->Mem}(k:P.underlying T=some (.slice e))(ho:o.op= .buildSlice T 1 #[(0,x)]:=by rfl)(hx:ev l x=some v:=by rfl)(hv:JZ v vs:=by first|exact .agg|exact .one rfl)(hi:(P.info? e).map (fun i=>(i.zero,i.size))=some (some z,s+1):=by rfl)(hsm:Nat.ble (s+1) 16777216=true:=by rfl)(hl:vs.length=s+1:=by rfl)(hf:∀r,EY h r (f r):=by intro r;repeat constructor):
  LO P n w0 b_ h l o fun u h'=>∃b,u= .slice (some ⟨b,0,none⟩) 1 1/\h'=f (blk b (.cells vs.toArray e (0,0))):=by
 intro a w d g K Q hk
 refine QaL ho hx k hi hsm (by rw[hv.eq];simpa using hl) a w d g K Q fun u w' h' j c=>?_
 obtain⟨b,rfl,rfl⟩:=j
 rw[hv.eq]at c
 exact hk _ w' _ ⟨b,rfl,rfl⟩ (by rw[(hf _).eq];exact c)
theorem LO.clone{x y:Operand}{t e:TypeId}{z:Value}{sz g:Nat}{s:A_}{k c j:Nat}{b:V_}{r:CW}{f:CW->Mem}(he:El P t e z sz g)(hr:Reads r s b)
  (ho:o.op= .call {callee:=.builtin .append,args:= #[x,y],argTypes:= #[t,t]}:=by rfl) (hx:ev l x=some (.slice none 0 0):=by rfl) (hy:ev l y=some (.slice s k c):=by rfl)
  (hj:FG h j r:=by first|exact at0|exact at1|exact at2|exact at3|exact at4|exact at5|exact at6|exact at7|exact at8|exact at9|exact at10|exact at11|exact at12) (hf:∀r,EY h r (f r):=by intro r;repeat constructor) (A:k<=maxLen:=by unfold maxLen;omega) (hb:k*g<=140737488355328:=by omega) (hl:b.length=k*sz:=by simp) (h1:∀u∈b,EL u=true:=by first|exact EU _|simp):
  LO P n w0 b_ h l o fun u h'=>∃i d,u= .slice i k d/\h'=f (sq i k d e sz b):=by
 intro a w p q K Q hk
 have hL:(h++[sq none 0 0 e sz []])[h.length]? =some (sq none 0 0 e sz []):=by simp
 refine LO.appendV (h:=h++[sq none 0 0 e sz []]) h.length b ho hx hy hL he hl (fun w hw D u C=>hr _ (hw.mine _ (Bp _ (Aj hj.at))) D u C) h1 (by omega) (by rw[AE];exact hb) a w p (q.nil e sz) K Q fun u w' h' B m=>?_
 obtain⟨i,d,rfl,rfl⟩:=B
 rw[AE]at m ⊢
 refine hk _ w' _ ⟨i,d,rfl,rfl⟩ ?_
 rw[(hf _).eq]
 simpa using m
end
theorem Cv.asSq{w0:World}{b_:N_}{h:Mem}{i b T:Nat}{cs:V_}{f:CW->Mem}(sz m:Nat)(hm:m<=maxLen)(hi:∀r,Ep h i (blk b (.cells cs.toArray T (0,0))) r (f r):=by intro r;first|exact s0|exact s1|exact s2|exact s3|exact s4|exact s5|exact s6|exact s7|exact s8|exact s9|exact s10|exact s11|exact s12)(hc:cs.length=m*sz:=by simp):
  Cv w0 b_ h fun h'=>h'=f (sq (some ⟨b,0,none⟩) m m T sz cs):=fun w o=>⟨_,rfl,by
 have:=o.asSq (sz:=sz) (m:=m) (hi (sq (some ⟨b,0,none⟩) m m T sz cs)).at.1 (by simpa using hc) hm
 rw[(hi _).at.2];simpa using this⟩
class Sc (P:Program) (T:Nat):Prop where
 h:∃d,P.underlying T=some d/\ET d=false
class Ag (P:Program) (T:Nat) (k:outParam Nat):Prop where
 h:∃d,P.underlying T=some d/\ET d=true/\(P.info? T).map (·.size)=some k
class Sl (P:Program) (T:Nat):Prop where
 h:∃e,P.underlying T=some (.slice e)
class Pt (P:Program) (T:Nat):Prop where
 h:∃e,P.underlying T=some (.pointer e)
class Ik (P:Program) (T:Nat) (k:outParam IntKind):Prop where
 h:P.underlying T=some (.int k)
class Fof (P:Program) (T f:Nat) (off:outParam Nat):Prop where
 h:∃(fs:Array Field) (ft s:Nat),P.underlying T=some (.struct fs)/\(fs[f]?).map (fun g=>(g.type,g.offset))=some (ft,off)/\(P.info? ft).map (·.size)=some (s+1)
class Bt (P:Program) (T:Nat) (pl:outParam (List (Nat×Nat))) (zs:outParam V_):Prop where
 h:BT P T pl zs
class Ad (m off:Nat) (q:outParam Nat):Prop where
 h:m+off=q
instance (priority:=low){m off:Nat}:Ad m off (m+off):=⟨rfl⟩
instance {off:Nat}:Ad 0 off off:=⟨AE off⟩
instance (priority:=high){m:Nat}:Ad m 0 m:=⟨rfl⟩
section
variable {P:Program}{n:Nat}{w0:World}{b_:N_}{l:Dh}{h hs h1:Mem}{o:Oper}{v u:Value}{k d:Nat}{K:En}{ops:Array Oper}{Q:Exit->Act->World->Prop}{rest:List Oper}{k_:Nat->Bool}{f_:Nat}{l_:Array Bool}{is:N_}
theorem zYF{x:Operand}{T f off b m q:Nat}(ho:o.op= .fieldAddr T x f)(hx:ev l x=some (.pointer (some ⟨b,m,none⟩)))[c:Fof P T f off][a:Ad m off q]:Ct P n w0 b_ hs l o (.pointer (some ⟨b,q,none⟩)):=by
 obtain⟨d,e,s,h1,h2,h3⟩:=c.h
 exact a.h▸Qbb f ho hx h1 h2 h3
theorem zYL{x:Operand}{T:TypeId}{b off i:Nat}{cs:V_}{T':TypeId}{d:Nat×Nat}(ho:o.op= .load T x)(hx:ev l x=some (.pointer (some ⟨b,off,none⟩)))[c:Sc P T]
  (hi:FG hs i (blk b (.cells cs.toArray T' d)):=by first|exact at0|exact at1|exact at2|exact at3|exact at4|exact at5|exact at6|exact at7|exact at8|exact at9|exact at10|exact at11|exact at12) (hc:nth cs off=some v:=by exact rfl):Ct P n w0 b_ hs l o v:=
 let ⟨_,h1,hd⟩:=c.h
 Ct.ownV ho hx hi h1 hd hc
theorem zYM{x:Operand}{T:TypeId}{k b off i:Nat}{cs vs:V_}{T':TypeId}{d:Nat×Nat}(ho:o.op= .load T x)(hx:ev l x=some (.pointer (some ⟨b,off,none⟩)))[c:Ag P T k]
  (hi:FG hs i (blk b (.cells cs.toArray T' d)):=by first|exact at0|exact at1|exact at2|exact at3|exact at4|exact at5|exact at6|exact at7|exact at8|exact at9|exact at10|exact at11|exact at12) (hc:Qu cs off k vs:=by repeat constructor):Ct P n w0 b_ hs l o (.agg vs.toArray):=
 let ⟨_,h1,hd,hk⟩:=c.h
 ZX k h1 ho hx hi hd hk hc
theorem zYE{x:Operand}{T:TypeId}{a:A_}{len cap:Nat}(ho:o.op= .call {callee:=.builtin .len,args:= #[x],argTypes:= #[T]})(hx:ev l x=some (.slice a len cap))[c:Sl P T]:Ct P n w0 b_ hs l o (.int .i64 len):=
 let ⟨_,h1⟩:=c.h
 Qa0 ho hx h1
theorem zYZ{t t':TypeId}{x y:Operand}{a:Addr}(ho:o.op= .binOp .eql t x y t')(hx:ev l x=some (.pointer (some a)))(hy:ev l y=some (.pointer none))[c:Pt P t]:Ct P n w0 b_ hs l o (.bool false):=
 let ⟨_,h1⟩:=c.h
 Zh ho hx hy h1
theorem zYW{t t':TypeId}{x y:Operand}{a:Addr}(ho:o.op= .binOp .neq t x y t')(hx:ev l x=some (.pointer (some a)))(hy:ev l y=some (.pointer none))[c:Pt P t]:Ct P n w0 b_ hs l o (.bool true):=
 let ⟨_,h1⟩:=c.h
 Ct.neqNil ho hx hy h1
theorem zYB{T:TypeId}{b:List (Nat×Nat)}{zs cs:V_}{ps:List (Nat×Operand)}{vs:List (Nat×Value)}(ho:o.op= .build T ps.toArray)(hp:evs l ps=some vs)[bt:Bt P T b zs](hf:Hd b zs vs cs:=by repeat (first|exact .nil|(apply Hd.cons;(first|exact .agg|exact .one rfl);exact rfl;focus (repeat constructor)))):Ct P n w0 b_ hs l o (.agg cs.toArray):=Ct.bld bt.h ho (Kk hp) hf
theorem zYV{x:Operand}{S T:TypeId}{k k' k2:IntKind}{i:Int}(ho:o.op= .convert S T x)(hx:ev l x=some (.int k i))[c:Ik P S k2][c':Ik P T k']:Ct P n w0 b_ hs l o (.int k' (k'.wrap i)):=Ze ho hx c.h c'.h
structure OT(k:Nat)(x:Prop):Prop where
 h:x
theorem OT.z{x:Prop}(h:x):OT 0 x:=⟨h⟩
theorem zOS{x y:Code}(hx:OT k (TC P n w0 b_ x (K.then (TC P n w0 b_ y K)) l h)):OT (k+1) (TC P n w0 b_ (.seq x y) K l h):=⟨TC_seq hx.h⟩
theorem zOK(hk:OT k (K .normal l h)):OT (k+1) (TC P n w0 b_ .skip K l h):=⟨VI hk.h⟩
theorem zOE{id:Nat}(hk:OT k (K (.exit id) l h)):OT (k+1) (TC P n w0 b_ (.exit id) K l h):=⟨VQ hk.h⟩
theorem zOB{id:Nat}{c:Code}(hk:OT k (TC P n w0 b_ c (K.inBlock id) l h)):OT (k+1) (TC P n w0 b_ (.block id c) K l h):=⟨SN hk.h⟩
theorem zOR{id:Nat}{os:List Oper}(hk:OT k (OL P n w0 b_ os.toArray (Jh n w0 b_ K) os l h)):OT (k+1) (TC P n w0 b_ (.region id os.toArray false) K l h):=⟨IZ hk.h⟩
theorem zON(hq:OT k (K .normal l h)):OT (k+1) (OL P n w0 b_ ops (Jh n w0 b_ K) [] l h):=⟨Kx hq.h⟩
theorem zOY{c:Operand}{x y:Code}(hc:ev l c=some (.bool true))(hk:OT k (TC P n w0 b_ x K l h)):OT (k+1) (TC P n w0 b_ (.cond c x y) K l h):=⟨TC_yes hc hk.h⟩
theorem zOF{c:Operand}{x y:Code}(hc:ev l c=some (.bool false))(hk:OT k (TC P n w0 b_ y K l h)):OT (k+1) (TC P n w0 b_ (.cond c x y) K l h):=⟨TC_no hc hk.h⟩
theorem zO1(hs:Ct P n w0 b_ h l o v)(hw:CK ops l o=some true)(hd:o.dst=some d)(hlt:Nat.blt d n=true)(hk:OT k (OL P n w0 b_ ops Q rest ((d,v)::l) h)):OT (k+1) (OL P n w0 b_ ops Q (o::rest) l h):=⟨OL_sil hw hd hlt hs hk.h⟩
theorem zO4(hs:LO P n w0 b_ h l o fun v h'=>v=u/\h'=h1)(hw:CK ops l o=some true)(hd:o.dst=none)(hk:OT k (OL P n w0 b_ ops Q rest l h1)):OT (k+1) (OL P n w0 b_ ops Q (o::rest) l h):=⟨O4 hs hk.h hw hd⟩
theorem zO7(hw:CK ops l o=some false)(hd:o.dst=some d)(hlt:Nat.blt d n=true)(hk:OT k (OL P n w0 b_ ops Q rest ((d,undef)::l) h)):OT (k+1) (OL P n w0 b_ ops Q (o::rest) l h):=⟨OL_skip hw hd hlt hk.h⟩
theorem zO0(hr:Region.ready .any ops l_=[])(hk:OT k (K .normal l h)):OT (k+1) (DL P n w0 b_ ops K hs k_ f_ l_ l h):=⟨Wo hr hk.h⟩
theorem OA(k:Nat){X Y:Prop}(hk:X)(hst:X->OT k Y:=by intro z;repeat (first|exact OT.z z|((with_reducible apply zO7);exact rfl;exact rfl;exact rfl)|((with_reducible apply zO1);(focus (first|exact Ct.move rfl rfl|exact zYF rfl rfl|exact zYL rfl rfl|exact Ct.assign rfl rfl|exact Ct.nilCheck rfl rfl|exact zYE rfl rfl|exact Ct.lss rfl rfl rfl|exact Ct.gtr rfl rfl rfl|exact Ct.leq rfl rfl rfl|exact Ct.geq rfl rfl rfl|exact Ct.eql rfl rfl rfl|exact Ct.neq rfl rfl rfl|exact zYZ rfl rfl rfl|exact zYW rfl rfl rfl|exact QaU rfl rfl rfl|exact Ct.pick0 rfl rfl rfl|exact Ct.extract rfl rfl rfl|exact zYM rfl rfl|exact zYB rfl rfl|exact Ct.add rfl rfl rfl (by clear z;omega) (by clear z;omega)|exact Ct.sub rfl rfl rfl (by clear z;omega) (by clear z;omega)|exact Ct.not rfl rfl|exact zYV rfl rfl|exact Ct.mul rfl rfl rfl (by clear z;omega) (by clear z;omega)));exact rfl;exact rfl;exact rfl)|((with_reducible apply zO4);(focus (exact YO));exact rfl;exact rfl)|(with_reducible refine zON ?_)|(with_reducible refine zOS ?_)|(with_reducible refine zOR ?_)|(with_reducible refine zOK ?_)|(with_reducible refine zOE ?_)|(with_reducible refine zOB ?_)|((with_reducible apply zOY);exact rfl)|((with_reducible apply zOF);exact rfl)|((with_reducible apply zO0);(focus kernel_rfl))|refine zOS ?_|refine zOR ?_|refine zON ?_|refine zOK ?_|refine zOE ?_|refine zOB ?_|refine zOY rfl ?_|refine zOF rfl ?_|refine zO0 (by kernel_rfl) ?_)):Y:=(hst hk).h
structure DT(is:N_)(x:Prop):Prop where
 h:x
theorem DT.z{x:Prop}(h:x):DT [] x:=⟨h⟩
theorem zD1{i:Nat}(hi:ops[i]? =some o)(b:Ct P n w0 b_ hs l o v)(hw:CK ops l o=some true)(hd:o.dst=some d)(hlt:Nat.blt d n=true)(hm:GT ops k_ l_ i=true)(hk:DT is (DL P n w0 b_ ops K hs k_ f_ (l_.setIfInBounds i true) ((d,v)::l) h))(c:∀r∈hs,r∈h):DT (i::is) (DL P n w0 b_ ops K hs k_ (f_+1) l_ l h):=⟨Wb i hi hm hw hd hlt b c hk.h⟩
theorem zD4{i:Nat}(hi:ops[i]? =some o)(hw:CK ops l o=some false)(hd:o.dst=some d)(hlt:Nat.blt d n=true)(hm:GT ops k_ l_ i=true)(hk:DT is (DL P n w0 b_ ops K hs k_ f_ (l_.setIfInBounds i true) ((d,undef)::l) h))(b:∀r∈hs,r∈h):DT (i::is) (DL P n w0 b_ ops K hs k_ (f_+1) l_ l h):=⟨SI i hi hm hw hd hlt b hk.h⟩
theorem zD2{i:Nat}(hi:ops[i]? =some o)(b:∀w0,Ct P n w0 [] [] l o v)(hw:CK ops l o=some true)(hd:o.dst=some d)(hlt:Nat.blt d n=true)(hm:Ix ops l_ i=true)(hk:DT is (DL P n w0 b_ ops K hs k_ f_ (l_.setIfInBounds i true) ((d,v)::l) h)):DT (i::is) (DL P n w0 b_ ops K hs k_ (f_+1) l_ l h):=⟨Sn i hi hm hw hd hlt b hk.h⟩
theorem DA(is:N_){X Y:Prop}(hk:X)(hst:X->DT is Y:=by intro z;repeat (first|exact DT.z z|(apply zD4;exact rfl;exact rfl;exact rfl;exact rfl;(focus kernel_rfl);rotate_left;(focus (first|((repeat' (first|exact Gp|refine all_cons (by repeat (first|exact List.Mem.head _|refine List.Mem.tail _ ?_)) ?_));done)|exact fun _ hr=>hr)))|(apply zD1;exact rfl;(focus (first|exact Ct.move rfl rfl|exact zYF rfl rfl|exact zYL rfl rfl|exact Ct.assign rfl rfl|exact Ct.nilCheck rfl rfl|exact zYE rfl rfl|exact Ct.lss rfl rfl rfl|exact Ct.gtr rfl rfl rfl|exact Ct.leq rfl rfl rfl|exact Ct.geq rfl rfl rfl|exact Ct.eql rfl rfl rfl|exact Ct.neq rfl rfl rfl|exact zYZ rfl rfl rfl|exact zYW rfl rfl rfl|exact QaU rfl rfl rfl|exact Ct.pick0 rfl rfl rfl|exact Ct.extract rfl rfl rfl|exact zYM rfl rfl|exact zYB rfl rfl|exact Ct.add rfl rfl rfl (by clear z;omega) (by clear z;omega)|exact Ct.sub rfl rfl rfl (by clear z;omega) (by clear z;omega)|exact Ct.not rfl rfl|exact zYV rfl rfl|exact Ct.mul rfl rfl rfl (by clear z;omega) (by clear z;omega)));exact rfl;exact rfl;exact rfl;(focus kernel_rfl);rotate_left;(focus (first|((repeat' (first|exact Gp|refine all_cons (by repeat (first|exact List.Mem.head _|refine List.Mem.tail _ ?_)) ?_));done)|exact fun _ hr=>hr))))):Y:=(hst hk).h
theorem DP(is:N_){X Y:Prop}(hk:X)(hst:X->DT is Y:=by intro z;repeat (first|exact DT.z z|(apply zD3;exact rfl;exact rfl;exact rfl;exact rfl;(focus kernel_rfl))|(apply zD2;exact rfl;(focus (intro w0;first|exact Ct.move rfl rfl|exact zYF rfl rfl|exact Ct.assign rfl rfl|exact Ct.nilCheck rfl rfl|exact zYE rfl rfl|exact Ct.lss rfl rfl rfl|exact Ct.gtr rfl rfl rfl|exact Ct.leq rfl rfl rfl|exact Ct.geq rfl rfl rfl|exact Ct.eql rfl rfl rfl|exact Ct.neq rfl rfl rfl|exact zYZ rfl rfl rfl|exact zYW rfl rfl rfl|exact QaU rfl rfl rfl|exact Ct.pick0 rfl rfl rfl|exact Ct.extract rfl rfl rfl|exact zYB rfl rfl|exact Ct.add rfl rfl rfl (by clear z;omega) (by clear z;omega)|exact Ct.sub rfl rfl rfl (by clear z;omega) (by clear z;omega)|exact Ct.not rfl rfl|exact zYV rfl rfl|exact Ct.mul rfl rfl rfl (by clear z;omega) (by clear z;omega)));exact rfl;exact rfl;exact rfl;(focus kernel_rfl)))):Y:=(hst hk).h
end
def enB(P:Program)(f:Nat):Bool:=match P.funcs[f]? with
 |some b=>!(b.name== "runtime.NumGoroutine")&&!b.body.isNone
 |none=>false
theorem en_h{P:Program}{f:Nat}(h:enB P f=true):Fc P f:=by
 unfold enB at h
 split at h
 ·rename_i b e
  rw [Br] at h
  exact enters e (by simpa using h.1) (by simpa using h.2)
 ·cases h
def enL:N_:=[4,5,6,7,8,9,10,11,12,13,14,15,16,17,18,19,20,21,22,23,24,25,26,27,28,29,30,31,32,33,34,36,37,38,39,40,41,42,43,44,45,46,47,48,49,50,51,52,53,54,55,56,57,58,59,60,61,62,63,64,65,66,67,68,69,71,72,73,74,75,76,77,78,79,80,81,82,83,84,85,86,87,88,89,90,91,92,93,94,95,96,97,98,99,100,101,102,103,104,105,106,107,108,109,110,111,112,113,114,115,116,117,118,119,120,121,122,123,124,125,126,127,128,129,130,131,132,133,134,135,136,137,138,139,140,141,142,143,144,145,146,147,148,149,150,151,152,153,154,155,156,157,158,159,160,161,162,163,164,165,166,167,168,169,170,171,172,173,174,175,176,177,178,181,182,183,184,185,186,187,188,189,190,191,192,193,194,195,196,197,198,199,200,201,202,203,204,205,206,208,211,212,213,214,224,225,226,227,228,229,230,231,232,233,234,246,253,254]
theorem enA:enL.all (enB P0)=true:=by kernel_rfl
theorem en(f:Nat)(h:enL.contains f=true:=by rfl):Fc P0 f:=en_h (BD.1 enA f (by simpa using h))
abbrev u0:=Tryz.underlying0
abbrev u3:=Tryz.underlying3
abbrev u4:=Tryz.underlying4
abbrev u5:=Tryz.underlying5
abbrev u9:=Tryz.underlying9
abbrev u22:=Tryz.underlying22
abbrev u24:=Tryz.underlying24
abbrev u26:=Tryz.underlying26
abbrev u27:=Tryz.underlying27
abbrev u28:=Tryz.underlying28
abbrev u31:=Tryz.underlying31
abbrev u33:=Tryz.underlying33
abbrev u35:=Tryz.underlying35
abbrev u38:=Tryz.underlying38
abbrev u39:=Tryz.underlying39
abbrev u40:=Tryz.underlying40
abbrev u42:=Tryz.underlying42
abbrev u43:=Tryz.underlying43
abbrev u46:=Tryz.underlying46
abbrev u49:=Tryz.underlying49
abbrev u53:=Tryz.underlying53
abbrev u58:=Tryz.underlying58
abbrev u60:=Tryz.underlying60
abbrev u62:=Tryz.underlying62
abbrev u64:=Tryz.underlying64
abbrev u65:=Tryz.underlying65
abbrev u66:=Tryz.underlying66
abbrev u67:=Tryz.underlying67
abbrev u68:=Tryz.underlying68
abbrev u70:=Tryz.underlying70
abbrev u73:=Tryz.underlying73
abbrev u75:=Tryz.underlying75
abbrev u77:=Tryz.underlying77
abbrev u80:=Tryz.underlying80
abbrev u83:=Tryz.underlying83
abbrev u85:=Tryz.underlying85
abbrev u86:=Tryz.underlying86
abbrev u90:=Tryz.underlying90
abbrev u91:=Tryz.underlying91
abbrev u93:=Tryz.underlying93
abbrev u94:=Tryz.underlying94
abbrev u95:=Tryz.underlying95
abbrev u96:=Tryz.underlying96
abbrev u98:=Tryz.underlying98
abbrev u100:=Tryz.underlying100
abbrev u101:=Tryz.underlying101
abbrev u102:=Tryz.underlying102
abbrev u103:=Tryz.underlying103
abbrev u104:=Tryz.underlying104
abbrev u106:=Tryz.underlying106
abbrev u108:=Tryz.underlying108
abbrev u111:=Tryz.underlying111
abbrev u117:=Tryz.underlying117
abbrev u119:=Tryz.underlying119
abbrev u126:=Tryz.underlying126
abbrev u131:=Tryz.underlying131
abbrev u132:=Tryz.underlying132
abbrev u134:=Tryz.underlying134
abbrev u138:=Tryz.underlying138
abbrev u141:=Tryz.underlying141
abbrev u142:=Tryz.underlying142
abbrev u144:=Tryz.underlying144
abbrev u154:=Tryz.underlying154
abbrev u160:=Tryz.underlying160
abbrev u161:=Tryz.underlying161
abbrev u164:=Tryz.underlying164
abbrev u167:=Tryz.underlying167
abbrev u171:=Tryz.underlying171
abbrev u178:=Tryz.underlying178
abbrev u181:=Tryz.underlying181
abbrev u182:=Tryz.underlying182
abbrev u183:=Tryz.underlying183
abbrev u184:=Tryz.underlying184
abbrev u193:=Tryz.underlying193
abbrev u196:=Tryz.underlying196
abbrev u201:=Tryz.underlying201
abbrev u203:=Tryz.underlying203
abbrev u206:=Tryz.underlying206
abbrev u207:=Tryz.underlying207
abbrev u212:=Tryz.underlying212
abbrev u214:=Tryz.underlying214
abbrev u217:=Tryz.underlying217
abbrev u222:=Tryz.underlying222
abbrev u223:=Tryz.underlying223
abbrev u225:=Tryz.underlying225
abbrev u234:=Tryz.underlying234
abbrev u244:=Tryz.underlying244
abbrev u248:=Tryz.underlying248
abbrev u254:=Tryz.underlying254
abbrev u256:=Tryz.underlying256
abbrev u269:=Tryz.underlying269
abbrev u270:=Tryz.underlying270
abbrev u272:=Tryz.underlying272
abbrev u273:=Tryz.underlying273
abbrev u275:=Tryz.underlying275
abbrev u281:=Tryz.underlying281
abbrev u295:=Tryz.underlying295
abbrev u298:=Tryz.underlying298
abbrev u307:=Tryz.underlying307
abbrev u309:=Tryz.underlying309
abbrev u325:=Tryz.underlying325
abbrev u326:=Tryz.underlying326
abbrev u347:=Tryz.underlying347
abbrev u353:=Tryz.underlying353
abbrev u354:=Tryz.underlying354
instance bt24:Bt P0 24 [(0,1),(1,1),(2,1),(3,1),(4,1),(5,1)] [Cs 0,Cs 0,Cs 0,Cs 0,Cs 0,Cs 0]:=⟨⟨_,u24,by kernel_rfl,by kernel_rfl,rfl⟩⟩
instance bt26:Bt P0 26 [(0,1),(1,1),(2,1),(3,1),(4,1),(5,1),(6,1),(7,1),(8,1),(9,1),(10,6)] [Cs 0,Cs 0,Cs 0,Cs 0,Cs 0,Cs 0,Cs 0,Cs 0,Cs 0,.int .u64 0,Cs 0,Cs 0,Cs 0,Cs 0,Cs 0,Cs 0]:=⟨⟨_,u26,by kernel_rfl,by kernel_rfl,rfl⟩⟩
instance bt38:Bt P0 38 [(0,1),(1,1),(2,1),(3,1)] [Cs 0,Cs 0,Cs 0,.slice none 0 0]:=⟨⟨_,u38,by kernel_rfl,by kernel_rfl,rfl⟩⟩
instance bt42:Bt P0 42 [(0,1),(1,1),(2,1)] [Cs 0,Cs 0,.slice none 0 0]:=⟨⟨_,u42,by kernel_rfl,by kernel_rfl,rfl⟩⟩
instance bt62:Bt P0 62 [(0,1),(1,1),(2,1)] [Cs 0,Cs 0,.slice none 0 0]:=⟨⟨_,u62,by kernel_rfl,by kernel_rfl,rfl⟩⟩
instance bt64:Bt P0 64 [(0,1),(1,1),(2,1)] [Cs 0,Cs 0,Cs 0]:=⟨⟨_,u64,by kernel_rfl,by kernel_rfl,rfl⟩⟩
instance bt70:Bt P0 70 [(0,16),(16,1),(17,1),(18,1),(19,1),(20,1)] [Cs 0,Cs 0,Cs 0,Cs 0,Cs 0,Cs 0,Cs 0,Cs 0,Cs 0,.int .u64 0,Cs 0,Cs 0,Cs 0,Cs 0,Cs 0,Cs 0,.slice none 0 0,.slice none 0 0,.slice none 0 0,.pointer none,.slice none 0 0]:=⟨⟨_,u70,by kernel_rfl,by kernel_rfl,rfl⟩⟩
instance bt80:Bt P0 80 [(0,1),(1,1)] [Cs 0,Cs 0]:=⟨⟨_,u80,by kernel_rfl,by kernel_rfl,rfl⟩⟩
instance bt85:Bt P0 85 [(0,1),(1,1)] [Cs 0,.nilFunc]:=⟨⟨_,u85,by kernel_rfl,by kernel_rfl,rfl⟩⟩
instance bt93:Bt P0 93 [(0,1),(1,16),(17,1),(18,1),(19,1),(20,1),(21,1),(22,1)] [Cs 0,Cs 0,Cs 0,Cs 0,Cs 0,Cs 0,Cs 0,Cs 0,Cs 0,Cs 0,.int .u64 0,Cs 0,Cs 0,Cs 0,Cs 0,Cs 0,Cs 0,.pointer none,.slice none 0 0,.pointer none,Cs 0,.bool false,.slice none 0 0]:=⟨⟨_,u93,by kernel_rfl,by kernel_rfl,rfl⟩⟩
instance bt98:Bt P0 98 [(0,1),(1,1),(2,1)] [Cs 0,.bool false,Cs 0]:=⟨⟨_,u98,by kernel_rfl,by kernel_rfl,rfl⟩⟩
instance bt100:Bt P0 100 [(0,1),(1,1),(2,1),(3,1),(4,1),(5,1),(6,3),(9,1)] [.pointer none,.pointer none,.map none,Cs 0,Cs 0,.map none,Cs 0,.bool false,Cs 0,.bool false]:=⟨⟨_,u100,by kernel_rfl,by kernel_rfl,rfl⟩⟩
instance bt106:Bt P0 106 [(0,1),(1,1),(2,1)] [.slice none 0 0,.slice none 0 0,.slice none 0 0]:=⟨⟨_,u106,by kernel_rfl,by kernel_rfl,rfl⟩⟩
instance bt108:Bt P0 108 [(0,1),(1,1),(2,1),(3,1),(4,1),(5,3),(8,1),(9,1),(10,1),(11,1),(12,1),(13,1),(14,3)] [Cs 0,Cs 0,Cs 0,Cs 0,Cs 0,Cs 0,Cs 0,.slice none 0 0,.bool false,Cs 0,Cs 0,.map none,.map none,.map none,.slice none 0 0,.slice none 0 0,.slice none 0 0]:=⟨⟨_,u108,by kernel_rfl,by kernel_rfl,rfl⟩⟩
instance bt111:Bt P0 111 [(0,1),(1,1),(2,1),(3,1),(4,1)] [.pointer none,Cs 0,.slice none 0 0,.slice none 0 0,.bool false]:=⟨⟨_,u111,by kernel_rfl,by kernel_rfl,rfl⟩⟩
instance bt119:Bt P0 119 [(0,1),(1,1),(2,1),(3,1)] [Cs 0,Cs 0,Cs 0,.slice none 0 0]:=⟨⟨_,u119,by kernel_rfl,by kernel_rfl,rfl⟩⟩
instance bt134:Bt P0 134 [(0,1),(1,1),(2,1),(3,1)] [.map none,.map none,Cs 0,Cs 0]:=⟨⟨_,u134,by kernel_rfl,by kernel_rfl,rfl⟩⟩
instance bt138:Bt P0 138 [(0,1),(1,1),(2,1),(3,1),(4,1),(5,1),(6,1),(7,1),(8,1),(9,1),(10,1),(11,1)] [Cs 0,Cs 0,Cs 0,Cs 0,Cs 0,Cs 0,Cs 0,Cs 0,Cs 0,Cs 0,.slice none 0 0,.slice none 0 0]:=⟨⟨_,u138,by kernel_rfl,by kernel_rfl,rfl⟩⟩
instance bt144:Bt P0 144 [(0,16),(16,1),(17,1),(18,1),(19,1),(20,1),(21,1),(22,1),(23,1),(24,1)] [Cs 0,Cs 0,Cs 0,Cs 0,Cs 0,Cs 0,Cs 0,Cs 0,Cs 0,.int .u64 0,Cs 0,Cs 0,Cs 0,Cs 0,Cs 0,Cs 0,Cs 0,.pointer none,Cs 0,Cs 0,Cs 0,.pointer none,.bool false,.pointer none,.slice none 0 0]:=⟨⟨_,u144,by kernel_rfl,by kernel_rfl,rfl⟩⟩
instance bt160:Bt P0 160 [(0,1),(1,1),(2,1),(3,1)] [.slice none 0 0,Cs 0,.slice none 0 0,.bool false]:=⟨⟨_,u160,by kernel_rfl,by kernel_rfl,rfl⟩⟩
instance bt164:Bt P0 164 [(0,16),(16,1),(17,1),(18,1),(19,1)] [.slice none 0 0,Cs 0,.slice none 0 0,.bool false,.slice none 0 0,Cs 0,.slice none 0 0,.bool false,.slice none 0 0,Cs 0,.slice none 0 0,.bool false,.slice none 0 0,Cs 0,.slice none 0 0,.bool false,Cs 0,Cs 0,Cs 0,.bool false]:=⟨⟨_,u164,by kernel_rfl,by kernel_rfl,rfl⟩⟩
instance bt171:Bt P0 171 [(0,1),(1,1)] [Cs 0,.slice none 0 0]:=⟨⟨_,u171,by kernel_rfl,by kernel_rfl,rfl⟩⟩
instance bt193:Bt P0 193 [(0,1),(1,1),(2,1),(3,1),(4,1),(5,3)] [Cs 0,.slice none 0 0,Cs 0,Cs 0,Cs 0,Cs 0,.bool false,Cs 0]:=⟨⟨_,u193,by kernel_rfl,by kernel_rfl,rfl⟩⟩
instance bt196:Bt P0 196 [(0,1),(1,1)] [Cs 0,Cs 0]:=⟨⟨_,u196,by kernel_rfl,by kernel_rfl,rfl⟩⟩
instance bt201:Bt P0 201 [(0,1),(1,1),(2,1),(3,1),(4,1)] [Cs 0,Cs 0,Cs 0,.slice none 0 0,.slice none 0 0]:=⟨⟨_,u201,by kernel_rfl,by kernel_rfl,rfl⟩⟩
instance bt203:Bt P0 203 [(0,1),(1,5),(6,3)] [Cs 0,Cs 0,Cs 0,Cs 0,.slice none 0 0,.slice none 0 0,Cs 0,.bool false,Cs 0]:=⟨⟨_,u203,by kernel_rfl,by kernel_rfl,rfl⟩⟩
instance bt212:Bt P0 212 [(0,1),(1,9)] [Cs 0,Cs 0,Cs 0,Cs 0,Cs 0,.slice none 0 0,.slice none 0 0,Cs 0,.bool false,Cs 0]:=⟨⟨_,u212,by kernel_rfl,by kernel_rfl,rfl⟩⟩
instance bt214:Bt P0 214 [(0,1),(1,1),(2,1),(3,1),(4,1),(5,10),(15,1),(16,1),(17,1),(18,1)] [Cs 0,Cs 0,Cs 0,Cs 0,.bool false,Cs 0,Cs 0,Cs 0,Cs 0,Cs 0,.slice none 0 0,.slice none 0 0,Cs 0,.bool false,Cs 0,Cs 0,Cs 0,.map none,.slice none 0 0]:=⟨⟨_,u214,by kernel_rfl,by kernel_rfl,rfl⟩⟩
instance bt217:Bt P0 217 [(0,1),(1,1)] [.slice none 0 0,Cs 0]:=⟨⟨_,u217,by kernel_rfl,by kernel_rfl,rfl⟩⟩
instance bt222:Bt P0 222 [(0,1),(1,1),(2,1),(3,1),(4,1),(5,1),(6,1),(7,3),(10,1),(11,1),(12,1),(13,3),(16,1),(17,1),(18,1),(19,1)] [Cs 0,.slice none 0 0,.bool false,Cs 0,Cs 0,Cs 0,Cs 0,Cs 0,.bool false,Cs 0,Cs 0,.bool false,Cs 0,Cs 0,.bool false,Cs 0,Cs 0,.map none,Cs 0,.bool false]:=⟨⟨_,u222,by kernel_rfl,by kernel_rfl,rfl⟩⟩
instance bt225:Bt P0 225 [(0,6),(6,1),(7,1),(8,1)] [Cs 0,Cs 0,Cs 0,Cs 0,Cs 0,Cs 0,Cs 0,Cs 0,.pointer none]:=⟨⟨_,u225,by kernel_rfl,by kernel_rfl,rfl⟩⟩
instance bt244:Bt P0 244 [(0,1),(1,1),(2,1)] [.slice none 0 0,Cs 0,Cs 0]:=⟨⟨_,u244,by kernel_rfl,by kernel_rfl,rfl⟩⟩
instance bt256:Bt P0 256 [(0,1),(1,1),(2,1),(3,1),(4,1)] [.pointer none,Cs 0,Cs 0,Cs 0,.map none]:=⟨⟨_,u256,by kernel_rfl,by kernel_rfl,rfl⟩⟩
instance bt275:Bt P0 275 [(0,1),(1,1),(2,1),(3,1),(4,1)] [.bool false,Cs 0,.map none,.map none,.map none]:=⟨⟨_,u275,by kernel_rfl,by kernel_rfl,rfl⟩⟩
instance bt298:Bt P0 298 [(0,1)] [.int .u64 0]:=⟨⟨_,u298,by kernel_rfl,by kernel_rfl,rfl⟩⟩
instance bt309:Bt P0 309 [(0,1),(1,1)] [Cs 0,Cs 0]:=⟨⟨_,u309,by kernel_rfl,by kernel_rfl,rfl⟩⟩
theorem zr3:(P0.info? 3).bind (·.zero)=some (Cs 0):=by kernel_rfl
theorem zr4:(P0.info? 4).bind (·.zero)=some (.bool false):=by kernel_rfl
theorem zr26:(P0.info? 26).bind (·.zero)=some (.agg ([Cs 0,Cs 0,Cs 0,Cs 0,Cs 0,Cs 0,Cs 0,Cs 0,Cs 0,.int .u64 0,Cs 0,Cs 0,Cs 0,Cs 0,Cs 0,Cs 0]:V_).toArray):=by kernel_rfl
theorem zr35:(P0.info? 35).bind (·.zero)=some (Cs 0):=by kernel_rfl
theorem zr38:(P0.info? 38).bind (·.zero)=some (.agg ([Cs 0,Cs 0,Cs 0,.slice none 0 0]:V_).toArray):=by kernel_rfl
theorem zr39:(P0.info? 39).bind (·.zero)=some (.slice none 0 0):=by kernel_rfl
theorem Ve:(P0.info? 42).bind (·.zero)=some (.agg ([Cs 0,Cs 0,.slice none 0 0]:V_).toArray):=by kernel_rfl
theorem zr53:(P0.info? 53).bind (·.zero)=some (.slice none 0 0):=by kernel_rfl
theorem zr62:(P0.info? 62).bind (·.zero)=some (.agg ([Cs 0,Cs 0,.slice none 0 0]:V_).toArray):=by kernel_rfl
theorem XP:(P0.info? 64).bind (·.zero)=some (.agg ([Cs 0,Cs 0,Cs 0]:V_).toArray):=by kernel_rfl
theorem zr80:(P0.info? 80).bind (·.zero)=some (.agg ([Cs 0,Cs 0]:V_).toArray):=by kernel_rfl
theorem zr85:(P0.info? 85).bind (·.zero)=some (.agg ([Cs 0,.nilFunc]:V_).toArray):=by kernel_rfl
theorem zr98:(P0.info? 98).bind (·.zero)=some (.agg ([Cs 0,.bool false,Cs 0]:V_).toArray):=by kernel_rfl
theorem MB:(P0.info? 106).bind (·.zero)=some (.agg ([.slice none 0 0,.slice none 0 0,.slice none 0 0]:V_).toArray):=by kernel_rfl
theorem Wu:(P0.info? 119).bind (·.zero)=some (.agg ([Cs 0,Cs 0,Cs 0,.slice none 0 0]:V_).toArray):=by kernel_rfl
theorem JQ:(P0.info? 138).bind (·.zero)=some (.agg ([Cs 0,Cs 0,Cs 0,Cs 0,Cs 0,Cs 0,Cs 0,Cs 0,Cs 0,Cs 0,.slice none 0 0,.slice none 0 0]:V_).toArray):=by kernel_rfl
theorem Wl:(P0.info? 171).bind (·.zero)=some (.agg ([Cs 0,.slice none 0 0]:V_).toArray):=by kernel_rfl
theorem Kq:(P0.info? 181).bind (·.zero)=some (.agg ([Cs 0,Cs 0]:V_).toArray):=by kernel_rfl
theorem Ib:(P0.info? 193).bind (·.zero)=some (.agg ([Cs 0,.slice none 0 0,Cs 0,Cs 0,Cs 0,Cs 0,.bool false,Cs 0]:V_).toArray):=by kernel_rfl
theorem zr196:(P0.info? 196).bind (·.zero)=some (.agg ([Cs 0,Cs 0]:V_).toArray):=by kernel_rfl
theorem Lx:(P0.info? 201).bind (·.zero)=some (.agg ([Cs 0,Cs 0,Cs 0,.slice none 0 0,.slice none 0 0]:V_).toArray):=by kernel_rfl
theorem zr203:(P0.info? 203).bind (·.zero)=some (.agg ([Cs 0,Cs 0,Cs 0,Cs 0,.slice none 0 0,.slice none 0 0,Cs 0,.bool false,Cs 0]:V_).toArray):=by kernel_rfl
theorem zr212:(P0.info? 212).bind (·.zero)=some (.agg ([Cs 0,Cs 0,Cs 0,Cs 0,Cs 0,.slice none 0 0,.slice none 0 0,Cs 0,.bool false,Cs 0]:V_).toArray):=by kernel_rfl
theorem zr295:(P0.info? 295).bind (·.zero)=some (.agg ([.int .u8 0,.int .u8 0,.int .u8 0,.int .u8 0]:V_).toArray):=by kernel_rfl
theorem zr309:(P0.info? 309).bind (·.zero)=some (.agg ([Cs 0,Cs 0]:V_).toArray):=by kernel_rfl
theorem Yq:El P0 28 3 (Cs 0) 1 8:=⟨u28,by kernel_rfl,rfl,by decide⟩
theorem el39:El P0 39 42 (.agg ([Cs 0,Cs 0,.slice none 0 0]:V_).toArray) 3 40:=⟨u39,by kernel_rfl,rfl,by decide⟩
theorem KR:El P0 40 53 (.slice none 0 0) 1 24:=⟨u40,by kernel_rfl,rfl,by decide⟩
theorem Jf:El P0 53 5 (.int .u8 0) 1 1:=⟨u53,by kernel_rfl,rfl,by decide⟩
theorem el58:El P0 58 62 (.agg ([Cs 0,Cs 0,.slice none 0 0]:V_).toArray) 3 40:=⟨u58,by kernel_rfl,rfl,by decide⟩
theorem Qn:El P0 60 64 (.agg ([Cs 0,Cs 0,Cs 0]:V_).toArray) 3 24:=⟨u60,by kernel_rfl,rfl,by decide⟩
theorem el65:El P0 65 49 (.pointer none) 1 8:=⟨u65,by kernel_rfl,rfl,by decide⟩
theorem el66:El P0 66 33 (.pointer none) 1 8:=⟨u66,by kernel_rfl,rfl,by decide⟩
theorem el67:El P0 67 75 (.pointer none) 1 8:=⟨u67,by kernel_rfl,rfl,by decide⟩
theorem YB:El P0 73 138 (.agg ([Cs 0,Cs 0,Cs 0,Cs 0,Cs 0,Cs 0,Cs 0,Cs 0,Cs 0,Cs 0,.slice none 0 0,.slice none 0 0]:V_).toArray) 12 128:=⟨u73,by kernel_rfl,rfl,by decide⟩
theorem el77:El P0 77 80 (.agg ([Cs 0,Cs 0]:V_).toArray) 2 16:=⟨u77,by kernel_rfl,rfl,by decide⟩
theorem WZ:El P0 90 101 (.pointer none) 1 8:=⟨u90,by kernel_rfl,rfl,by decide⟩
theorem el104:El P0 104 119 (.agg ([Cs 0,Cs 0,Cs 0,.slice none 0 0]:V_).toArray) 4 48:=⟨u104,by kernel_rfl,rfl,by decide⟩
theorem el167:El P0 167 171 (.agg ([Cs 0,.slice none 0 0]:V_).toArray) 2 32:=⟨u167,by kernel_rfl,rfl,by decide⟩
theorem el206:El P0 206 201 (.agg ([Cs 0,Cs 0,Cs 0,.slice none 0 0,.slice none 0 0]:V_).toArray) 5 72:=⟨u206,by kernel_rfl,rfl,by decide⟩
theorem el307:El P0 307 309 (.agg ([Cs 0,Cs 0]:V_).toArray) 2 16:=⟨u307,by kernel_rfl,rfl,by decide⟩
instance :Ik P0 3 .i64:=⟨u3⟩
instance :Sc P0 3:=⟨_,u3,rfl⟩
instance :Sc P0 4:=⟨_,u4,rfl⟩
instance :Ik P0 5 .u8:=⟨u5⟩
instance :Ik P0 22 .u64:=⟨u22⟩
instance :Sc P0 22:=⟨_,u22,rfl⟩
instance :Ag P0 24 6:=⟨_,u24,rfl,rfl⟩
instance :Ag P0 26 16:=⟨_,u26,rfl,rfl⟩
instance :Sl P0 27:=⟨_,u27⟩
instance :Sc P0 28:=⟨_,u28,rfl⟩
instance :Sl P0 28:=⟨_,u28⟩
instance :Pt P0 31:=⟨_,u31⟩
instance :Pt P0 33:=⟨_,u33⟩
instance :Sc P0 35:=⟨_,u35,rfl⟩
instance :Ag P0 38 4:=⟨_,u38,rfl,rfl⟩
instance :Sc P0 39:=⟨_,u39,rfl⟩
instance :Sl P0 39:=⟨_,u39⟩
instance :Sc P0 40:=⟨_,u40,rfl⟩
instance :Sl P0 40:=⟨_,u40⟩
instance :Ag P0 42 3:=⟨_,u42,rfl,rfl⟩
instance :Sc P0 43:=⟨_,u43,rfl⟩
instance :Pt P0 43:=⟨_,u43⟩
instance :Sc P0 46:=⟨_,u46,rfl⟩
instance :Pt P0 46:=⟨_,u46⟩
instance :Sc P0 49:=⟨_,u49,rfl⟩
instance :Pt P0 49:=⟨_,u49⟩
instance :Sc P0 53:=⟨_,u53,rfl⟩
instance :Sl P0 53:=⟨_,u53⟩
instance :Sc P0 58:=⟨_,u58,rfl⟩
instance :Sl P0 58:=⟨_,u58⟩
instance :Sc P0 60:=⟨_,u60,rfl⟩
instance :Sl P0 60:=⟨_,u60⟩
instance :Ag P0 62 3:=⟨_,u62,rfl,rfl⟩
instance :Ag P0 64 3:=⟨_,u64,rfl,rfl⟩
instance :Sc P0 65:=⟨_,u65,rfl⟩
instance :Sl P0 65:=⟨_,u65⟩
instance :Sc P0 66:=⟨_,u66,rfl⟩
instance :Sl P0 66:=⟨_,u66⟩
instance :Sc P0 67:=⟨_,u67,rfl⟩
instance :Sl P0 67:=⟨_,u67⟩
instance :Sc P0 68:=⟨_,u68,rfl⟩
instance :Pt P0 68:=⟨_,u68⟩
instance :Sc P0 73:=⟨_,u73,rfl⟩
instance :Sl P0 73:=⟨_,u73⟩
instance :Pt P0 75:=⟨_,u75⟩
instance :Sl P0 77:=⟨_,u77⟩
instance :Ag P0 80 2:=⟨_,u80,rfl,rfl⟩
instance :Sc P0 83:=⟨_,u83,rfl⟩
instance :Sc P0 90:=⟨_,u90,rfl⟩
instance :Sl P0 90:=⟨_,u90⟩
instance :Sc P0 91:=⟨_,u91,rfl⟩
instance :Pt P0 91:=⟨_,u91⟩
instance :Sc P0 94:=⟨_,u94,rfl⟩
instance :Pt P0 94:=⟨_,u94⟩
instance :Sc P0 95:=⟨_,u95,rfl⟩
instance :Sc P0 96:=⟨_,u96,rfl⟩
instance :Ag P0 98 3:=⟨_,u98,rfl,rfl⟩
instance :Sc P0 102:=⟨_,u102,rfl⟩
instance :Sc P0 103:=⟨_,u103,rfl⟩
instance :Sc P0 104:=⟨_,u104,rfl⟩
instance :Sl P0 104:=⟨_,u104⟩
instance :Ag P0 106 3:=⟨_,u106,rfl,rfl⟩
instance :Sc P0 117:=⟨_,u117,rfl⟩
instance :Ag P0 119 4:=⟨_,u119,rfl,rfl⟩
instance :Sc P0 131:=⟨_,u131,rfl⟩
instance :Sc P0 132:=⟨_,u132,rfl⟩
instance :Ag P0 138 12:=⟨_,u138,rfl,rfl⟩
instance :Sc P0 141:=⟨_,u141,rfl⟩
instance :Pt P0 141:=⟨_,u141⟩
instance :Sc P0 142:=⟨_,u142,rfl⟩
instance :Pt P0 142:=⟨_,u142⟩
instance :Sl P0 167:=⟨_,u167⟩
instance :Ag P0 171 2:=⟨_,u171,rfl,rfl⟩
instance :Sl P0 178:=⟨_,u178⟩
instance :Sl P0 184:=⟨_,u184⟩
instance :Ag P0 193 8:=⟨_,u193,rfl,rfl⟩
instance :Ag P0 196 2:=⟨_,u196,rfl,rfl⟩
instance :Ag P0 201 5:=⟨_,u201,rfl,rfl⟩
instance :Ag P0 203 9:=⟨_,u203,rfl,rfl⟩
instance :Sl P0 206:=⟨_,u206⟩
instance :Sc P0 207:=⟨_,u207,rfl⟩
instance :Pt P0 207:=⟨_,u207⟩
instance :Ag P0 212 10:=⟨_,u212,rfl,rfl⟩
instance :Sc P0 223:=⟨_,u223,rfl⟩
instance :Pt P0 223:=⟨_,u223⟩
instance :Ik P0 248 .u32:=⟨u248⟩
instance :Sc P0 254:=⟨_,u254,rfl⟩
instance :Sc P0 272:=⟨_,u272,rfl⟩
instance :Sc P0 273:=⟨_,u273,rfl⟩
instance :Sl P0 307:=⟨_,u307⟩
instance :Fof P0 24 0 0:=⟨_,_,_,u24,rfl,rfl⟩
instance :Fof P0 24 1 1:=⟨_,_,_,u24,rfl,rfl⟩
instance :Fof P0 24 2 2:=⟨_,_,_,u24,rfl,rfl⟩
instance :Fof P0 24 3 3:=⟨_,_,_,u24,rfl,rfl⟩
instance :Fof P0 24 4 4:=⟨_,_,_,u24,rfl,rfl⟩
instance :Fof P0 24 5 5:=⟨_,_,_,u24,rfl,rfl⟩
instance :Fof P0 26 0 0:=⟨_,_,_,u26,rfl,rfl⟩
instance :Fof P0 26 1 1:=⟨_,_,_,u26,rfl,rfl⟩
instance :Fof P0 26 2 2:=⟨_,_,_,u26,rfl,rfl⟩
instance :Fof P0 26 3 3:=⟨_,_,_,u26,rfl,rfl⟩
instance :Fof P0 26 4 4:=⟨_,_,_,u26,rfl,rfl⟩
instance :Fof P0 26 5 5:=⟨_,_,_,u26,rfl,rfl⟩
instance :Fof P0 26 6 6:=⟨_,_,_,u26,rfl,rfl⟩
instance :Fof P0 26 7 7:=⟨_,_,_,u26,rfl,rfl⟩
instance :Fof P0 26 8 8:=⟨_,_,_,u26,rfl,rfl⟩
instance :Fof P0 26 9 9:=⟨_,_,_,u26,rfl,rfl⟩
instance :Fof P0 26 10 10:=⟨_,_,_,u26,rfl,rfl⟩
instance :Fof P0 38 0 0:=⟨_,_,_,u38,rfl,rfl⟩
instance :Fof P0 38 1 1:=⟨_,_,_,u38,rfl,rfl⟩
instance :Fof P0 38 2 2:=⟨_,_,_,u38,rfl,rfl⟩
instance :Fof P0 38 3 3:=⟨_,_,_,u38,rfl,rfl⟩
instance :Fof P0 42 0 0:=⟨_,_,_,u42,rfl,rfl⟩
instance :Fof P0 42 1 1:=⟨_,_,_,u42,rfl,rfl⟩
instance :Fof P0 42 2 2:=⟨_,_,_,u42,rfl,rfl⟩
instance :Fof P0 62 2 2:=⟨_,_,_,u62,rfl,rfl⟩
instance :Fof P0 64 0 0:=⟨_,_,_,u64,rfl,rfl⟩
instance :Fof P0 64 1 1:=⟨_,_,_,u64,rfl,rfl⟩
instance :Fof P0 64 2 2:=⟨_,_,_,u64,rfl,rfl⟩
instance :Fof P0 70 0 0:=⟨_,_,_,u70,rfl,rfl⟩
instance :Fof P0 70 1 16:=⟨_,_,_,u70,rfl,rfl⟩
instance :Fof P0 70 2 17:=⟨_,_,_,u70,rfl,rfl⟩
instance :Fof P0 70 3 18:=⟨_,_,_,u70,rfl,rfl⟩
instance :Fof P0 70 4 19:=⟨_,_,_,u70,rfl,rfl⟩
instance :Fof P0 70 5 20:=⟨_,_,_,u70,rfl,rfl⟩
instance :Fof P0 80 0 0:=⟨_,_,_,u80,rfl,rfl⟩
instance :Fof P0 80 1 1:=⟨_,_,_,u80,rfl,rfl⟩
instance :Fof P0 85 0 0:=⟨_,_,_,u85,rfl,rfl⟩
instance :Fof P0 85 1 1:=⟨_,_,_,u85,rfl,rfl⟩
instance :Fof P0 93 0 0:=⟨_,_,_,u93,rfl,rfl⟩
instance :Fof P0 93 1 1:=⟨_,_,_,u93,rfl,rfl⟩
instance :Fof P0 93 2 17:=⟨_,_,_,u93,rfl,rfl⟩
instance :Fof P0 93 3 18:=⟨_,_,_,u93,rfl,rfl⟩
instance :Fof P0 93 4 19:=⟨_,_,_,u93,rfl,rfl⟩
instance :Fof P0 93 5 20:=⟨_,_,_,u93,rfl,rfl⟩
instance :Fof P0 93 6 21:=⟨_,_,_,u93,rfl,rfl⟩
instance :Fof P0 93 7 22:=⟨_,_,_,u93,rfl,rfl⟩
instance :Fof P0 98 0 0:=⟨_,_,_,u98,rfl,rfl⟩
instance :Fof P0 98 1 1:=⟨_,_,_,u98,rfl,rfl⟩
instance :Fof P0 98 2 2:=⟨_,_,_,u98,rfl,rfl⟩
instance :Fof P0 100 0 0:=⟨_,_,_,u100,rfl,rfl⟩
instance :Fof P0 100 1 1:=⟨_,_,_,u100,rfl,rfl⟩
instance :Fof P0 100 2 2:=⟨_,_,_,u100,rfl,rfl⟩
instance :Fof P0 100 3 3:=⟨_,_,_,u100,rfl,rfl⟩
instance :Fof P0 100 4 4:=⟨_,_,_,u100,rfl,rfl⟩
instance :Fof P0 100 5 5:=⟨_,_,_,u100,rfl,rfl⟩
instance :Fof P0 100 6 6:=⟨_,_,_,u100,rfl,rfl⟩
instance :Fof P0 100 7 9:=⟨_,_,_,u100,rfl,rfl⟩
instance :Fof P0 106 0 0:=⟨_,_,_,u106,rfl,rfl⟩
instance :Fof P0 106 1 1:=⟨_,_,_,u106,rfl,rfl⟩
instance :Fof P0 106 2 2:=⟨_,_,_,u106,rfl,rfl⟩
instance :Fof P0 108 0 0:=⟨_,_,_,u108,rfl,rfl⟩
instance :Fof P0 108 1 1:=⟨_,_,_,u108,rfl,rfl⟩
instance :Fof P0 108 2 2:=⟨_,_,_,u108,rfl,rfl⟩
instance :Fof P0 108 3 3:=⟨_,_,_,u108,rfl,rfl⟩
instance :Fof P0 108 4 4:=⟨_,_,_,u108,rfl,rfl⟩
instance :Fof P0 108 5 5:=⟨_,_,_,u108,rfl,rfl⟩
instance :Fof P0 108 6 8:=⟨_,_,_,u108,rfl,rfl⟩
instance :Fof P0 108 7 9:=⟨_,_,_,u108,rfl,rfl⟩
instance :Fof P0 108 8 10:=⟨_,_,_,u108,rfl,rfl⟩
instance :Fof P0 108 9 11:=⟨_,_,_,u108,rfl,rfl⟩
instance :Fof P0 108 10 12:=⟨_,_,_,u108,rfl,rfl⟩
instance :Fof P0 108 11 13:=⟨_,_,_,u108,rfl,rfl⟩
instance :Fof P0 108 12 14:=⟨_,_,_,u108,rfl,rfl⟩
instance :Fof P0 111 0 0:=⟨_,_,_,u111,rfl,rfl⟩
instance :Fof P0 111 1 1:=⟨_,_,_,u111,rfl,rfl⟩
instance :Fof P0 111 2 2:=⟨_,_,_,u111,rfl,rfl⟩
instance :Fof P0 111 3 3:=⟨_,_,_,u111,rfl,rfl⟩
instance :Fof P0 111 4 4:=⟨_,_,_,u111,rfl,rfl⟩
instance :Fof P0 119 0 0:=⟨_,_,_,u119,rfl,rfl⟩
instance :Fof P0 119 1 1:=⟨_,_,_,u119,rfl,rfl⟩
instance :Fof P0 119 2 2:=⟨_,_,_,u119,rfl,rfl⟩
instance :Fof P0 119 3 3:=⟨_,_,_,u119,rfl,rfl⟩
instance :Fof P0 134 0 0:=⟨_,_,_,u134,rfl,rfl⟩
instance :Fof P0 134 1 1:=⟨_,_,_,u134,rfl,rfl⟩
instance :Fof P0 134 2 2:=⟨_,_,_,u134,rfl,rfl⟩
instance :Fof P0 134 3 3:=⟨_,_,_,u134,rfl,rfl⟩
instance :Fof P0 138 0 0:=⟨_,_,_,u138,rfl,rfl⟩
instance :Fof P0 138 1 1:=⟨_,_,_,u138,rfl,rfl⟩
instance :Fof P0 138 2 2:=⟨_,_,_,u138,rfl,rfl⟩
instance :Fof P0 138 3 3:=⟨_,_,_,u138,rfl,rfl⟩
instance :Fof P0 138 4 4:=⟨_,_,_,u138,rfl,rfl⟩
instance :Fof P0 138 5 5:=⟨_,_,_,u138,rfl,rfl⟩
instance :Fof P0 138 6 6:=⟨_,_,_,u138,rfl,rfl⟩
instance :Fof P0 138 7 7:=⟨_,_,_,u138,rfl,rfl⟩
instance :Fof P0 138 8 8:=⟨_,_,_,u138,rfl,rfl⟩
instance :Fof P0 138 9 9:=⟨_,_,_,u138,rfl,rfl⟩
instance :Fof P0 138 10 10:=⟨_,_,_,u138,rfl,rfl⟩
instance :Fof P0 138 11 11:=⟨_,_,_,u138,rfl,rfl⟩
instance :Fof P0 144 0 0:=⟨_,_,_,u144,rfl,rfl⟩
instance :Fof P0 144 1 16:=⟨_,_,_,u144,rfl,rfl⟩
instance :Fof P0 144 2 17:=⟨_,_,_,u144,rfl,rfl⟩
instance :Fof P0 144 3 18:=⟨_,_,_,u144,rfl,rfl⟩
instance :Fof P0 144 4 19:=⟨_,_,_,u144,rfl,rfl⟩
instance :Fof P0 144 5 20:=⟨_,_,_,u144,rfl,rfl⟩
instance :Fof P0 144 6 21:=⟨_,_,_,u144,rfl,rfl⟩
instance :Fof P0 144 7 22:=⟨_,_,_,u144,rfl,rfl⟩
instance :Fof P0 144 8 23:=⟨_,_,_,u144,rfl,rfl⟩
instance :Fof P0 144 9 24:=⟨_,_,_,u144,rfl,rfl⟩
instance :Fof P0 160 0 0:=⟨_,_,_,u160,rfl,rfl⟩
instance :Fof P0 160 1 1:=⟨_,_,_,u160,rfl,rfl⟩
instance :Fof P0 160 2 2:=⟨_,_,_,u160,rfl,rfl⟩
instance :Fof P0 160 3 3:=⟨_,_,_,u160,rfl,rfl⟩
instance :Fof P0 164 0 0:=⟨_,_,_,u164,rfl,rfl⟩
instance :Fof P0 164 1 16:=⟨_,_,_,u164,rfl,rfl⟩
instance :Fof P0 164 2 17:=⟨_,_,_,u164,rfl,rfl⟩
instance :Fof P0 164 3 18:=⟨_,_,_,u164,rfl,rfl⟩
instance :Fof P0 164 4 19:=⟨_,_,_,u164,rfl,rfl⟩
instance :Fof P0 171 0 0:=⟨_,_,_,u171,rfl,rfl⟩
instance :Fof P0 171 1 1:=⟨_,_,_,u171,rfl,rfl⟩
instance :Fof P0 193 0 0:=⟨_,_,_,u193,rfl,rfl⟩
instance :Fof P0 193 1 1:=⟨_,_,_,u193,rfl,rfl⟩
instance :Fof P0 193 2 2:=⟨_,_,_,u193,rfl,rfl⟩
instance :Fof P0 193 3 3:=⟨_,_,_,u193,rfl,rfl⟩
instance :Fof P0 193 4 4:=⟨_,_,_,u193,rfl,rfl⟩
instance :Fof P0 193 5 5:=⟨_,_,_,u193,rfl,rfl⟩
instance :Fof P0 196 0 0:=⟨_,_,_,u196,rfl,rfl⟩
instance :Fof P0 196 1 1:=⟨_,_,_,u196,rfl,rfl⟩
instance :Fof P0 201 0 0:=⟨_,_,_,u201,rfl,rfl⟩
instance :Fof P0 201 1 1:=⟨_,_,_,u201,rfl,rfl⟩
instance :Fof P0 201 2 2:=⟨_,_,_,u201,rfl,rfl⟩
instance :Fof P0 201 3 3:=⟨_,_,_,u201,rfl,rfl⟩
instance :Fof P0 201 4 4:=⟨_,_,_,u201,rfl,rfl⟩
instance :Fof P0 203 0 0:=⟨_,_,_,u203,rfl,rfl⟩
instance :Fof P0 203 1 1:=⟨_,_,_,u203,rfl,rfl⟩
instance :Fof P0 203 2 6:=⟨_,_,_,u203,rfl,rfl⟩
instance :Fof P0 212 0 0:=⟨_,_,_,u212,rfl,rfl⟩
instance :Fof P0 212 1 1:=⟨_,_,_,u212,rfl,rfl⟩
instance :Fof P0 214 0 0:=⟨_,_,_,u214,rfl,rfl⟩
instance :Fof P0 214 1 1:=⟨_,_,_,u214,rfl,rfl⟩
instance :Fof P0 214 2 2:=⟨_,_,_,u214,rfl,rfl⟩
instance :Fof P0 214 3 3:=⟨_,_,_,u214,rfl,rfl⟩
instance :Fof P0 214 4 4:=⟨_,_,_,u214,rfl,rfl⟩
instance :Fof P0 214 5 5:=⟨_,_,_,u214,rfl,rfl⟩
instance :Fof P0 214 6 15:=⟨_,_,_,u214,rfl,rfl⟩
instance :Fof P0 214 7 16:=⟨_,_,_,u214,rfl,rfl⟩
instance :Fof P0 214 8 17:=⟨_,_,_,u214,rfl,rfl⟩
instance :Fof P0 214 9 18:=⟨_,_,_,u214,rfl,rfl⟩
instance :Fof P0 217 0 0:=⟨_,_,_,u217,rfl,rfl⟩
instance :Fof P0 217 1 1:=⟨_,_,_,u217,rfl,rfl⟩
instance :Fof P0 222 0 0:=⟨_,_,_,u222,rfl,rfl⟩
instance :Fof P0 222 1 1:=⟨_,_,_,u222,rfl,rfl⟩
instance :Fof P0 222 2 2:=⟨_,_,_,u222,rfl,rfl⟩
instance :Fof P0 222 3 3:=⟨_,_,_,u222,rfl,rfl⟩
instance :Fof P0 222 4 4:=⟨_,_,_,u222,rfl,rfl⟩
instance :Fof P0 222 5 5:=⟨_,_,_,u222,rfl,rfl⟩
instance :Fof P0 222 6 6:=⟨_,_,_,u222,rfl,rfl⟩
instance :Fof P0 222 7 7:=⟨_,_,_,u222,rfl,rfl⟩
instance :Fof P0 222 8 10:=⟨_,_,_,u222,rfl,rfl⟩
instance :Fof P0 222 9 11:=⟨_,_,_,u222,rfl,rfl⟩
instance :Fof P0 222 10 12:=⟨_,_,_,u222,rfl,rfl⟩
instance :Fof P0 222 11 13:=⟨_,_,_,u222,rfl,rfl⟩
instance :Fof P0 222 12 16:=⟨_,_,_,u222,rfl,rfl⟩
instance :Fof P0 222 13 17:=⟨_,_,_,u222,rfl,rfl⟩
instance :Fof P0 222 14 18:=⟨_,_,_,u222,rfl,rfl⟩
instance :Fof P0 222 15 19:=⟨_,_,_,u222,rfl,rfl⟩
instance :Fof P0 225 0 0:=⟨_,_,_,u225,rfl,rfl⟩
instance :Fof P0 225 1 6:=⟨_,_,_,u225,rfl,rfl⟩
instance :Fof P0 225 2 7:=⟨_,_,_,u225,rfl,rfl⟩
instance :Fof P0 225 3 8:=⟨_,_,_,u225,rfl,rfl⟩
instance :Fof P0 244 0 0:=⟨_,_,_,u244,rfl,rfl⟩
instance :Fof P0 244 1 1:=⟨_,_,_,u244,rfl,rfl⟩
instance :Fof P0 244 2 2:=⟨_,_,_,u244,rfl,rfl⟩
instance :Fof P0 256 0 0:=⟨_,_,_,u256,rfl,rfl⟩
instance :Fof P0 256 1 1:=⟨_,_,_,u256,rfl,rfl⟩
instance :Fof P0 256 2 2:=⟨_,_,_,u256,rfl,rfl⟩
instance :Fof P0 256 3 3:=⟨_,_,_,u256,rfl,rfl⟩
instance :Fof P0 256 4 4:=⟨_,_,_,u256,rfl,rfl⟩
instance :Fof P0 275 0 0:=⟨_,_,_,u275,rfl,rfl⟩
instance :Fof P0 275 1 1:=⟨_,_,_,u275,rfl,rfl⟩
instance :Fof P0 275 2 2:=⟨_,_,_,u275,rfl,rfl⟩
instance :Fof P0 275 3 3:=⟨_,_,_,u275,rfl,rfl⟩
instance :Fof P0 275 4 4:=⟨_,_,_,u275,rfl,rfl⟩
instance :Fof P0 298 0 0:=⟨_,_,_,u298,rfl,rfl⟩
instance :Fof P0 309 0 0:=⟨_,_,_,u309,rfl,rfl⟩
instance :Fof P0 309 1 1:=⟨_,_,_,u309,rfl,rfl⟩
def QS(x:Int):Value:=.int .u8 x
section
variable {P:Program}{n:Nat}{w0:World}{b_:N_}{l:Dh}{h hs:Mem}{o:Oper}{v:Value}
theorem OG{T:TypeId}{xs:List Int}{i:Nat}{x:Int}{w:World}(b:P.underlying T=some (.int .u8))(hx:xs[i]? =some x):(part T (xs.map QS).toArray i).run P w= .ok (.int .u8 x) w:=by
 unfold part
 rw[Ak,Gs b,Ai]
 have:(xs.map QS).toArray[i]? =some (.int .u8 x):=by simp[hx,QS]
 simp only[ET,Bool.false_eq_true,if_false,this]
 rfl
theorem JN{d e:Nat}{xs ys:List Int}{w:World}(f:P.underlying e=some (.int .u8)):∀(k i:Nat),xs.length=i+k->ys.length=i+k->
  (Op.eqItems (d+1) e 1 (xs.map QS).toArray (ys.map QS).toArray (List.range' i k)).run P w= .ok (decide (xs.drop i=ys.drop i)) w
 |0,i,hx,hy=>by
  rw[BB (by omega),BB (by omega)]
  simp[Op.eqItems]
 |k+1,i,hx,hy=>by
  obtain⟨x,b⟩:∃x,xs[i]? =some x:=⟨_,Ae (by omega)⟩
  obtain⟨y,c⟩:∃y,ys[i]? =some y:=⟨_,Ae (by omega)⟩
  have g:xs.drop i=x::xs.drop (i+1):=by rw[Ay (by omega)];congr 1;exact(Ab.1 b).2
  have h:ys.drop i=y::ys.drop (i+1):=by rw[Ay (by omega)];congr 1;exact(Ab.1 c).2
  rw[List.range'_succ]
  unfold Op.eqItems
  rw[Bm,Ak,OG f b,Ai,Ak,OG f c,Ai,Ak,run_equalIn_int w d e .u8 .u8 x y f,Ai,g,h]
  by_cases q:x=y
  ·subst q
   simp only[beq_self_eq_true,Bool.not_true,Bool.false_eq_true,if_false]
   rw[JN f k (i+1) (by omega) (by omega)]
   simp
  ·have hb:(x == y)=false:=by simp[q]
   simp only[hb,Bool.not_false,if_true]
   have:(decide (x::xs.drop (i+1)=y::ys.drop (i+1)))=false:=by simp[q]
   rw[this]
   rfl
theorem Ct.neqA{t t' e m:Nat}{x y:Operand}{xs ys:List Int}(d:P.underlying t=some (.array m e))(he:P.underlying e=some (.int .u8))(hx:ev l x=some (.agg (xs.map QS).toArray))(hy:ev l y=some (.agg (ys.map QS).toArray))(h1:xs.length=m)(h2:ys.length=m)
  (ho:o.op= .binOp .neq t x y t':=by rfl) (b:(P.info? e).map (·.size)=some 1:=by rfl) (hg:P.eqGuardType P.depth t=false:=by kernel_rfl):Ct P n w0 b_ hs l o (.bool (!decide (xs=ys))):=
 Ct.of (s:=(do eqGuard .neq t x y (.agg (xs.map QS).toArray) (.agg (ys.map QS).toArray);binOp .neq t (.agg (xs.map QS).toArray) (.agg (ys.map QS).toArray))) (fun a hf=>by unfold execOp;simp only[ho,hf.eval hx,hf.eval hy]) fun w _=>by
  obtain⟨i,hi,c⟩:∃i,P.info? e=some i/\i.size=1:=by
   cases q:P.info? e with
   |none=>rw[q]at b;cases b
   |some i=>rw[q]at b;exact⟨i,rfl,by simpa using b⟩
  have hc:P.cellsOf e=1:=by simp[Program.cellsOf,hi,c]
  rw[Ak]
  show((eqGuard .neq t x y (.agg _) (.agg _)).run P w).andThen _=_
  rw[run_eqGuard_agg w .neq t x y _ _ hg,Ai]
  show(binOp .neq t (.agg _) (.agg _)).run P w=_
  rw[run_neq_struct]
  show((Op.equalIn (9998+1+1) t (.agg _) (.agg _)).run P w).andThen _=_
  rw[run_equalIn_array w (9998+1) _ _ d hi,hc,List.range_eq_range',JN he m 0 (by omega) (by omega)]
  rfl
theorem Ct.s2a{x:Operand}{T e m len cap:Nat}{a:Addr}{b:A_}(d:P.underlying T=some (.array m e))(c:b=some a)(ho:o.op= .sliceToArrayPointer T x:=by rfl)(hx:ev l x=some (.slice b len cap):=by rfl)(hl:m<=len:=by first|decide|omega):Ct P n w0 b_ hs l o (.pointer (some a)):=
 Ct.of (s:=Instr.arrayAt T (.slice (some a) len cap)) (fun act hf=>by unfold execOp;simp only[ho,hf.eval hx,c]) fun w _=>by
  unfold Instr.arrayAt
  rw[Ak,Cz d,Ai]
  show((if len<m then _ else _:Sem Value)).run P w=_
  rw[Aa (by omega)]
  rfl
theorem YW{x:Operand}{T:TypeId}{d:TypeDesc}{i j s:Nat}{r:CW}{a:Addr}{xs cs:V_}(e:P.underlying T=some d)(hr:Reads r (some a) xs)(hc:∀k u,cs[k]? =some u->xs[j+k]? =some u)(hl:cs.length=s)(ho:o.op= .load T x:=by rfl)(hx:ev l x=some (.pointer (some (a.add j))):=by rfl)
  (hi:FG hs i r:=by first|exact at0|exact at1|exact at2|exact at3|exact at4|exact at5|exact at6|exact at7|exact at8|exact at9|exact at10|exact at11|exact at12) (hd:ET d=true:=by rfl) (b:(P.info? T).map (·.size)=some s:=by rfl):Ct P n w0 b_ hs l o (.agg cs.toArray):=
 QaW ho hx ⟨e,b⟩ hd hl fun w c k u f=>by
  obtain⟨y,hy,hcl⟩:=hr _ (c.mine _ (Aj hi.at)) _ u (hc k u f)
  cases hy
  rw[add_add];exact hcl
theorem Ct.arrSl{x:Operand}{T e m b:Nat}(d:P.underlying T=some (.array m e))(hm:0<m)(ho:o.op= .slice T x none none none:=by rfl)(hx:ev l x=some (.pointer (some ⟨b,0,none⟩)):=by rfl)(c:(P.info? e).map (·.size)=some 1:=by rfl):Ct P n w0 b_ hs l o (.slice (some ⟨b,0,none⟩) m m):=
 Ct.of (s:=Instr.sliceAt T (.pointer (some ⟨b,0,none⟩)) none none none) (fun f hf=>by unfold execOp;simp only[ho,hf.eval hx,Option.map_none]) fun w _=>by
  unfold Instr.sliceAt
  rw[Ak,Cz d,Ai]
  show((Instr.sureAddr _ >>= fun _=>_:Sem Value)).run P w=_
  have h1:(Instr.sureAddr (.pointer (some ⟨b,0,none⟩))).run P w= .ok ⟨b,0,none⟩ w:=rfl
  have h2:(Instr.sliceBounds false m m none none none).run P w= .ok (0,m,m) w:=rfl
  rw[Ak,h1,Ai,Ak,h2,Ai]
  show((sizeOf e >>= fun _=>_:Sem Value)).run P w=_
  rw[Ak,run_sizeOf c,Ai]
  have h3:¬m=0:=by omega
  simp only[h3,if_false,Nat.zero_mul]
  rfl
end
theorem No{f g:Nat->Option (Nat×Nat)}:∀(ps:List (Nat×Value)) (cs:Array Value),(∀p∈ps,f p.1=g p.1)->Instr.fill f cs ps=Instr.fill g cs ps
 |[],_,_=>rfl
 |(i,v)::ps,cs,h=>by
  have e:f i=g i:=h (i,v) (by simp)
  unfold Instr.fill
  rw[e]
  cases g i with
  |none=>rfl
  |some q=>
   simp only
   split
   ·rfl
   ·exact No ps _ fun p hp=>h p (by simp[hp])
def apl(m s:Nat):List (Nat×Nat):=(List.range m).map fun i=>(i*s,s)
theorem Hd.arr{m s:Nat}{zs cs:V_}{vs:List (Nat×Value)}(hf:Hd (apl m s) zs vs cs):Instr.fill (fun i=>some (i*s,s)) zs.toArray vs=some cs.toArray:=by
 rw[<-hf.eq]
 refine No vs _ fun p hp=>?_
 have key:∀ {zs cs:V_} {vs:List (Nat×Value)},Hd (apl m s) zs vs cs->∀p∈vs,p.1<m:=by
  intro zs cs vs hf
  induction hf with
  |nil=>intro p hp;cases hp
  |cons _ h1 _ _ ih=>
   intro p hp
   rcases AW.1 hp with rfl|hp
   ·have:=(Ab.1 h1).1
    simpa [apl] using this
   ·exact ih p hp
 have:=key hf p hp
 simp[apl,this]
theorem Ip{P:Program}{T:TypeId}{z:Value}(hz:(P.info? T).bind (·.zero)=some z)(w:World):(zeroValue T).run P w= .ok z w:=by
 cases hi:P.info? T with
 |none=>rw[hi]at hz;cases hz
 |some i=>
  rw[hi]at hz
  have b:i.zero=some z:=hz
  simp[zeroValue,typeInfo,program,Sem.run,hi,b,Bind.bind,Sem.bind,Pure.pure]
section
variable {P:Program}{n:Nat}{w0:World}{b_:N_}{l:Dh}{h hs:Mem}{o:Oper}{v:Value}
theorem Ct.bldA{T e m s:Nat}{zs cs:V_}{ps:List (Nat×Operand)}{vs:List (Nat×Value)}(c:P.underlying T=some (.array m e))(ho:o.op= .build T ps.toArray)(hp:ps.map (fun p=>(p.1,ev l p.2))=vs.map (fun p=>(p.1,some p.2)))(hf:Hd (apl m s) zs vs cs)
  (hz:(P.info? T).bind (·.zero)=some (.agg zs.toArray):=by kernel_rfl) (b:(P.info? e).map (·.size)=some s:=by rfl):Ct P n w0 b_ hs l o (.agg cs.toArray):=
 Ct.build ho hp fun w=>by
  unfold Instr.build
  rw[Ak,Ip hz,Ai,Ak,Cz c,Ai]
  show((sizeOf e >>= fun _=>_:Sem Value)).run P w=_
  rw[Ak,run_sizeOf b,Ai]
  simp only[show(Value.agg zs.toArray).cells=zs.toArray from rfl,hf.arr]
  rfl
theorem LO.bsN{T e m s:Nat}{z:Value}{zs cs:V_}{ps:List (Nat×Operand)}{vs:List (Nat×Value)}{f:CW->Mem}(x:P.underlying T=some (.slice e))(ho:o.op= .buildSlice T m ps.toArray)(hp:ps.map (fun p=>(p.1,ev l p.2))=vs.map (fun p=>(p.1,some p.2)))(q:Hd (apl m s) zs vs cs)
  (hz:(P.info? e).bind (·.zero)=some z:=by rfl) (j:(P.info? e).map (·.size)=some s:=by rfl) (hm:Nat.ble (m*s) 16777216=true:=by rfl) (h0:Nat.beq (m*s) 0=false:=by rfl) (k:(Array.range (m*s)).map (fun i=>z.cells[i%z.cells.size]!)=zs.toArray:=by kernel_rfl) (hf:∀r,EY h r (f r):=by intro r;repeat constructor):
  LO P n w0 b_ h l o fun u h'=>∃b,u= .slice (some ⟨b,0,none⟩) m m/\h'=f (blk b (.cells cs.toArray e (0,0))):=by
 intro a w d g K Q hk
 refine LO.buildSlice (e:=e) (cs:=cs.toArray) ho hp (fun w=>?_) a w d g K Q fun u w' h' t c=>?_
 ·unfold Instr.buildSlice
  rw[Ak,Cz x,Ai]
  show((sizeOf e >>= fun _=>_:Sem Value)).run P w=_
  rw[Ak,run_sizeOf j,Ai]
  have h1:¬m*s>2 ^ 24:=by have:=Cn hm;omega
  have h2:¬m*s=0:=fun e=>by rw[e]at h0;cases h0
  rw[Aa h1]
  simp only[h2,if_false,Sem.run_bind,Ip hz,Sem.run_pure,Result.andThen_ok]
  rw[k]
  simp only[q.arr]
  rfl
 ·obtain⟨b,rfl,rfl⟩:=t
  exact hk _ w' _ ⟨b,rfl,rfl⟩ (by rw[(hf _).eq];exact c)
theorem Xba{T e m s:Nat}{cs:V_}{ps:List (Nat×Operand)}{vs:List (Nat×Value)}(zs:V_)(c:P.underlying T=some (.array m e))(b:(P.info? e).map (·.size)=some s:=by rfl)(ho:o.op= .build T ps.toArray:=by exact rfl)(hp:evs l ps=some vs:=by exact rfl)(hf:Hd (apl m s) zs vs cs:=by repeat (first|exact .nil|(apply Hd.cons;(first|exact .agg|exact .one rfl);exact rfl;focus (repeat constructor))))
  (hz:(P.info? T).bind (·.zero)=some (.agg zs.toArray):=by kernel_rfl):Ct P n w0 b_ hs l o (.agg cs.toArray):=Ct.bldA c ho (Kk hp) hf hz b
theorem Lbs{T e m s:Nat}{z:Value}{cs:V_}{ps:List (Nat×Operand)}{vs:List (Nat×Value)}{f:CW->Mem}(zs:V_)(j:P.underlying T=some (.slice e))(c:(P.info? e).map (·.size)=some s:=by rfl)(ho:o.op= .buildSlice T m ps.toArray:=by exact rfl)(hp:evs l ps=some vs:=by exact rfl)(g:Hd (apl m s) zs vs cs:=by repeat (first|exact .nil|(apply Hd.cons;(first|exact .agg|exact .one rfl);exact rfl;focus (repeat constructor))))
  (hz:(P.info? e).bind (·.zero)=some z:=by rfl) (hm:Nat.ble (m*s) 16777216=true:=by rfl) (h0:Nat.beq (m*s) 0=false:=by rfl) (d:(Array.range (m*s)).map (fun i=>z.cells[i%z.cells.size]!)=zs.toArray:=by kernel_rfl) (hf:∀r,EY h r (f r):=by intro r;repeat constructor):
  LO P n w0 b_ h l o fun u h'=>∃b,u= .slice (some ⟨b,0,none⟩) m m/\h'=f (blk b (.cells cs.toArray e (0,0))):=LO.bsN j ho (Kk hp) g hz c hm h0 d hf
end
def sl(b:N_)(lo hi:Nat):N_:=(b.take hi).drop lo
theorem HN{b:N_}{lo hi:Nat}(h:hi<=b.length):(sl b lo hi).length=hi-lo:=by
 unfold sl;rw[AD,AF];omega
theorem sl_at{b:N_}{lo hi k y:Nat}(h:(sl b lo hi)[k]? =some y):b[lo+k]? =some y:=by
 unfold sl at h
 rw[BW,BH]at h
 split at h
 ·exact h
 ·cases h
theorem QF{b:N_}(h:∀x∈b,x<256)(lo hi:Nat):∀x∈sl b lo hi,x<256:=fun x hx=>h x (Bx (Bw hx))
theorem sl_u8(b:N_)(lo hi:Nat):(sl b lo hi).map u8=(((b.map u8).take hi).drop lo):=by unfold sl;rw[List.map_drop,List.map_take]
theorem Reads.sl{r:CW}{a:A_}{b:N_}{cap lo hi:Nat}(h:Reads r a (b.map u8))(hq:hi<=cap):Reads r (EH a cap lo 1) ((Cru.sl b lo hi).map u8):=by rw[sl_u8];exact h.sub hq
theorem WD{x:Addr}{cap lo:Nat}(h:lo<cap):EH (some x) cap lo 1=some (x.add lo):=by unfold EH;rw[Aa (by omega),Bm];rfl
section
variable {P:Program}{n:Nat}{w0:World}{b_:N_}{l:Dh}{h hs:Mem}{o:Oper}{v:Value}
theorem YK{v v':Value}(s:Ct P n w0 b_ hs l o v)(e:v=v'):Ct P n w0 b_ hs l o v':=e▸s
theorem PG{e:Func}{R:Value->Mem->Prop}{h0:Mem}{t u s' T:Nat}{d:TypeDesc}{s b i:Nat}{cs:V_}{v2 v3:Value}{T':TypeId}{f:Nat×Nat}(k:P.underlying T=some d)(hs:h0.Sublist h)(g:R (.tuple #[.agg cs.toArray,v2,v3]) h0)(hr:e.results= #[.cell t T,.tmp u,.tmp s']:=by rfl)(ht:fnd l t=some (.pointer (some ⟨b,0,none⟩)):=by rfl)(m:fnd l u=some v2:=by rfl)(c:fnd l s'=some v3:=by rfl)
  (hi:FG h i (blk b (.cells cs.toArray T' f)):=by first|exact at0|exact at1|exact at2|exact at3|exact at4|exact at5|exact at6|exact at7|exact at8|exact at9|exact at10|exact at11|exact at12) (hd:ET d=true:=by rfl) (hsz:(P.info? T).map (·.size)=some s:=by rfl) (hc:cs.length=s:=by rfl):Hb P n w0 b_ e R .ret l h:=by
 refine⟨_,fun a w hf ho=>?_,fun _ hw=>⟨h0,g,hw.drop hs⟩⟩
 have hl:(loadVar T ⟨b,0,none⟩).run P w= .ok (.agg cs.toArray) w:=Fl ⟨k,hsz⟩ hd hc fun j v hj=>by
  rw[add_lit,AE,(ho.sta fun _ h=>h).own hi.at]
  simpa using hj
 simp[results,hr,Array.getD_eq_getD_getElem?,hf.has t _ ht,hf.has u _ m,hf.has s' _ c,asAddr,hl]
end
theorem Rv{P:Program}{n:Nat}{w0:World}{b_:N_}{l:Dh}{hs:Mem}{o:Oper}{x y:Operand}{t t':TypeId}{k:IntKind}{i j:Int}(ho:o.op=.binOp .eql t x y t':=by rfl)(hx:ev l x=some (.int k i):=by rfl)(hy:ev l y=some (.int k j):=by rfl)(h:decide (i=j)=true:=by rfl):Ct P n w0 b_ hs l o (.bool true):=YK (Ct.eql ho hx hy) (congrArg Value.bool h)
theorem Gf{P:Program}{n:Nat}{w0:World}{b_:N_}{l:Dh}{hs:Mem}{o:Oper}{x y:Operand}{t t':TypeId}{k:IntKind}{i j:Int}(ho:o.op=.binOp .eql t x y t':=by rfl)(hx:ev l x=some (.int k i):=by rfl)(hy:ev l y=some (.int k j):=by rfl)(h:decide (i=j)=false:=by rfl):Ct P n w0 b_ hs l o (.bool false):=YK (Ct.eql ho hx hy) (congrArg Value.bool h)
theorem FN(a:A_)(cap s:Nat):EH a cap 0 s=a:=by
 unfold EH
 split
 ·rfl
 ·cases a
  ·rfl
  ·rw[Nat.zero_mul];rfl
theorem IW{P:Program}{n:Nat}{w0:World}{b_:N_}{l:Dh}{h:Mem}{c:Code}{K:En}{r:CW}{xs:V_}{i:Nat}(hi:FG h i r)(hr:Reads r none xs)(hk:xs=[]->TC P n w0 b_ c K l h):TC P n w0 b_ c K l h:=
 fun act w hf ho=>by
  refine hk ?_ act w hf ho
  cases xs with
  |nil=>rfl
  |cons u us=>
   obtain⟨x,hx,_⟩:=hr _ (ho.mine _ (Aj hi.at)) 0 u rfl
   cases hx
theorem Eb(a:A_)(m cap:Nat)(xs:V_)(r:CW)(hr:Reads r a xs)(hl:xs.length=m*1)(h1:∀u∈xs,EL u=true)(hm:m<17592186044416):
  Sp P0 77 [.slice a m cap] [r] fun v h=>∃c d,v= .slice c m d/\h=[r,sq c m d 5 1 xs]:=by
 refine Sq Tryz.func77 fun w0 b_=>?_
 refine OA 8 ?_
 refine O1 (ZO rfl rfl rfl u53) ?_
 refine On (CE rfl (fun b=>?_) (fun b=>?_))
 ·obtain rfl:a=none:=by cases a with
   |none=>rfl
   |some x=>cases b
  refine IW at0 hr fun hx=>?_
  subst hx
  obtain rfl:m=0:=by simp only[List.length_nil]at hl;omega
  refine OA 4 ?_
  refine Ti (Cv.nil 5 1) ?_
  exact Cu (CB rfl rfl (.refl _) ⟨_,_,rfl,rfl⟩)
 refine OA 3 ?_
 refine O6 (ZG (s:=1) rfl u53 rfl) fun e=>?_
 refine O1 DC ?_
 refine O2 (ZH Jf hr (hl:=hl) (h1:=h1)) ?_
 rintro _ _ ⟨c,d,rfl,rfl⟩
 refine OA 2 ?_
 exact Cu (CB rfl rfl (.refl _) ⟨c,d,by rw[AE],by rw[AE];rfl⟩)
theorem Gd(a:A_)(m cap:Nat)(xs:V_)(r:CW)(hr:Reads r a xs)(hl:xs.length=m*1)(h1:∀u∈xs,EL u=true)(hm:m<17592186044416):
  Sp P0 36 [.slice a m cap] [r] fun v h=>∃c d,v= .slice c m d/\h=[r,sq c m d 5 1 xs]:=by
 refine Sq Tryz.func36 fun w0 b_=>?_
 refine OA 8 ?_
 refine O1 (ZO rfl rfl rfl u53) ?_
 refine On (CE rfl (fun b=>?_) (fun b=>?_))
 ·obtain rfl:a=none:=by cases a with
   |none=>rfl
   |some x=>cases b
  refine IW at0 hr fun hx=>?_
  subst hx
  obtain rfl:m=0:=by simp only[List.length_nil]at hl;omega
  refine OA 4 ?_
  refine Ti (Cv.nil 5 1) ?_
  exact Cu (CB rfl rfl (.refl _) ⟨_,_,rfl,rfl⟩)
 refine OA 3 ?_
 refine O6 (ZG (s:=1) rfl u53 rfl) fun e=>?_
 refine O1 DC ?_
 refine O2 (ZH Jf hr (hl:=hl) (h1:=h1)) ?_
 rintro _ _ ⟨c,d,rfl,rfl⟩
 refine OA 2 ?_
 exact Cu (CB rfl rfl (.refl _) ⟨c,d,by rw[AE],by rw[AE];rfl⟩)
theorem CV(a:A_)(m cap:Nat)(xs:V_)(r:CW)(hr:Reads r a xs)(hl:xs.length=m*1)(h1:∀u∈xs,EL u=true)(hm:m<5864062014805):
  Sp P0 96 [.slice a m cap] [r] fun v h=>∃c d,v= .slice c m d/\h=[r,sq c m d 53 1 xs]:=by
 refine Sq Tryz.func96 fun w0 b_=>?_
 refine OA 8 ?_
 refine O1 (ZO rfl rfl rfl u40) ?_
 refine On (CE rfl (fun b=>?_) (fun b=>?_))
 ·obtain rfl:a=none:=by cases a with
   |none=>rfl
   |some x=>cases b
  refine IW at0 hr fun hx=>?_
  subst hx
  obtain rfl:m=0:=by simp only[List.length_nil]at hl;omega
  refine OA 4 ?_
  refine Ti (Cv.nil 53 1) ?_
  exact Cu (CB rfl rfl (.refl _) ⟨_,_,rfl,rfl⟩)
 refine OA 3 ?_
 refine O6 (ZG (s:=1) rfl u40 rfl) fun e=>?_
 refine O1 DC ?_
 refine O2 (ZH KR hr (hl:=hl) (h1:=h1)) ?_
 rintro _ _ ⟨c,d,rfl,rfl⟩
 refine OA 2 ?_
 exact Cu (CB rfl rfl (.refl _) ⟨c,d,by rw[AE],by rw[AE];rfl⟩)
theorem LB(a:A_)(m cap:Nat)(xs:V_)(r:CW)(hr:Reads r a xs)(hl:xs.length=m*1)(h1:∀u∈xs,EL u=true)(hm:m<17592186044416):
  Sp P0 171 [.slice a m cap] [r] fun v h=>∃c d,v= .slice c m d/\h=[r,sq c m d 3 1 xs]:=by
 refine Sq Tryz.func171 fun w0 b_=>?_
 refine OA 8 ?_
 refine O1 (ZO rfl rfl rfl u28) ?_
 refine On (CE rfl (fun b=>?_) (fun b=>?_))
 ·obtain rfl:a=none:=by cases a with
   |none=>rfl
   |some x=>cases b
  refine IW at0 hr fun hx=>?_
  subst hx
  obtain rfl:m=0:=by simp only[List.length_nil]at hl;omega
  refine OA 4 ?_
  refine Ti (Cv.nil 3 1) ?_
  exact Cu (CB rfl rfl (.refl _) ⟨_,_,rfl,rfl⟩)
 refine OA 3 ?_
 refine O6 (ZG (s:=1) rfl u28 rfl) fun e=>?_
 refine O1 DC ?_
 refine O2 (ZH Yq hr (hl:=hl) (h1:=h1)) ?_
 rintro _ _ ⟨c,d,rfl,rfl⟩
 refine OA 2 ?_
 exact Cu (CB rfl rfl (.refl _) ⟨c,d,by rw[AE],by rw[AE];rfl⟩)
theorem GX(a:A_)(m cap:Nat)(xs:V_)(r:CW)(hr:Reads r a xs)(hl:xs.length=m*3)(h1:∀u∈xs,EL u=true)(hm:m<5864062014805):
  Sp P0 49 [.slice a m cap] [r] fun v h=>∃c d,v= .slice c m d/\h=[r,sq c m d 64 3 xs]:=by
 refine Sq Tryz.func49 fun w0 b_=>?_
 refine OA 8 ?_
 refine O1 (ZO rfl rfl rfl u60) ?_
 refine On (CE rfl (fun b=>?_) (fun b=>?_))
 ·obtain rfl:a=none:=by cases a with
   |none=>rfl
   |some x=>cases b
  refine IW at0 hr fun hx=>?_
  subst hx
  obtain rfl:m=0:=by simp only[List.length_nil]at hl;omega
  refine OA 4 ?_
  refine Ti (Cv.nil 64 3) ?_
  exact Cu (CB rfl rfl (.refl _) ⟨_,_,rfl,rfl⟩)
 refine OA 3 ?_
 refine O6 (ZG (s:=3) rfl u60 rfl) fun e=>?_
 refine O1 DC ?_
 refine O2 (ZH Qn hr (hl:=hl) (h1:=h1)) ?_
 rintro _ _ ⟨c,d,rfl,rfl⟩
 refine OA 2 ?_
 exact Cu (CB rfl rfl (.refl _) ⟨c,d,by rw[AE],by rw[AE];rfl⟩)
theorem IB(a:A_)(m cap:Nat)(xs:V_)(r:CW)(hr:Reads r a xs)(hl:xs.length=m*2)(h1:∀u∈xs,EL u=true)(hm:m<8796093022208):
  Sp P0 205 [.slice a m cap] [r] fun v h=>∃c d,v= .slice c m d/\h=[r,sq c m d 309 2 xs]:=by
 refine Sq Tryz.func205 fun w0 b_=>?_
 refine OA 8 ?_
 refine O1 (ZO rfl rfl rfl u307) ?_
 refine On (CE rfl (fun b=>?_) (fun b=>?_))
 ·obtain rfl:a=none:=by cases a with
   |none=>rfl
   |some x=>cases b
  refine IW at0 hr fun hx=>?_
  subst hx
  obtain rfl:m=0:=by simp only[List.length_nil]at hl;omega
  refine OA 4 ?_
  refine Ti (Cv.nil 309 2) ?_
  exact Cu (CB rfl rfl (.refl _) ⟨_,_,rfl,rfl⟩)
 refine OA 3 ?_
 refine O6 (ZG (s:=2) rfl u307 rfl) fun e=>?_
 refine O1 DC ?_
 refine O2 (ZH el307 hr (hl:=hl) (h1:=h1)) ?_
 rintro _ _ ⟨c,d,rfl,rfl⟩
 refine OA 2 ?_
 exact Cu (CB rfl rfl (.refl _) ⟨c,d,by rw[AE],by rw[AE];rfl⟩)
inductive Pk:Mem->Mem->Prop
 |e {h:Mem}:Pk h []
 |t {r:CW} {h h1 h':Mem}:DM h [r] h1->Pk h1 h'->Pk h (r::h')
 |n {T sz:Nat} {h h':Mem}:Pk h h'->Pk h (sq none 0 0 T sz []::h')
 |a {h:Mem}:Pk h h
theorem Pk.t0{r0:CW}{h g:Mem}(q:Pk (h) g):Pk (r0::h) (r0::g):=.t (.t .d) q
theorem Pk.t1{r0 r1:CW}{h g:Mem}(q:Pk (r0::h) g):Pk (r0::r1::h) (r1::g):=.t (.s (.t .d)) q
theorem Pk.t2{r0 r1 r2:CW}{h g:Mem}(q:Pk (r0::r1::h) g):Pk (r0::r1::r2::h) (r2::g):=.t (DM.s2 (.t .d)) q
theorem Pk.t3{r0 r1 r2 b:CW}{h g:Mem}(q:Pk (r0::r1::r2::h) g):Pk (r0::r1::r2::b::h) (b::g):=.t (DM.s3 (.t .d)) q
theorem Pk.t4{r0 r1 r2 b c:CW}{h g:Mem}(q:Pk (r0::r1::r2::b::h) g):Pk (r0::r1::r2::b::c::h) (c::g):=.t (DM.s4 (.t .d)) q
theorem Pk.t5{r0 r1 r2 b c d:CW}{h g:Mem}(q:Pk (r0::r1::r2::b::c::h) g):Pk (r0::r1::r2::b::c::d::h) (d::g):=.t (DM.s5 (.t .d)) q
theorem Pk.t6{r0 r1 r2 b c d e:CW}{h g:Mem}(q:Pk (r0::r1::r2::b::c::d::h) g):Pk (r0::r1::r2::b::c::d::e::h) (e::g):=.t (DM.s6 (.t .d)) q
theorem Pk.t7{r0 r1 r2 b c d e f:CW}{h g:Mem}(q:Pk (r0::r1::r2::b::c::d::e::h) g):Pk (r0::r1::r2::b::c::d::e::f::h) (f::g):=.t (DM.s7 (.t .d)) q
theorem Pk.t8{r0 r1 r2 b c d e f i:CW}{h g:Mem}(q:Pk (r0::r1::r2::b::c::d::e::f::h) g):Pk (r0::r1::r2::b::c::d::e::f::i::h) (i::g):=.t (DM.s8 (.t .d)) q
theorem Pk.t9{r0 r1 r2 b c d e f i j:CW}{h g:Mem}(q:Pk (r0::r1::r2::b::c::d::e::f::i::h) g):Pk (r0::r1::r2::b::c::d::e::f::i::j::h) (j::g):=.t (DM.s9 (.t .d)) q
theorem Pk.t10{r0 r1 r2 c d e f i j k b:CW}{h g:Mem}(q:Pk (r0::r1::r2::c::d::e::f::i::j::k::h) g):Pk (r0::r1::r2::c::d::e::f::i::j::k::b::h) (b::g):=.t (DM.s10 (.t .d)) q
theorem Pk.t12{r0 r1 r2 e f i j k l m b c d:CW}{h g:Mem}(q:Pk (r0::r1::r2::e::f::i::j::k::l::m::b::c::h) g):Pk (r0::r1::r2::e::f::i::j::k::l::m::b::c::d::h) (d::g):=.t (DM.s12 (.t .d)) q
theorem Pk.t14{r0 r1 r2 i j k l m n o b c d e f:CW}{h g:Mem}(q:Pk (r0::r1::r2::i::j::k::l::m::n::o::b::c::d::e::h) g):Pk (r0::r1::r2::i::j::k::l::m::n::o::b::c::d::e::f::h) (f::g):=.t (DM.s14 (.t .d)) q
theorem CX.sqNil{w0 w:World}{b_:N_}{h:Mem}(o:CX w0 b_ h w)(T sz:Nat):CX w0 b_ (sq none 0 0 T sz []::h) w:=
 (o.nil T sz).perm (Av (l₁:=[sq none 0 0 T sz []]) (l₂:=h))
theorem Pk.own{h h':Mem}(p:Pk h h'):∀ {w0 w:World} {b_:N_} {g:Mem},CX w0 b_ (g++h) w->CX w0 b_ (g++h') w:=by
 induction p with
 |e=>intro w0 w b_ g o;exact o.drop (by rw[AH];exact Bk _ _)
 |a=>intro w0 w b_ g o;exact o
 |@t r h h1 h' s _ ih=>
  intro w0 w b_ g o
  have o1:CX w0 b_ ((g++[r])++h1) w:=o.perm (by rw[Ao];exact s.perm.append_left g)
  have:=ih o1
  rwa [Ao]at this
 |@n T sz h h' _ ih=>
  intro w0 w b_ g o
  have o1:CX w0 b_ ((g++[sq none 0 0 T sz []])++h) w:=by
   refine(o.sqNil T sz).perm ?_
   rw[Ao]
   exact Cq
  have:=ih o1
  rwa [Ao]at this
theorem YN{w0:World}{b_:N_}{h h':Mem}(p:Pk h h'):Cv w0 b_ h fun q=>q=h':=fun _ o=>⟨h',rfl,p.own (g:=[]) o⟩
theorem sq_take{a:A_}{m k cap T:Nat}{xs:V_}(hk:k<=m)(H:HF)(h:(sq a m cap T 1 xs).P H):(sq a k cap T 1 (xs.take k)).P H∨(a=none/\k=0):=by
 obtain⟨h1,h2⟩:=h
 rcases h2 with ⟨e,hm,hc⟩|⟨g,cur,e,hg,hmc,b,hsz,ht⟩
 ·exact .inr ⟨e,by omega⟩
 ·refine .inl ⟨by rw[AF];omega,.inr ⟨g,cur,e,hg,by omega,b,hsz,?_⟩⟩
  rw[<-ht,List.take_take]
  congr 1
  omega
theorem Cv.cut{w0:World}{b_:N_}{h h':Mem}{i m k cap T:Nat}{a:A_}{xs:V_}(hk:k<=m)(hi:Ep h i (sq a m cap T 1 xs) (sq a k cap T 1 (xs.take k)) h':=by first|exact s0|exact s1|exact s2|exact s3|exact s4|exact s5|exact s6|exact s7|exact s8|exact s9|exact s10|exact s11|exact s12):Cv w0 b_ h fun q=>q=h':=fun w o=>by
 obtain⟨e1,e2⟩:=hi.at
 refine⟨h',rfl,?_⟩
 rw[e2]
 refine o.set e1 (by cases a<;>rfl) rfl rfl rfl rfl (fun _ _=>rfl) ?_
 have hP:=o.mine _ (Aj e1)
 rcases sq_take hk _ hP with h1|⟨rfl,rfl⟩
 ·exact h1
 ·obtain⟨q1,q2⟩:=hP
  rcases q2 with ⟨_,hm,hc⟩|⟨g,cur,e,_⟩
  ·subst hm hc;exact sq_nil T 1 _
  ·cases e
theorem Tx {P:Program} {n:Nat} {w0:World} {b_:N_} {c:Code} {K:En} {l:Dh} {h:Mem} {α:Type} {F:α->Mem} (hi:Cv w0 b_ h fun h'=>∃s,h'=F s) (hk:∀s,TC P n w0 b_ c K l (F s)):TC P n w0 b_ c K l h:=Cx hi fun _ ⟨s,e⟩=>e▸hk s
theorem Tp {P:Program} {n:Nat} {w0:World} {b_:N_} {c:Code} {K:En} {l:Dh} {h g:Mem} (p:Pk h g) (hk:TC P n w0 b_ c K l g):TC P n w0 b_ c K l h:=Ti (YN p) hk
theorem Oc {P:Program} {n:Nat} {w0:World} {b_:N_} {ops:Array Oper} {l:Dh} {h a b:Mem} {o:Oper} {d:Nat} {Q:Exit->Act->World->Prop} {rest:List Oper} {f:FuncId} {c:List Operand} {ts:Array TypeId} {vs:V_} {R:Value->Mem->Prop} (ho:o.op=.call {callee:=.value (.func f),args:=c.toArray,argTypes:=ts}) (hc:Fc P f) (hv:c.map (ev l)=vs.map some) (s:Ps h a b) (hg:Sp P f vs a R) (hk:∀u h1,R u h1->OL P n w0 b_ ops Q rest ((d,u)::l) (b++h1)) (hw:CK ops l o=some true:=by exact rfl) (hd:o.dst=some d:=by exact rfl) (hlt:Nat.blt d n=true:=by exact rfl):OL P n w0 b_ ops Q (o::rest) l h:=O2 (Zd ho hc hv s hg) (fun u _ ⟨h1,hR,e⟩=>e▸hk u h1 hR) hw hd hlt
theorem DB {P:Program} {n:Nat} {w0:World} {b_:N_} {ops:Array Oper} {l:Dh} {h hs a b:Mem} {o:Oper} {d:Nat} {K:En} {c:Nat->Bool} {f_:Nat} {l_:Array Bool} {f:FuncId} {g:List Operand} {ts:Array TypeId} {vs:V_} {R:Value->Mem->Prop} {j:Nat} (hj:ops[j]? =some o) (ho:o.op=.call {callee:=.value (.func f),args:=g.toArray,argTypes:=ts}) (hc:Fc P f) (hv:g.map (ev l)=vs.map some) (s:Ps h a b) (hg:Sp P f vs a R) (hk:∀u h1,R u h1->(c j=true∨∀r∈hs,r∈b++h1)/\DL P n w0 b_ ops K hs c f_ l_ ((d,u)::l) (b++h1)) (hw:CK ops l o=some true:=by exact rfl) (hd:o.dst=some d:=by exact rfl) (hlt:Nat.blt d n=true:=by exact rfl):DS P n w0 b_ ops K hs c f_ l_ j l h:=D6 hj (Zd ho hc hv s hg) (fun u _ ⟨h1,hR,e⟩=>e▸hk u h1 hR) hw hd hlt
def crcB(x:Int):Int:=KV .u32 (GN x 1 .u32) (Fx .u32 2197175160 (IntKind.u32.wrap (0-Fx .u32 x 1)))
def crcN:Nat->Int->Int
 |0,x=>x
 |n+1,x=>crcB (crcN n x)
def crcC(x:Int)(c:Nat):Int:=crcN 8 (KV .u32 x (IntKind.u32.wrap c))
def Xw(x:Int)(bs:N_):Int:=bs.foldl crcC x
def Hg(b:Int)(bs:N_):Int:=KV .u32 IntKind.u32.max (Xw (KV .u32 IntKind.u32.max b) bs)
theorem Yu{x:Int}{bs:N_}{i c:Nat}(h:bs[i]? =some c):Xw x (bs.take (i+1))=crcC (Xw x (bs.take i)) c:=by
 rw[List.take_add_one,h]
 simp[Xw]
theorem Lp(b:Int)(a:A_)(cap:Nat)(bs:N_)(r:CW)(hr:Reads r a (bs.map u8))(hm:bs.length<=maxLen):
  Sp P0 147 [.int .u32 b,.slice a bs.length cap] [r] fun v h=>v= .int .u32 (Hg b bs)/\h=[r]:=by
 unfold maxLen at hm
 refine Sq Tryz.func147 fun w0 b_=>?_
 refine OA 7 ?_
 refine O1 (Ct.notG rfl rfl) ?_
 refine OA 10 ?_
 refine CD (fun i:Nat=>[(5,.int .u32 (Xw (KV .u32 IntKind.u32.max b) (bs.take i))),(10,.slice a bs.length cap),(11,Cs bs.length),(12,Cs i)]) (fun _=>[r]) (fun i=>i<=bs.length) (fun i=>bs.length-i) 0 ?_ ?_
 ·exact⟨Af _,Sb4,.refl _⟩
 intro i hi
 refine OA 5 ?_
 refine Cy rfl (fun d=>?_) (fun d=>?_)
 ·obtain⟨c,hc⟩:=nthSome d
  have e:(bs.map u8)[i]? =some (u8 c):=by rw[Aq,hc];rfl
  refine CM at0 hr e fun ad g=>?_
  subst g
  refine OA 5 ?_
  refine O1 (GO i u53) ?_
  refine O1 (Ct.reads rfl rfl at0 hr u5 rfl e) ?_
  refine OA 7 ?_
  refine O1 (Qbd rfl rfl rfl) ?_
  refine OA 7 ?_
  refine CD (fun j:Nat=>[(5,.int .u32 (crcN j (KV .u32 (Xw (KV .u32 IntKind.u32.max b) (bs.take i)) (IntKind.u32.wrap c)))),(10,.slice (some ad) bs.length cap),(11,Cs bs.length),(12,Cs i),(20,Cs j)]) (fun _=>[r]) (fun j=>j<=8) (fun j=>8-j) 0 ?_ ?_
  ·exact⟨Af _,Sb5,.refl _⟩
  intro j hj
  refine OA 5 ?_
  refine Cy rfl (fun f=>?_) (fun f=>?_)
  ·refine OA 5 ?_
   refine O1 (Zy rfl rfl rfl (by omega)) ?_
   refine O1 DC ?_
   refine O1 (Za rfl rfl rfl) ?_
   refine O1 (Ct.negG rfl rfl) ?_
   refine O1 (Za rfl rfl rfl) ?_
   refine O1 (Qbd rfl rfl rfl) ?_
   refine OA 6 ?_
   exact⟨j+1,⟨by omega,Sb5,.refl _⟩,by omega⟩
  have h8:j=8:=by omega
  subst h8
  refine OA 5 ?_
  exact⟨i+1,⟨by omega,⟨Dd rfl (Yu hc).symm,rfl,rfl,rfl,trivial⟩,.refl _⟩,by omega⟩
 have hn:bs.length<=i:=by omega
 refine OA 4 ?_
 refine O1 (Ct.notG rfl rfl) ?_
 refine OA 2 ?_
 exact Cu (CB rfl rfl (.refl _) ⟨by rw[AU hn];rfl,rfl⟩)
theorem IT(a:A_)(cap:Nat)(bs:N_)(r:CW)(hr:Reads r a (bs.map u8))(hm:bs.length<=maxLen):
  Sp P0 146 [.slice a bs.length cap] [r] fun v h=>v= .int .u32 (Hg 0 bs)/\h=[r]:=by
 refine Sq Tryz.func146 fun w0 b_=>?_
 refine OA 7 ?_
 refine O8 (YP rfl (en 147) rfl (.t .d) (Lp 0 a cap bs r hr hm)) ?_
 refine OA 2 ?_
 exact Cu (Rr ⟨rfl,rfl⟩)
structure CF where
 b:N_
 n:Nat
def Yi(b:N_)(j y:Nat):N_:=b.set j (b.getD j 0|||y)
def CF.pad(w:CF):N_:=if w.n%8=0 then w.b++[0]else w.b
def CF.put1(w:CF)(bit:Nat):CF:=⟨Yi w.pad (w.n/8) (bit*2 ^ (7-w.n%8)),w.n+1⟩
def CF.put(w:CF)(x:Nat):Nat->CF
 |0=>w
 |k+1=>(w.put1 (x/2 ^ k%2)).put x k
def Eu(bs:N_):Prop:=∀x∈bs,x<256
structure CF.Ok(w:CF):Prop where
 len:w.b.length=(w.n+7)/8
 byt:Eu w.b
theorem QaM{w:CF}(h:w.Ok):w.pad.length=w.n/8+1:=by
 have:=h.len
 unfold CF.pad
 split
 ·rw[Ac,Be];omega
 ·omega
theorem QaN{w:CF}(h:w.Ok):Eu w.pad:=by
 unfold CF.pad
 split
 ·intro x hx
  rcases AC.1 hx with hx|hx
  ·exact h.byt x hx
  ·rw[Ap.1 hx];decide
 ·exact h.byt
theorem Eu.set{bs:N_}(h:Eu bs){j y:Nat}(hy:y<256):Eu (bs.set j y):=fun x hx=>by
 rcases BZ hx with hx|rfl
 ·exact h x hx
 ·exact hy
theorem Eu.getD{bs:N_}(h:Eu bs)(j:Nat):bs.getD j 0<256:=by
 rw[AB]
 cases hj:bs[j]? with
 |none=>decide
 |some x=>exact h x (Aj hj)
theorem bit_lt{b k:Nat}(hb:b<2):b*2 ^ (7-k)<256:=by
 have h1:2 ^ (7-k)<=2 ^ 7:=BN (by decide) (by omega)
 have h2:b*2 ^ (7-k)<=1*2 ^ 7:=Nat.mul_le_mul (by omega) h1
 omega
theorem QaO{w:CF}(h:w.Ok){b:Nat}(hb:b<2):(w.put1 b).Ok where
 len:=by
  have:=QaM h
  simp only[CF.put1,Yi,List.length_set]
  omega
 byt:=(QaN h).set (Nat.or_lt_two_pow (n:=8) ((QaN h).getD _) (bit_lt hb))
theorem Zu{w:CF}(h:w.Ok)(x k:Nat):(w.put x k).Ok:=by
 induction k generalizing w with
 |zero=>exact h
 |succ k ih=>exact ih (QaO h (By _ (by decide)))
theorem ZT{w:CF}(x k:Nat):(w.put x k).n=w.n+k:=by
 induction k generalizing w with
 |zero=>rfl
 |succ k ih=>show((w.put1 _).put x k).n=_;rw[ih];simp only[CF.put1];omega
abbrev TS(p:Nat)(ao:A_)(cap:Nat)(w:CF):Mem:=[blk p (.cells [.slice ao w.b.length cap,Cs w.n].toArray 217 (0,0)),sq ao w.b.length cap 5 1 (w.b.map u8)]
theorem wr_put1(p:Nat)(ao:A_)(cap:Nat)(w:CF)(bit:Nat):[blk p (.cells [.slice ao w.pad.length cap,Cs ((w.n:Int)+1)].toArray 217 (0,0)),sq ao w.pad.length cap 5 1 ((w.pad.map u8).set (w.n/8) (.int .u8 ((w.pad.getD (w.n/8) 0|||bit*2 ^ (7-w.n%8):Nat):Int)))]=TS p ao cap (w.put1 bit):=by
 simp[TS,CF.put1,Yi,List.map_set,u8]
theorem el8:El P0 53 5 (u8 0) 1 1:=⟨u53,by kernel_rfl,rfl,by decide⟩
theorem put_spec(p:Nat)(ao:A_)(cap:Nat)(w:CF)(hw:w.Ok)(hn:w.n<281474976710656)(x:Nat)(hx:x<18446744073709551616)(n:Int):
  Sp P0 122 [Cr p,.int .u64 x,Cs n] (TS p ao cap w) fun v h=>v= .tuple #[]/\∃ao cap,h=TS p ao cap (w.put x (min (max n 0) 64).toNat):=by
 obtain⟨k,hk⟩:∃k,k=(min (max n 0) 64).toNat:=⟨_,rfl⟩
 have d:k<=64:=by omega
 rw[<-hk]
 refine Sq Tryz.func122 fun w0 b_=>?_
 refine OA 3 ?_
 refine O1 (Zq rfl rfl rfl) ?_
 refine O1 (Zo rfl rfl rfl) ?_
 refine OA 4 ?_
 refine CD (fun((i,w',ao,cap):Nat×CF×A_×Nat)=>[(0,Cr p),(1,.int .u64 x),(6,Cs ((i:Int)-1))]) (fun(i,w',ao,cap)=>TS p ao cap w') (fun(i,w',ao,cap)=>w'.Ok/\w'.n+i<=w.n+64/\i<=64/\w'.put x i=w.put x k) (fun(i,_)=>i) (k,w,ao,cap) ?_ ?_
 ·exact⟨⟨hw,by omega,d,rfl⟩,⟨rfl,rfl,Dd rfl (by omega),trivial⟩,.refl _⟩
 rintro⟨i,w',ao,cap⟩ ⟨hw',o,hi,he⟩
 conv=>arg 7;dsimp only
 conv=>arg 8;dsimp only
 have hlen:=hw'.len
 have hpl:=QaM hw'
 refine OA 6 ?_
 refine Cy rfl (fun e=>?_) (fun e=>?_)
 ·obtain⟨i,rfl⟩:∃j,i=j+1:=⟨i-1,by omega⟩
  refine Fb 6 (v:=Cs (i:Int)) rfl (congrArg _ (by omega)) ?_
  have m:x/2 ^ i<18446744073709551616:=BA (Nat.div_le_self _ _) hx
  refine OA 10 ?_
  refine O1 (YT (Za rfl rfl rfl) (and7i (x:=w'.n) (by omega))) ?_
  refine OA 2 ?_
  refine CP (fun((ao,cap):A_×Nat)=>[(0,Cr p),(1,.int .u64 x),(6,Cs (i:Int))]) (fun(ao,cap)=>[blk p (.cells [.slice ao w'.pad.length cap,Cs w'.n].toArray 217 (0,0)),sq ao w'.pad.length cap 5 1 (w'.pad.map u8)]) (fun _=>True) ?_ ?_
  ·refine Cy rfl (fun f=>?_) (fun f=>?_)
   ·have hp:w'.pad=w'.b++[0]:=Ah (by omega)
    refine OA 6 ?_
    refine O6 (QaL rfl rfl u53 rfl rfl rfl) fun tb=>?_
    refine O2 (LO.app el8) ?_
    rintro _ _ ⟨l,c,rfl,rfl⟩
    refine OA 4 ?_
    exact⟨(l,c),trivial,Sb3,by simp only[hp,List.length_append,List.map_append];exact List.Sublist.cons_cons _ (List.Sublist.cons_cons _ (List.nil_sublist _))⟩
   have hp:w'.pad=w'.b:=Aa (by omega)
   refine Tk ?_
   exact⟨(ao,cap),trivial,Sb3,by simp only[hp];exact .refl _⟩
  rintro⟨ao,cap⟩ _
  refine Ts (CO (fun w hw=>hw.sqNN at1 (by omega)) fun⟨g,hg⟩=>?_)
  subst hg
  have b:(w'.pad.map u8)[w'.n/8]? =some (u8 (w'.pad.getD (w'.n/8) 0)):=Ez (by omega)
  refine CS rfl (fun j=>Nat.beq j 25) ?_
  refine DA [0,1,2,3,4,5,6,7] ?_
  refine D1 8 rfl (YT (Zy rfl rfl rfl (by omega)) (DF (x:=w'.n) (i:=3) (by decide))) ?_
  refine D1 9 rfl (Km (w'.n/8) u53) ?_
  refine D1 10 rfl (YV u5 b) ?_
  refine DA [11,12] ?_
  refine D1 13 rfl (YT (Zy rfl rfl rfl (by omega)) (DF (x:=x) (i:=i) (show i<=64 by omega))) ?_
  refine D1 14 rfl (YT (Za rfl rfl rfl) (and1u m)) ?_
  refine D1 15 rfl (Zw rfl rfl u22 u5 (u8_lt (by omega))) ?_
  refine DA [16,17,18,19] ?_
  refine D1 20 rfl (YT (Za rfl rfl rfl) (and7i (x:=w'.n) (by omega))) ?_
  refine D1 21 rfl (YT (y:=((7-w'.n%8:Nat):Int)) (Ct.sub rfl rfl rfl (by omega) (by omega)) (by omega)) ?_
  refine D1 22 rfl (YT (ZZ rfl rfl rfl (by omega)) (WE (by omega) (bit_lt (by omega)))) ?_
  refine D1 23 rfl (YT (Qaw rfl rfl rfl) (orI_u8 ((QaN hw').getD _) (bit_lt (by omega)))) ?_
  refine D1 24 rfl (Km (w'.n/8) u53) ?_
  refine Da 25 ?_
  refine D8 rfl LO.sqS ?_
  refine OA 16 ?_
  exact⟨(i,w'.put1 (x/2 ^ i%2),some ⟨g,0,none⟩,cap),⟨⟨QaO hw' (by omega),by simp only[CF.put1];omega,by omega,he⟩,Sb3,Xv (wr_put1 p _ cap w' _)⟩,Nat.lt_succ_self i⟩
 have h0:i=0:=by omega
 subst h0
 refine Te ?_
 exact Ef rfl (.refl _) ⟨rfl,_,_,congrArg _ he⟩
theorem Ct.indexStr{P:Program}{n:Nat}{w0:World}{b_:N_}{l:Dh}{hs:Mem}{o:Oper}{x y:Operand}{T:TypeId}{s:ByteArray}{k:IntKind}(j:Nat){i:Int}{b:UInt8}(c:P.underlying T=some .string)(hv:s[j]? =some b)(ho:o.op= .index T x y:=by rfl)(hx:ev l x=some (.string s):=by rfl)(hy:ev l y=some (.int k i):=by rfl)(hi:i=(j:Int):=by rfl):
  Ct P n w0 b_ hs l o (.int .u8 b.toNat):=
 Ct.of (s:=Instr.index T (.string s) (.int k i)) (fun e hf=>by unfold execOp;simp only[ho,hf.eval hx,hf.eval hy]) (fun w _=>by
  unfold Instr.index
  subst hi
  simp only[asIntOf]
  show(((underlying T >>= fun d=>_):Sem Value)).run P w=_
  rw[Ak,Cz c,Ai]
  have h0:(0:Int)<=(j:Int):=by omega
  simp only[h0,if_true,Int.toNat_natCast,hv]
  rfl)
def len8(x:Nat):Nat:=if x=0 then 0 else Nat.log2 x+1
def len64(x:Nat):Nat:=
 let (x,n):=if x≥4294967296 then (x/4294967296,32)else (x,0)
 let (x,n):=if x≥65536 then (x/65536,n+16)else (x,n)
 let (x,n):=if x≥256 then (x/256,n+8)else (x,n)
 n+len8 x
def KF(x n:Nat):Nat:=if x≥256 then n+8+len8 (x/256)else n+len8 x
def Lq(x n:Nat):Nat:=if x≥65536 then KF (x/65536) (n+16)else KF x n
theorem MM(x:Nat):len64 x=if x≥4294967296 then Lq (x/4294967296) 32 else Lq x 0:=by
 simp only[len64,Lq,KF]
 repeat' split
 all_goals first|rfl|omega
theorem Wp{x:Nat}(h:x<256):len8 x<=8:=by
 unfold len8
 split
 ·omega
 ·have:=(Nat.log2_lt (by assumption)).2 (show x<2 ^ 8 from h);omega
theorem RN{x:Nat}(h:x<18446744073709551616):len64 x<=64:=by
 have h8:∀y,len8 y<=8∨256<=y:=fun y=>by
  rcases Ca y 256 with h|h
  ·exact .inl (Wp h)
  ·exact .inr h
 rw[MM]
 unfold Lq KF
 have a1:=h8 (x/4294967296/65536/256);have a2:=h8 (x/4294967296/65536);have a3:=h8 (x/4294967296/256);have a4:=h8 (x/4294967296)
 have b1:=h8 (x/65536/256);have b2:=h8 (x/65536);have b3:=h8 (x/256);have b4:=h8 x
 repeat' split
 all_goals omega
def BL(x k:Nat):Prop:=x<2 ^ k/\(0<x->∃j,k=j+1/\2 ^ j<=x)
theorem BL.len8(x:Nat):BL x (Cru.len8 x):=by
 unfold Cru.len8
 split
 ·rename_i h;subst h;exact⟨by decide,fun h=>by omega⟩
 ·rename_i h;exact⟨Nat.lt_log2_self,fun _=>⟨_,rfl,Nat.log2_self_le h⟩⟩
theorem BL.shift{x k s:Nat}(h:BL (x/2 ^ s) k)(hx:2 ^ s<=x):BL x (k+s):=by
 have hp:0<2 ^ s:=Nat.two_pow_pos s
 have h0:0<x/2 ^ s:=Nat.div_pos hx hp
 obtain⟨j,rfl,hj⟩:=h.2 h0
 refine⟨?_,fun _=>⟨j+s,by omega,?_⟩⟩
 ·rw[Nat.pow_add];exact(Nat.div_lt_iff_lt_mul hp).1 h.1
 ·rw[Nat.pow_add];exact(Nat.le_div_iff_mul_le hp).1 hj
theorem BL.len64(x:Nat):BL x (Cru.len64 x):=by
 have hc:∀x n,KF x n=n+KF x 0:=fun x n=>by unfold KF;split<;>omega
 have hb:∀x n,Lq x n=n+Lq x 0:=fun x n=>by
  unfold Lq;split
  ·rw[hc _ (n+16),hc _ (0+16)];omega
  ·rw[hc]
 have c:∀x,BL x (KF x 0):=fun x=>by
  unfold KF;split
  ·rename_i h;rw[show 0+8+Cru.len8 (x/256)=Cru.len8 (x/256)+8 from by omega];exact BL.shift (BL.len8 _) h
  ·rw[AE];exact BL.len8 x
 have b:∀x,BL x (Lq x 0):=fun x=>by
  unfold Lq;split
  ·rename_i h;rw[hc,show 0+16+KF (x/65536) 0=KF (x/65536) 0+16 from by omega];exact BL.shift (c _) h
  ·exact c x
 rw[MM]
 split
 ·rename_i h;rw[hb,Nat.add_comm];exact BL.shift (b _) h
 ·exact b x
theorem XS{x:Nat}(h:0<x):0<Cru.len64 x:=by obtain⟨j,h1,_⟩:=(BL.len64 x).2 h;omega
def CF.num(w:CF)(x:Nat):CF:=if x=18446744073709551615 then ((w.put 0 64).put 1 1).put 0 64 else (w.put 0 (len64 (x+1)-1)).put (x+1) (len64 (x+1))
theorem CF.num_ok{w:CF}(h:w.Ok)(x:Nat):(w.num x).Ok:=by
 unfold CF.num
 split
 ·exact Zu (Zu (Zu h _ _) _ _) _ _
 ·exact Zu (Zu h _ _) _ _
theorem ZA{w:CF}{x:Nat}(hx:x<18446744073709551616):w.n<=(w.num x).n/\(w.num x).n<=w.n+129:=by
 unfold CF.num
 split
 ·simp only[ZT];omega
 ·have:=RN (x:=x+1) (by omega)
  simp only[ZT];omega
def zig(x:Int):Int:=KV .u64 (FZ .u64 (IntKind.u64.wrap x) 1) (IntKind.u64.wrap (GN x 63 .i64))
theorem RM(x y:Int):∃z:Nat,z<18446744073709551616/\KV .u64 x y=z:=by
 refine⟨(BitVec.ofInt 64 x^^^BitVec.ofInt 64 y).toNat,BitVec.isLt _,?_⟩
 show IntKind.u64.wrap _=_
 exact Eh (BitVec.isLt _)
def KZ(x:Int):Nat:=(zig x).toNat
theorem zig_eq(x:Int):zig x=KZ x:=by
 obtain⟨z,_,h⟩:=RM (FZ .u64 (IntKind.u64.wrap x) 1) (IntKind.u64.wrap (GN x 63 .i64))
 rw[KZ,zig,h];rfl
theorem Wn(x:Int):KZ x<18446744073709551616:=by
 obtain⟨z,hz,h⟩:=RM (FZ .u64 (IntKind.u64.wrap x) 1) (IntKind.u64.wrap (GN x 63 .i64))
 rw[KZ,zig,h];exact hz
def CF.int(w:CF)(x:Int):CF:=w.num (KZ x)
theorem Gv(p:Nat)(ao:A_)(cap:Nat)(w:CF)(hw:w.Ok)(hn:w.n<281474976710656)(x:Nat)(hx:x<18446744073709551616)(n:Int)(k:Nat)(b:n=k)(hk:k<=64):
  Sp P0 122 [Cr p,.int .u64 x,Cs n] (TS p ao cap w) fun v h=>v= .tuple #[]/\∃ao cap,h=TS p ao cap (w.put x k):=by
 have:=put_spec p ao cap w hw hn x hx n
 rwa [show(min (max n 0) 64).toNat=k by omega]at this
def tabS:ByteArray:=ByteArray.mk ((List.range 256).map fun u=>(len8 u).toUInt8).toArray
theorem tab8A:∀u:Fin 256,tabS[u.val]? =some (len8 u.val).toUInt8:=by decide+kernel
theorem tab8(u:Nat)(b:u<256):tabS[u]? =some (len8 u).toUInt8:=tab8A ⟨u,b⟩
theorem Vp(x:Nat)(hx:x<18446744073709551616):Sp P0 172 [.int .u64 x] [] fun v h=>v= Cs (len64 x)/\h=[]:=by
 rw[MM]
 refine Sq Tryz.func172 fun w0 b_=>?_
 refine OA 10 ?_
 refine CP (fun((y,m):Nat×Nat)=>[(0,.int .u64 y),(2,Cs m)]) (fun _=>[]) (fun(y,m)=>m<=32/\y<4294967296/\(if x≥4294967296 then Lq (x/4294967296) 32 else Lq x 0)=Lq y m) ?_ ?_
 ·refine Cy rfl (fun c=>?_) (fun c=>?_)
  ·refine OA 3 ?_
   refine O1 (YT (Zy rfl rfl rfl (by omega)) (DF (x:=x) (i:=32) (by decide))) ?_
   refine OA 5 ?_
   exact⟨(x/4294967296,32),⟨by omega,by omega,Ah (by omega)⟩,Sb2,.refl _⟩
  refine Tk ?_
  exact⟨(x,0),⟨by omega,by omega,Aa (by omega)⟩,Sb2,.refl _⟩
 rintro⟨y,m⟩ ⟨hm,hy,he⟩
 rw[he]
 clear he
 refine OA 6 ?_
 refine CP (fun((z,q):Nat×Nat)=>[(0,.int .u64 z),(2,Cs q)]) (fun _=>[]) (fun(z,q)=>q<=48/\z<65536/\Lq y m=KF z q) ?_ ?_
 ·refine Cy rfl (fun d=>?_) (fun d=>?_)
  ·refine OA 3 ?_
   refine O1 (YT (Zy rfl rfl rfl (by omega)) (DF (x:=y) (i:=16) (by decide))) ?_
   refine OA 7 ?_
   exact⟨(y/65536,m+16),⟨by omega,by omega,Ah (by omega)⟩,Sb2,.refl _⟩
  refine Tk ?_
  exact⟨(y,m),⟨by omega,by omega,Aa (by omega)⟩,Sb2,.refl _⟩
 rintro⟨z,q⟩ ⟨hq,hz,he⟩
 rw[he]
 clear he
 refine OA 6 ?_
 refine CP (fun((u,r):Nat×Nat)=>[(0,.int .u64 u),(2,Cs r)]) (fun _=>[]) (fun(u,r)=>r<=56/\u<256/\KF z q=r+len8 u) ?_ ?_
 ·refine Cy rfl (fun b=>?_) (fun b=>?_)
  ·refine OA 3 ?_
   refine O1 (YT (Zy rfl rfl rfl (by omega)) (DF (x:=z) (i:=8) (by decide))) ?_
   refine OA 7 ?_
   exact⟨(z/256,q+8),⟨by omega,by omega,Ah (by omega)⟩,Sb2,.refl _⟩
  refine Tk ?_
  exact⟨(z,q),⟨by omega,by omega,Aa (by omega)⟩,Sb2,.refl _⟩
 rintro⟨u,r⟩ ⟨hr,e,he⟩
 rw[he]
 clear he
 have h8:=Wp e
 have hb:(len8 u).toUInt8.toNat=len8 u:=by show len8 u%256=len8 u;omega
 refine OA 4 ?_
 refine O1 (Zw rfl rfl u22 u5 (u8_lt e)) ?_
 refine O1 (Ct.indexStr (s:=tabS) u u9 (tab8 u e) rfl (by kernel_rfl) rfl rfl) ?_
 refine O1 (YT (y:=((len8 u:Nat):Int)) (Ze rfl rfl u5 u3) (by rw[hb,wrap_i64 (by omega) (by omega)])) ?_
 refine OA 3 ?_
 exact Cu (Rr ⟨rfl,rfl⟩)
theorem JP(p:Nat)(ao:A_)(cap:Nat)(w:CF)(hw:w.Ok)(hn:w.n<140737488355328)(x:Nat)(hx:x<18446744073709551616):
  Sp P0 121 [Cr p,.int .u64 x] (TS p ao cap w) fun v h=>v= .tuple #[]/\∃ao cap,h=TS p ao cap (w.num x):=by
 refine Sq Tryz.func121 fun w0 b_=>?_
 refine OA 6 ?_
 refine Cy rfl (fun f=>?_) (fun f=>?_)
 ·obtain rfl:x=18446744073709551615:=by omega
  have n1:=ZT (w:=w) 0 64
  have n2:=ZT (w:=w.put 0 64) 1 1
  refine OA 3 ?_
  refine O2 (YP rfl (en 122) rfl (.t (.t .d)) (Gv p ao cap w hw (by omega) 0 (by decide) 64 64 rfl (by decide))) ?_
  rintro _ _ ⟨_,⟨rfl,d,b,rfl⟩,rfl⟩
  refine OA 4 ?_
  refine O2 (YP rfl (en 122) rfl (.t (.t .d)) (Gv p d b _ (Zu hw _ _) (by omega) 1 (by decide) 1 1 rfl (by decide))) ?_
  rintro _ _ ⟨_,⟨rfl,e,c,rfl⟩,rfl⟩
  refine OA 4 ?_
  refine O2 (YP rfl (en 122) rfl (.t (.t .d)) (Gv p e c _ (Zu (Zu hw _ _) _ _) (by omega) 0 (by decide) 64 64 rfl (by decide))) ?_
  rintro _ _ ⟨_,⟨rfl,i,g,rfl⟩,rfl⟩
  refine On ?_
  exact Cu (JY rfl (.refl _) ⟨rfl,_,_,rfl⟩)
 have hl:=RN (x:=x+1) (by omega)
 have hp:=XS (x:=x+1) (by omega)
 have n1:=ZT (w:=w) 0 (len64 (x+1)-1)
 refine OA 4 ?_
 refine O1 (YT (y:=((x+1:Nat):Int)) (Qar rfl rfl rfl) (by rw[EN];omega)) ?_
 refine O5 (Zc rfl (en 172) rfl (Vp (x+1) (by omega))) ?_
 refine OA 7 ?_
 refine O2 (YP rfl (en 122) rfl (.t (.t .d)) (Gv p ao cap w hw (by omega) 0 (by decide) ((len64 (x+1):Int)-1) (len64 (x+1)-1) (by omega) (by omega))) ?_
 rintro _ _ ⟨_,⟨rfl,d,b,rfl⟩,rfl⟩
 refine OA 4 ?_
 refine O1 (YT (y:=((x+1:Nat):Int)) (Qar rfl rfl rfl) (by rw[EN];omega)) ?_
 refine O1 DC ?_
 refine O2 (YP rfl (en 122) rfl (.t (.t .d)) (Gv p d b _ (Zu hw _ _) (by omega) (x+1) (by omega) _ (len64 (x+1)) rfl hl)) ?_
 rintro _ _ ⟨_,⟨rfl,e,c,rfl⟩,rfl⟩
 refine On ?_
 exact Ef rfl (.refl _) ⟨rfl,_,_,by rw[CF.num,Aa (by omega)];rfl⟩
theorem int_spec(p:Nat)(ao:A_)(cap:Nat)(w:CF)(hw:w.Ok)(hn:w.n<140737488355328)(x:Int):
  Sp P0 152 [Cr p,Cs x] (TS p ao cap w) fun v h=>v= .tuple #[]/\∃ao cap,h=TS p ao cap (w.int x):=by
 refine Sq Tryz.func152 fun w0 b_=>?_
 refine OA 4 ?_
 refine O1 (ZZ rfl rfl rfl (by omega)) ?_
 refine O1 DC ?_
 refine O1 (Zy rfl rfl rfl (by omega)) ?_
 refine O1 (Ze rfl rfl u3 u22) ?_
 refine O1 (YT (Qbd rfl rfl rfl) (zig_eq x)) ?_
 refine O2 (YP rfl (en 121) rfl (.t (.t .d)) (JP p ao cap w hw hn (KZ x) (Wn x))) ?_
 rintro _ _ ⟨_,⟨rfl,c,b,rfl⟩,rfl⟩
 refine On ?_
 exact Ef rfl (.refl _) ⟨rfl,_,_,rfl⟩
structure CC where
 b:N_
 at_:Nat
 bad:Int
def CC.left(r:CC):Int:=if r.bad=0 then 8*(r.b.length:Int)-r.at_ else 0
def CC.fail(r:CC)(e:Int):CC:=if r.bad=0 then {r with bad:=e}else r
def CC.bit(r:CC):Nat:=r.b.getD (r.at_/8) 0/2 ^ (7-r.at_%8)%2
def CC.next(r:CC):CC:={r with at_:=r.at_+1}
def CC.bits(r:CC)(x:Nat):Nat->Nat×CC
 |0=>(x,r)
 |k+1=>r.next.bits (x*2%18446744073709551616|||r.bit) k
def CC.get(r:CC)(n:Nat):Nat×CC:=if r.left<n then (0,r.fail 10)else r.bits 0 n
structure CC.Ok(r:CC):Prop where
 byt:Eu r.b
 len:r.b.length<17592186044416
 at_:r.at_<=8*r.b.length
abbrev Oa(p:Nat)(ao:A_)(cap:Nat)(r:CC):Mem:=[blk p (.cells [.slice ao r.b.length cap,Cs r.at_,Cs r.bad].toArray 244 (0,0)),sq ao r.b.length cap 5 1 (r.b.map u8)]
theorem CC.bits_ok{k:Nat}:∀ {r:CC} {x:Nat},r.Ok->r.at_+k<=8*r.b.length->(r.bits x k).2.Ok/\(r.bits x k).2.b=r.b/\(r.bits x k).2.bad=r.bad/\(r.bits x k).2.at_=r.at_+k:=by
 induction k with
 |zero=>intro r x h hk;exact⟨h,rfl,rfl,rfl⟩
 |succ k ih=>
  intro r x h hk
  have h1:r.next.Ok:=⟨h.byt,h.len,by simp only[CC.next];omega⟩
  obtain⟨a1,a2,a3,a4⟩:=ih (r:=r.next) (x:=x*2%18446744073709551616|||r.bit) h1 (by simp only[CC.next];omega)
  exact⟨a1,a2,a3,by rw[CC.bits,a4];simp only[CC.next];omega⟩
theorem CC.bit_lt(r:CC):r.bit<2:=By _ (by decide)
theorem CC.bits_lt{k:Nat}:∀ {r:CC} {x:Nat},x<18446744073709551616->(r.bits x k).1<18446744073709551616:=by
 induction k with
 |zero=>intro r x h;exact h
 |succ k ih=>intro r x h;exact ih (SV (By _ (by decide)) (by have:=r.bit_lt;omega))
theorem CC.get_lt(r:CC)(n:Nat):(r.get n).1<18446744073709551616:=by
 unfold CC.get;split
 ·show(0:Nat)<_;decide
 ·exact CC.bits_lt (by decide)
theorem Qay{r:CC}(h:r.Ok)(e:Int):(r.fail e).Ok:=by
 unfold CC.fail;split
 ·exact⟨h.byt,h.len,h.at_⟩
 ·exact h
theorem ZE{r:CC}(h:r.Ok)(n:Nat):(r.get n).2.Ok:=by
 unfold CC.get;split
 ·exact Qay h _
 ·rename_i hl
  by_cases hb:r.bad=0
  ·simp only[CC.left,hb,if_true]at hl
   exact(CC.bits_ok h (by omega)).1
  ·simp only[CC.left,hb,if_false]at hl
   have:n=0:=by omega
   subst this;exact h
theorem LS(p:Nat)(ao:A_)(cap:Nat)(w:CF)(hn:w.b.length<17592186044416):
  Sp P0 123 [Cr p] (TS p ao cap w) fun v h=>∃a c,v= .slice a w.b.length c/\h=TS p ao cap w++[sq a w.b.length c 5 1 (w.b.map u8)]:=by
 refine Sq Tryz.func123 fun w0 b_=>?_
 refine OA 11 ?_
 refine O6 (LO.make1 rfl rfl rfl rfl rfl el8 rfl (by unfold maxLen;omega) (by omega)) fun q=>?_
 refine OA 9 ?_
 refine O5 (LO.copyAll u53 (.sq (ao:=ao) (m:=w.b.length) (cap:=cap) (T:=5) (sz:=1))) ?_
 refine OA 6 ?_
 refine Cx (Cv.asSq (b:=q) 1 w.b.length (by unfold maxLen;omega)) ?_
 rintro _ rfl
 exact Cu (CB rfl rfl (.refl _) ⟨_,_,rfl,rfl⟩)
theorem Hi(a:A_)(cap:Nat)(bs:N_)(r:CW)(hr:Reads r a (bs.map u8))(hm:bs.length<17592186044416):
  Sp P0 81 [.slice a bs.length cap] [r] fun v h=>∃p b c,v= .pointer (some ⟨p,0,none⟩)/\h=r::Oa p b c ⟨bs,0,0⟩:=by
 refine Sq Tryz.func81 fun w0 b_=>?_
 refine OA 7 ?_
 refine O2 (LO.clone el8 hr) ?_
 rintro _ _ ⟨b,c,rfl,rfl⟩
 refine O1 (Xb bt244.h) ?_
 refine O6 YR fun d=>?_
 refine OA 2 ?_
 refine Ti (QaY (.s (.t .d))) ?_
 exact Cu (CB rfl rfl (.refl _) ⟨_,_,_,rfl,rfl⟩)
theorem Ph(p:Nat)(ao:A_)(cap:Nat)(r:CC)(hr:r.Ok):
  Sp P0 144 [Cr p] (Oa p ao cap r) fun v h=>v= Cs r.left/\h=Oa p ao cap r:=by
 have h1:=hr.len
 have h2:=hr.at_
 refine Sq Tryz.func144 fun w0 b_=>?_
 refine OA 13 ?_
 refine CH rfl (fun b=>?_) (fun b=>?_)
 ·refine OA 4 ?_
  exact Cu (CB rfl rfl (.refl _) ⟨by rw[CC.left,Aa b],rfl⟩)
 refine OA 2 ?_
 refine CS rfl (fun j=>false) ?_
 refine DA [0,1,2,3,4,5,6,7,8,9,10,11] ?_
 refine D0 ?_
 exact Cu (CB rfl rfl (.refl _) ⟨by rw[CC.left,Ah b],rfl⟩)
theorem HH(p:Nat)(ao:A_)(cap:Nat)(r:CC)(e:Int):
  Sp P0 143 [Cr p,Cs e] (Oa p ao cap r) fun v h=>v= .int .u64 0/\h=Oa p ao cap (r.fail e):=by
 refine Sq Tryz.func143 fun w0 b_=>?_
 refine OA 13 ?_
 refine Cy rfl (fun b=>?_) (fun b=>?_)
 ·refine OA 11 ?_
  exact Cu (Rr ⟨rfl,by rw[CC.fail,Ah b]⟩)
 refine OA 5 ?_
 exact Cu (Rr ⟨rfl,by rw[CC.fail,Aa b]⟩)
theorem XF(p:Nat)(ao:A_)(cap:Nat)(r:CC):
  Sp P0 94 [Cr p] (Oa p ao cap r) fun v h=>v= Cs r.bad/\h=Oa p ao cap r:=by
 refine Sq Tryz.func94 fun w0 b_=>?_
 refine OA 12 ?_
 exact Cu (Rr ⟨rfl,rfl⟩)
theorem UF(p:Nat)(ao:A_)(cap:Nat)(r:CC)(e:Int):
  Sp P0 181 [Cr p,Cs e] (Oa p ao cap r) fun v h=>v= .tuple #[]/\h=Oa p ao cap (r.fail e):=by
 refine Sq Tryz.func181 fun w0 b_=>?_
 refine OA 3 ?_
 refine O8 (YP rfl (en 143) rfl (.t (.t .d)) (HH p ao cap r e)) ?_
 refine On ?_
 exact Ef rfl (.refl _) ⟨rfl,rfl⟩

import Derived.OrdersHeld
import Derived.Tactics
import Derived.LoopN
import Derived.KernelRfl
import Derived.Below
import Derived.Maps.AppendAt
import Derived.Laws.MakeOwn
import Derived.MapKept
import Derived.Laws.StructEq
import Derived.Laws.Cover3
import Derived.RangeFuncRecord
import Derived.RangeFuncSeq
import Derived.TacticsIn
set_option maxRecDepth 100000
set_option maxHeartbeats 2000000
namespace Go.Cru
open Go
abbrev N_:=List Nat
abbrev V_:=List Value
abbrev A_:=Option Addr
abbrev Aa:=@if_neg
abbrev Ab:=@List.getElem?_eq_some_iff
abbrev Ac:=@List.length_append
abbrev Ae:=@List.getElem?_eq_getElem
abbrev Af:=@Nat.zero_le
abbrev Ah:=@if_pos
abbrev Ai:=@Result.andThen_ok
abbrev Aj:=@List.mem_of_getElem?
abbrev Ak:=@Sem.run_bind
abbrev Al:=@Nat.le_refl
abbrev Am:=@List.length_cons
abbrev An:=@List.nil_sublist
abbrev Ao:=@List.append_assoc
abbrev Ap:=@List.mem_singleton
abbrev Aq:=@List.getElem?_map
abbrev Ar:=@List.mem_cons_self
abbrev Au:=@List.length_nil
abbrev Av:=@List.perm_append_comm
abbrev Aw:=@List.mem_cons_of_mem
abbrev Ax:=@List.Sublist.cons_cons
abbrev Ay:=@List.drop_eq_getElem_cons
abbrev Az:=@List.flatMap_cons
abbrev AA:=@Nat.le_trans
abbrev AB:=@List.getD_eq_getElem?_getD
abbrev AC:=@List.mem_append
abbrev AD:=@List.length_drop
abbrev AE:=@Nat.zero_add
abbrev AF:=@List.length_take
abbrev AG:=@decide_eq_true
abbrev AH:=@List.append_nil
abbrev AI:=@List.flatMap_append
abbrev AJ:=@List.map_cons
abbrev AK:=@Int.le_refl
abbrev AL:=@Nat.le_succ
abbrev AM:=@List.drop_of_length_le
abbrev AN:=@decide_eq_decide
abbrev AO:=@List.map_append
abbrev AP:=@List.length_map
abbrev AQ:=@List.length_set
abbrev AS:=@Bool.false_ne_true
abbrev AT:=@List.map_toArray
abbrev AU:=@List.take_of_length_le
abbrev AV:=@Array.getD_eq_getD_getElem?
abbrev AW:=@List.mem_cons
abbrev AX:=@decide_eq_false
abbrev AY:=@Nat.le_succ_of_le
abbrev AZ:=@List.mem_map
abbrev Ba:=@List.mem_flatMap
abbrev Bb:=@Array.getElem?_eq_some_iff
abbrev Bc:=@List.flatMap_nil
abbrev Bd:=@List.map_nil
abbrev Be:=@List.length_singleton
abbrev Bf:=@Int.toNat_natCast
abbrev Bg:=@Array.length_toList
abbrev Bh:=@List.getElem?_append_left
abbrev Bi:=@Array.getElem?_toList
abbrev Bj:=@List.getElem?_set_self
abbrev Bk:=@List.sublist_append_left
abbrev Bl:=@List.getElem?_append_right
abbrev Bm:=@Nat.mul_one
abbrev Bn:=@List.getElem?_eq_none
abbrev Bo:=@Nat.mul_le_mul_right
abbrev Bp:=@List.mem_append_left
abbrev Bq:=@List.mergeSort_perm
abbrev Br:=@Bool.and_eq_true
abbrev Bu:=@List.nodup_append
abbrev Bv:=@List.eq_nil_of_length_eq_zero
abbrev Bw:=@List.mem_of_mem_drop
abbrev Bx:=@List.mem_of_mem_take
abbrev By:=@Nat.mod_lt
abbrev Bz:=@Array.getElem?_eq_none
abbrev BA:=@Nat.lt_of_le_of_lt
abbrev BB:=@List.drop_eq_nil_of_le
abbrev BC:=@Nat.min_eq_left
abbrev BD:=@List.all_eq_true
abbrev BE:=@Array.getElem?_push_size
abbrev BF:=@Nat.le_add_right
abbrev BG:=@List.mem_append_right
abbrev BH:=@List.getElem?_take
abbrev BI:=@Int.emod_lt_of_pos
abbrev BJ:=@List.take_length
abbrev BK:=@Nat.eq_of_beq_eq_true
abbrev BM:=@List.forall_mem_cons
abbrev BN:=@Nat.pow_le_pow_right
abbrev BO:=@List.getElem?_set_ne
abbrev BP:=@List.foldl_append
abbrev BQ:=@Nat.and_two_pow_sub_one_eq_mod
abbrev BR:=@Int.emod_nonneg
abbrev BS:=@Array.getElem?_eq_getElem
abbrev BU:=@List.mem_iff_getElem?
abbrev BV:=@Sem.run_pure
abbrev BW:=@List.getElem?_drop
abbrev BX:=@List.foldl_cons
abbrev BY:=@Array.getElem?_modify
abbrev BZ:=@List.mem_or_eq_of_mem_set
abbrev Ca:=@Nat.lt_or_ge
abbrev Cb:=@Nat.sub_self
abbrev Cc:=@List.getElem?_take_of_lt
abbrev Cd:=@List.length_range
abbrev Ce:=@List.take_append_of_le_length
abbrev Cf:=@Nat.shiftLeft_add_eq_or_of_lt
abbrev Cg:=@Int.eq_ofNat_of_zero_le
abbrev Ch:=@BitVec.toNat_and
abbrev Ci:=@Nat.succ_le_succ
abbrev Cj:=@List.sublist_cons_self
abbrev Ck:=@Nat.add_mul
abbrev Cm:=@Bool.false_eq_true
abbrev Cn:=@Nat.le_of_ble_eq_true
abbrev Co:=@Bool.false_or
abbrev Cp:=@Nat.mod_eq_of_lt
abbrev Cq:=@List.perm_middle
abbrev Dh:=List (Nat×Value)
def fnd:Dh->Nat->Option Value
 |[],_=>none
 |(s,v)::r,t=>match Nat.beq s t with
  |true=>some v
  |false=>fnd r t
def ev(l:Dh):Operand->Option Value
 |.tmp t=>fnd l t
 |.const v=>some v
 |.global g=>some (.pointer (some ⟨g,0,none⟩))
 |.func f=>some (.func (.func f) #[] #[])
theorem Dd{l:Dh}{t:Nat}{k:IntKind}{a b:Int}(h:fnd l t=some (.int k a))(e:a=b):fnd l t=some (.int k b):=e▸h
theorem CT{l:Dh}{t:Nat}{a b:Value}(h:fnd l t=some a)(e:a=b):fnd l t=some b:=e▸h
def nth{α:Type}:List α->Nat->Option α
 |[],_=>none
 |a::_,0=>some a
 |_::r,i+1=>nth r i
theorem Qm{α:Type}:∀(l:List α) (i:Nat),nth l i=l[i]?
 |[],_=>rfl
 |_::_,0=>rfl
 |_::r,i+1=>by rw[nth,Qm r i];rfl
structure Fr(n:Nat)(l:Dh)(a:Act):Prop where
 size:a.tmps.size=n
 defers:a.defers=[]
 has:∀t v,fnd l t=some v->a.tmps[t]? =some v
def Ml:Dh->Dh->Prop
 |[],_=>True
 |(t,v)::r,l=>fnd l t=some v/\Ml r l
theorem Gc(s:Nat)(v:Value)(r:Dh)(t:Nat):fnd ((s,v)::r) t=if s=t then some v else fnd r t:=by
 rw[fnd]
 cases h:Nat.beq s t
 ·rw[Aa (fun e=>by rw[e,Nat.beq_refl]at h;cases h)]
 ·rw[Ah (BK h)]
theorem Ml.fnd{r l:Dh}(h:Ml r l):∀t v,fnd r t=some v->fnd l t=some v:=by
 induction r with
 |nil=>intro t v h;cases h
 |cons p r ih=>
  obtain⟨s,u⟩:=p
  intro t v ht
  rw[Gc]at ht
  split at ht
  ·rename_i e;subst e;cases ht;exact h.1
  ·exact ih h.2 t v ht
theorem Fr.weak{n:Nat}{l l':Dh}{a:Act}(h:Fr n l a)(hs:Ml l' l):Fr n l' a:=
 ⟨h.size,h.defers,fun t v ht=>h.has t v (hs.fnd t v ht)⟩
theorem Fr.eval{n:Nat}{l:Dh}{a:Act}(h:Fr n l a){x:Operand}{v:Value}(hx:ev l x=some v):a.eval x=v:=by
 cases x with
 |tmp t=>
  have:=h.has t v hx
  simp[Act.eval,Array.getD_eq_getD_getElem?,this]
 |const c=>cases hx;rfl
 |global g=>cases hx;rfl
 |func f=>cases hx;rfl
theorem Fr.put{n:Nat}{l:Dh}{a:Act}(h:Fr n l a){d:Nat}(hd:Nat.blt d n=true)(v:Value):Fr n ((d,v)::l) (a.put (some d) v):=by
 have b:d<a.tmps.size:=by rw[h.size];rw[Nat.blt_eq]at hd;exact hd
 refine⟨by simp[Act.put,h.size],h.defers,fun t u ht=>?_⟩
 rw[Gc]at ht
 split at ht
 ·rename_i e;subst e;cases ht;simp[Act.put,b]
 ·rename_i e
  simp only[Act.put]
  rw[Array.getElem?_setIfInBounds_ne e]
  exact h.has t u ht
theorem Fr.cases_bool{n:Nat}{l:Dh}{a:Act}(h:Fr n l a){t:Nat}{v:Value}(hv:fnd l t=some v):Fr n ((t,v)::l) a:=
 ⟨h.size,h.defers,fun s u hs=>by
  rw[Gc]at hs
  split at hs
  ·rename_i e;subst e;cases hs;exact h.has _ _ hv
  ·exact h.has s u hs⟩
abbrev HF:=Nat->Option Obj
def hf(w:World):HF:=fun k=>w.heap[k]?
structure CW where
 ids:N_
 P:HF->Prop
 loc:∀H H':HF,(∀i∈ids,H' i=H i)->P H->P H'
 ex:∀H:HF,P H->∀i∈ids,H i≠none
abbrev Mem:=List CW
structure CX(w0:World)(b_:N_)(h:Mem)(w:World):Prop where
 os:w.os=w0.os
 tape:w.tape=w0.tape
 output:w.output=w0.output
 size:w0.heap.size<=w.heap.size
 old:∀k,k<w0.heap.size->k∉b_->w.heap[k]? =w0.heap[k]?
 mine:∀r∈h,r.P (hf w)
 nd:(h.flatMap CW.ids).Nodup
 fr:∀r∈h,∀i∈r.ids,w0.heap.size<=i∨i∈b_
structure QI(w0:World)(b_:N_)(hs:Mem)(w:World):Prop where
 size:w0.heap.size<=w.heap.size
 old:∀k,k<w0.heap.size->k∉b_->w.heap[k]? =w0.heap[k]?
 mine:∀r∈hs,r.P (hf w)
theorem CX.lt{w0 w:World}{b_:N_}{h:Mem}(o:CX w0 b_ h w):∀r∈h,∀i∈r.ids,i<w.heap.size:=by
 intro r hr i hi
 have h1:=r.ex _ (o.mine r hr) i hi
 rcases Ca i w.heap.size with h2|h2
 ·exact h2
 ·exact absurd (Bz h2) h1
theorem CX.sta{w0 w:World}{b_:N_}{h hs:Mem}(o:CX w0 b_ h w)(b:∀r∈hs,r∈h):QI w0 b_ hs w:=
 ⟨o.size,o.old,fun r hr=>o.mine r (b r hr)⟩
theorem Tq{h h':Mem}(hs:h'.Sublist h):(h'.flatMap CW.ids).Sublist (h.flatMap CW.ids):=by
 induction hs with
 |slnil=>exact .slnil
 |cons a _ ih=>rw[Az];exact ih.trans (List.sublist_append_right _ _)
 |cons_cons a _ ih=>rw[Az,Az];exact(List.Sublist.refl _).append ih
theorem CX.drop{w0 w:World}{b_:N_}{h h':Mem}(o:CX w0 b_ h w)(hs:h'.Sublist h):CX w0 b_ h' w:=
 ⟨o.os,o.tape,o.output,o.size,o.old,fun r hr=>o.mine r (hs.subset hr),o.nd.sublist (Tq hs),fun r hr=>o.fr r (hs.subset hr)⟩
theorem CX.drawn{w0 w:World}{b_:N_}{h:Mem}(o:CX w0 b_ h w)(n:Nat):CX w0 b_ h {w with drawn:=n}:=
 ⟨o.os,o.tape,o.output,o.size,o.old,o.mine,o.nd,o.fr⟩
theorem CX.new{w0 w:World}{b_:N_}{h:Mem}(o:CX w0 b_ h w)(ob:Obj)(r:CW)(hi:r.ids=[w.heap.size])(hr:r.P (hf {w with heap:=w.heap.push ob})):
  CX w0 b_ (h++[r]) {w with heap:=w.heap.push ob}:=by
 have hlt:=o.lt
 have d:∀k,k<w.heap.size->(w.heap.push ob)[k]? =w.heap[k]? :=fun k hk=>by rw[Array.getElem?_push,Aa (by omega)]
 refine⟨o.os,o.tape,o.output,by simp only[Array.size_push];exact Nat.le_succ_of_le o.size,fun k hk hb=>?_,fun s hs=>?_,?_,fun s hs i c=>?_⟩
 ·show(w.heap.push ob)[k]? =_
  rw[d k (Nat.lt_of_lt_of_le hk o.size)]
  exact o.old k hk hb
 ·rcases AC.1 hs with hs|hs
  ·exact s.loc _ _ (fun i c=>d i (hlt s hs i c)) (o.mine s hs)
  ·rw[Ap.1 hs];exact hr
 ·rw[AI,List.flatMap_singleton,hi]
  refine Bu.2 ⟨o.nd,by simp,fun a ha b e=>?_⟩
  obtain⟨s,hs,has⟩:=Ba.1 ha
  have:=hlt s hs a has
  rw[Ap.1 e]
  omega
 ·rcases AC.1 hs with hs|hs
  ·exact o.fr s hs i c
  ·rw[Ap.1 hs,hi,Ap]at c
   exact .inl (c▸o.size)
theorem Iw(h:Mem)(i:Nat)(r r':CW)(hi:h[i]? =some r)(hid:r'.ids=r.ids):(h.set i r').flatMap CW.ids=h.flatMap CW.ids:=by
 induction h generalizing i with
 |nil=>rfl
 |cons s h ih=>
  cases i with
  |zero=>simp at hi;subst hi;simp[List.flatMap_cons,hid]
  |succ i=>simp only[List.set_cons_succ,List.flatMap_cons];rw[ih i (by simpa using hi)]
theorem HT(h:Mem)(i:Nat)(r' s:CW)(hs:s∈h.set i r'):s=r'∨∃j,j≠i/\h[j]? =some s:=by
 obtain⟨j,hj⟩:=BU.1 hs
 rw[List.getElem?_set]at hj
 split at hj
 ·split at hj
  ·exact .inl (by simpa using hj.symm)
  ·cases hj
 ·rename_i hne;exact .inr ⟨j,fun e=>hne e.symm,hj⟩
theorem Hn(h:Mem)(hn:(h.flatMap CW.ids).Nodup){i j:Nat}{r s:CW}(hi:h[i]? =some r)(hj:h[j]? =some s)(hne:j≠i):∀k∈s.ids,k∉r.ids:=by
 induction h generalizing i j with
 |nil=>cases hi
 |cons q h ih=>
  rw[Az]at hn
  obtain⟨h1,h2,h3⟩:=Bu.1 hn
  cases i with
  |zero=>
   cases j with
   |zero=>exact absurd rfl hne
   |succ j=>
    simp at hi;subst hi
    intro k hk hq
    exact h3 k hq k (Ba.2 ⟨s,Aj (by simpa using hj),hk⟩) rfl
  |succ i=>
   cases j with
   |zero=>
    simp at hj;subst hj
    intro k hk hq
    exact h3 k hk k (Ba.2 ⟨r,Aj (by simpa using hi),hq⟩) rfl
   |succ j=>exact ih h2 (by simpa using hi) (by simpa using hj) (fun e=>hne (by rw[e]))
theorem CX.set{w0 w w':World}{b_:N_}{h:Mem}(o:CX w0 b_ h w){i:Nat}{r r':CW}(hi:h[i]? =some r)(hid:r'.ids=r.ids)
  (g:w'.os=w.os) (d:w'.tape=w.tape) (hout:w'.output=w.output) (c:w'.heap.size=w.heap.size) (hk:∀k,k∉r.ids->w'.heap[k]? =w.heap[k]?) (hr:r'.P (hf w')):CX w0 b_ (h.set i r') w':=by
 have hmem:=Aj hi
 refine⟨g.trans o.os,d.trans o.tape,hout.trans o.output,by rw[c];exact o.size,fun k b hb=>?_,fun s hs=>?_,by rw[Iw h i r r' hi hid];exact o.nd,fun s hs j hj=>?_⟩
 ·rw[hk k (fun e=>(o.fr r hmem k e).elim (fun h1=>by omega) hb)]
  exact o.old k b hb
 ·rcases HT h i r' s hs with rfl|⟨j,hne,hj⟩
  ·exact hr
  ·exact s.loc _ _ (fun k f=>hk k (Hn h o.nd hi hj hne k f)) (o.mine s (Aj hj))
 ·rcases HT h i r' s hs with rfl|⟨k,hne,b⟩
  ·exact o.fr r hmem j (hid▸hj)
  ·exact o.fr s (Aj b) j hj
theorem CX.recast{w0 w:World}{b_:N_}{h:Mem}(o:CX w0 b_ h w){i:Nat}{r r':CW}(hi:h[i]? =some r)(hid:r'.ids=r.ids)(hr:∀H,r.P H->r'.P H):CX w0 b_ (h.set i r') w:=
 o.set hi hid rfl rfl rfl rfl (fun _ _=>rfl) (hr _ (o.mine r (Aj hi)))
section
variable {P:Program}{ops:Array Oper}{Q:Exit->Act->World->Prop}{S:World->Prop}{k_:Nat->Bool}
def Any(P:Program)(ops:Array Oper)(Q:Exit->Act->World->Prop)(S:World->Prop)(k_:Nat->Bool):Nat->Array Bool->Act->World->Prop
 |0,l_,a,w=>Region.ready .any ops l_=[]/\Q .normal a w
 |f_+1,l_,a,w=>
  (Region.ready .any ops l_=[]->Q .normal a w)/\
  ∀i∈Region.ready .any ops l_,wpOp P ops Q i (fun b w'=>(k_ i=true∨(S w->S w'))/\Any P ops Q S k_ f_ (l_.setIfInBounds i true) b w') a w
theorem QaX:∀(f_:Nat) (l_:Array Bool) (a:Act) (w:World),Any P ops Q S k_ f_ l_ a w->wpAny P .any ops Q f_ l_ a w
 |0,_,_,_,h=>h
 |f_+1,_,_,_,h=>⟨h.1,fun i hi=>wpOp_mono (fun b w' k=>QaX f_ _ b w' k.2) (h.2 i hi)⟩
def Ln(ops:Array Oper)(k_:Nat->Bool)(i:Nat):Bool:=
 (List.range ops.size).all fun j=> !k_ j || j == i || match ops[j]? with
  |some o=>o.after.any fun e=>Region.binds .any e && e.on == i
  |none=>true
theorem Any.take{i:Nat}{q:Oper}{v:Value}(hi:ops[i]? =some q)(n:Region.noSelect ops=true)(x:Ln ops k_ i=true)
  (D:∀c a w,Q (.panic c) (a.put q.dst v) w->Q (.panic c) a w):
  ∀(f_:Nat) (l_:Array Bool) (a:Act) (w:World),
   (∀j o,ops[j]? =some o->j≠i->l_.getD j true=false->(∀e∈o.after,Region.binds .any e=true->e.on≠i)->q.apart ops o=true)->
   i∈Region.ready .any ops l_->YieldsIf P ops S q v a->S w->
   Any P ops Q S k_ f_ (l_.setIfInBounds i true) (a.put q.dst v) w->Any P ops Q S k_ (f_+1) l_ a w:=by
 intro f_
 induction f_ with
 |zero=>
  intro l_ a w _ hr hy p H
  refine⟨fun e=>(by rw[e]at hr;cases hr),fun j hj=>?_⟩
  by_cases d:j=i
  ·subst d;exact hy.wpOp hi p ⟨.inr fun _=>p,H⟩
  ·have hmem:=ready_mono hj d
   rw[H.1]at hmem
   cases hmem
 |succ f_ ih=>
  intro l_ a w f hr hy p H
  refine⟨fun e=>(by rw[e]at hr;cases hr),fun j hj=>?_⟩
  by_cases d:j=i
  ·subst d;exact hy.wpOp hi p ⟨.inr fun _=>p,H⟩
  ·have hstep:=H.2 j (ready_mono hj d)
   obtain⟨h,o,g,hall⟩:=mem_ready.1 hj
   have hiun:=(mem_ready.1 hr).1
   have l:∀e∈o.after,Region.binds .any e=true->e.on≠i:=fun e he hb u=>by
    have hl:=hall e he hb
    rw[u]at hl
    cases hg:l_[i]? with
    |none=>simp[hg]at hl
    |some b=>simp[hg]at hl hiun;rw[hl]at hiun;cases hiun
   have A:k_ j=false:=by
    cases hk:k_ j with
    |false=>rfl
    |true=>
     have hjl:j<ops.size:=(Bb.1 g).1
     have:=BD.1 x j (List.mem_range.2 hjl)
     simp only[hk,Bool.not_true,Bool.false_or,Bool.or_eq_true,beq_iff_eq,d,false_or,g]at this
     obtain⟨e,he,hb⟩:=Array.any_eq_true'.1 this
     simp only[Bool.and_eq_true,beq_iff_eq]at hb
     exact absurd hb.2 (l e he hb.1)
   have hnext:=wpOp_putIf g (f j o g d h l) (fun cs b=>Region.noSelect_spec n i q cs b hi) (fun cs b=>Region.noSelect_spec n j o cs b g) D hy hstep
   refine wpOp_mono (fun C w' k=>?_) hnext
   obtain⟨k1,k2,k3⟩:=k
   have r:S w':=k2.resolve_left (by rw[A];simp) p
   refine⟨.inr fun _=>r,ih (l_.setIfInBounds j true) C w' (fun m E hm y t B=>f m E hm y ?_ B) (ready_mono hr (Ne.symm d)) k1 r ?_⟩
   ·by_cases s:j=m
    ·subst s;exact h
    ·rw[getD_set_ne true s]at t;exact t
   ·rw[Array.setIfInBounds_comm _ _ d]
    exact k3
theorem Any.takeP{i:Nat}{p:Oper}{v:Value}(hi:ops[i]? =some p)(l:Region.noSelect ops=true)
  (A:∀c a w,Q (.panic c) (a.put p.dst v) w->Q (.panic c) a w):
  ∀(f_:Nat) (l_:Array Bool) (a:Act) (w:World),
   (∀j o,ops[j]? =some o->j≠i->l_.getD j true=false->(∀e∈o.after,Region.binds .any e=true->e.on≠i)->p.apart ops o=true)->
   i∈Region.ready .any ops l_->YieldsIf P ops (fun _=>True) p v a->
   Any P ops Q S k_ f_ (l_.setIfInBounds i true) (a.put p.dst v) w->Any P ops Q S k_ (f_+1) l_ a w:=by
 intro f_
 induction f_ with
 |zero=>
  intro l_ a w _ hr hy H
  refine⟨fun e=>(by rw[e]at hr;cases hr),fun j hj=>?_⟩
  by_cases d:j=i
  ·subst d;exact hy.wpOp hi trivial ⟨.inr fun h=>h,H⟩
  ·have hmem:=ready_mono hj d
   rw[H.1]at hmem
   cases hmem
 |succ f_ ih=>
  intro l_ a w f hr hy H
  refine⟨fun e=>(by rw[e]at hr;cases hr),fun j hj=>?_⟩
  by_cases d:j=i
  ·subst d;exact hy.wpOp hi trivial ⟨.inr fun h=>h,H⟩
  ·have hstep:=H.2 j (ready_mono hj d)
   obtain⟨g,o,n,hall⟩:=mem_ready.1 hj
   have hiun:=(mem_ready.1 hr).1
   have r:∀e∈o.after,Region.binds .any e=true->e.on≠i:=fun e he hb t=>by
    have hl:=hall e he hb
    rw[t]at hl
    cases hg:l_[i]? with
    |none=>simp[hg]at hl
    |some b=>simp[hg]at hl hiun;rw[hl]at hiun;cases hiun
   have hnext:=wpOp_putIf n (f j o n d g r) (fun cs b=>Region.noSelect_spec l i p cs b hi) (fun cs b=>Region.noSelect_spec l j o cs b n) A hy hstep
   refine wpOp_mono (fun y w' k=>?_) hnext
   obtain⟨k1,k2,k3⟩:=k
   refine⟨k2,ih (l_.setIfInBounds j true) y w' (fun m B hm u s x=>f m B hm u ?_ x) (ready_mono hr (Ne.symm d)) k1 ?_⟩
   ·by_cases q:j=m
    ·subst q;exact g
    ·rw[getD_set_ne true q]at s;exact s
   ·rw[Array.setIfInBounds_comm _ _ d]
    exact k3
end
section
variable (P:Program)(n:Nat)(w0:World)(b_:N_)
def Ct(hs:Mem)(l:Dh)(o:Oper)(v:Value):Prop:=
 ∀a w,Fr n l a->QI w0 b_ hs w->(execOp a.eval o).run P w= .ok (.value v) w
def LO(h:Mem)(l:Dh)(o:Oper)(R:Value->Mem->Prop):Prop:=
 ∀a w,Fr n l a->CX w0 b_ h w->∀(K:Act->World->Prop) (Q:Exit->Act->World->Prop),(∀v w' h',R v h'->CX w0 b_ h' w'->K (a.put o.dst v) w')->o.wp P a w K Q
def OL(ops:Array Oper)(Q:Exit->Act->World->Prop)(rest:List Oper)(l:Dh)(h:Mem):Prop:=
 ∀a w,Fr n l a->CX w0 b_ h w->wpList P ops Q rest a w
abbrev En:=Exit->Dh->Mem->Prop
def Jh(K:En):Exit->Act->World->Prop
 |.panic _,_,_=>False
 |.outgrown,_,_=>False
 |e,a,w=>∃l h,Fr n l a/\CX w0 b_ h w/\K e l h
def DL(ops:Array Oper)(K:En)(hs:Mem)(k_:Nat->Bool)(f_:Nat)(l_:Array Bool)(l:Dh)(h:Mem):Prop:=
 ∀a w,Fr n l a->CX w0 b_ h w->Any P ops (Jh n w0 b_ K) (QI w0 b_ hs) k_ f_ l_ a w
def DS(ops:Array Oper)(K:En)(hs:Mem)(k_:Nat->Bool)(f_:Nat)(l_:Array Bool)(j:Nat)(l:Dh)(h:Mem):Prop:=
 ∀a w,Fr n l a->CX w0 b_ h w->wpOp P ops (Jh n w0 b_ K) j (fun b w'=>(k_ j=true∨(QI w0 b_ hs w->QI w0 b_ hs w'))/\Any P ops (Jh n w0 b_ K) (QI w0 b_ hs) k_ f_ l_ b w') a w
def TC(c:Code)(K:En)(l:Dh)(h:Mem):Prop:=
 ∀a w,Fr n l a->CX w0 b_ h w->c.wp P (Jh n w0 b_ K) a w
end
def CK(ops:Array Oper)(l:Dh)(o:Oper):Option Bool:=
 match o.guard with
 |none=>some true
 |some (j,b)=>
  match (ops[j]?).bind (·.dst)with
  |none=>none
  |some t=>match fnd l t with
   |some (.bool c)=>some (c == b)
   |some (.tuple _)=>some false
   |_=>none
section
variable {P:Program}{n:Nat}{w0:World}{b_:N_}{ops:Array Oper}{l:Dh}{h hs:Mem}{o:Oper}{v:Value}{d:Nat}{K:En}{Q:Exit->Act->World->Prop}{rest:List Oper}
theorem DR{a:Act}{b:Bool}(hf:Fr n l a)(hw:CK ops l o=some b):Region.wanted o (yielded ops a.tmps)=b:=by
 unfold CK at hw
 unfold Region.wanted
 split at hw
 ·rename_i hg;rw[hg];simpa using hw
 ·rename_i j b' hg
  rw[hg]
  simp only[yielded]
  split at hw
  ·cases hw
  ·rename_i t ht
   rw[ht]
   split at hw
   ·rename_i c hc
    rw[Option.bind_some,hf.has _ _ hc]
    have hw':(c == b')=b:=by simpa using hw
    rw[<-hw']
    cases c<;>cases b'<;>rfl
   ·rename_i c hc
    rw[Option.bind_some,hf.has _ _ hc]
    have hw':false=b:=by simpa using hw
    subst hw'
    simp
   ·cases hw
theorem Kx(hq:K .normal l h):OL P n w0 b_ ops (Jh n w0 b_ K) [] l h:=fun _ _ hf ho=>⟨l,h,hf,ho,hq⟩
theorem OL_sil(hw:CK ops l o=some true)(hd:o.dst=some d)(hlt:Nat.blt d n=true)(hs:Ct P n w0 b_ h l o v)
  (hk:OL P n w0 b_ ops Q rest ((d,v)::l) h):OL P n w0 b_ ops Q (o::rest) l h:=by
 intro a w hf ho
 unfold wpList
 rw[Ah (DR hf hw)]
 refine .inl ?_
 unfold Oper.wp
 rw[hs a w hf (ho.sta fun _ h=>h)]
 have:=hk _ _ (hf.put hlt v) ho
 simp only[Oper.upon,hd]
 exact this
theorem OL_skip(hw:CK ops l o=some false)(hd:o.dst=some d)(hlt:Nat.blt d n=true)
  (hk:OL P n w0 b_ ops Q rest ((d,undef)::l) h):OL P n w0 b_ ops Q (o::rest) l h:=by
 intro a w hf ho
 unfold wpList
 rw[Aa (by rw[DR hf hw];simp)]
 rw[hd]
 exact hk _ _ (hf.put hlt _) ho
theorem Mq{R:Value->Mem->Prop}(hw:CK ops l o=some true)(hd:o.dst=some d)(hlt:Nat.blt d n=true)(hs:LO P n w0 b_ h l o R)
  (hk:∀v h',R v h'->OL P n w0 b_ ops Q rest ((d,v)::l) h'):OL P n w0 b_ ops Q (o::rest) l h:=by
 intro a w hf ho
 unfold wpList
 rw[Ah (DR hf hw)]
 refine .inl (hs a w hf ho _ _ fun v w' h' c b=>?_)
 rw[hd]
 exact hk v h' c _ _ (hf.put hlt v) b
theorem QW{R:Value->Mem->Prop}(hw:CK ops l o=some true)(hd:o.dst=none)(hs:LO P n w0 b_ h l o R)
  (hk:∀v h',R v h'->OL P n w0 b_ ops Q rest l h'):OL P n w0 b_ ops Q (o::rest) l h:=by
 intro a w hf ho
 unfold wpList
 rw[Ah (DR hf hw)]
 refine .inl (hs a w hf ho _ _ fun v w' h' c b=>?_)
 rw[hd]
 exact hk v h' c _ _ hf b
theorem Df(t:Nat){b:Bool}(ht:fnd l t=some (.bool b))(h1:b=true->OL P n w0 b_ ops Q rest ((t,.bool true)::l) h)(h0:b=false->OL P n w0 b_ ops Q rest ((t,.bool false)::l) h):
  OL P n w0 b_ ops Q rest l h:=fun a w hf ho=>by
 cases b with
 |true=>exact h1 rfl a w (hf.cases_bool ht) ho
 |false=>exact h0 rfl a w (hf.cases_bool ht) ho
theorem CJ(t:Nat){p:Prop}[Decidable p](ht:fnd l t=some (.bool (decide p)))(h1:p->OL P n w0 b_ ops Q rest ((t,.bool true)::l) h)(h0:¬p->OL P n w0 b_ ops Q rest ((t,.bool false)::l) h):
  OL P n w0 b_ ops Q rest l h:=
 Df t ht (fun e=>h1 (of_decide_eq_true e)) (fun e=>h0 (of_decide_eq_false e))
theorem IQ(t:Nat){p:Prop}[Decidable p](ht:fnd l t=some (.bool (!decide p)))(h1:¬p->OL P n w0 b_ ops Q rest ((t,.bool true)::l) h)(h0:p->OL P n w0 b_ ops Q rest ((t,.bool false)::l) h):
  OL P n w0 b_ ops Q rest l h:=
 Df t ht (fun e=>h1 (by simpa using e)) (fun e=>h0 (by simpa using e))
theorem Mz{p:Prop}(hp:∀w,CX w0 b_ h w->p)(hk:p->OL P n w0 b_ ops Q rest l h):OL P n w0 b_ ops Q rest l h:=
 fun a w hf ho=>hk (hp w ho) a w hf ho
variable {k_:Nat->Bool}
theorem HC(c:List PanicEntry)(a b:Act)(w w':World)(hq:Jh n w0 b_ K (.panic c) a w):Jh n w0 b_ K (.panic c) b w':=hq.elim
def GT(ops:Array Oper)(k_:Nat->Bool)(l_:Array Bool)(i:Nat):Bool:=
 Region.noSelect ops && Region.free .any ops l_ i && (Region.ready .any ops l_).contains i && Ln ops k_ i
theorem HS{l_:Array Bool}{i:Nat}(hm:GT ops k_ l_ i=true):Region.noSelect ops=true/\Region.free .any ops l_ i=true/\i∈Region.ready .any ops l_/\Ln ops k_ i=true:=by
 simp only[GT,Bool.and_eq_true]at hm
 exact⟨hm.1.1.1,hm.1.1.2,by simpa using hm.1.2,hm.2⟩
theorem Wb{f_:Nat}{l_:Array Bool}(i:Nat)(hi:ops[i]? =some o)(hm:GT ops k_ l_ i=true)
  (hw:CK ops l o=some true) (hd:o.dst=some d) (hlt:Nat.blt d n=true) (b:Ct P n w0 b_ hs l o v) (e:∀r∈hs,r∈h)
  (hk:DL P n w0 b_ ops K hs k_ f_ (l_.setIfInBounds i true) ((d,v)::l) h):DL P n w0 b_ ops K hs k_ (f_+1) l_ l h:=by
 intro a w hf ho
 obtain⟨m1,m2,m3,m4⟩:=HS hm
 refine Any.take hi m1 m4 (fun c g w' hq=>HC c _ _ _ _ hq) (v:=v) f_ l_ a w (Region.free_spec hi m2) m3 (.inl ⟨DR hf hw,fun w' f=>b a w' hf f⟩) (ho.sta e) ?_
 rw[hd]
 exact hk _ _ (hf.put hlt v) ho
def Ix(ops:Array Oper)(l_:Array Bool)(i:Nat):Bool:=
 Region.noSelect ops && Region.free .any ops l_ i && (Region.ready .any ops l_).contains i
theorem Ol{l_:Array Bool}{i:Nat}(hm:Ix ops l_ i=true):Region.noSelect ops=true/\Region.free .any ops l_ i=true/\i∈Region.ready .any ops l_:=by
 simp only[Ix,Bool.and_eq_true]at hm
 exact⟨hm.1.1,hm.1.2,by simpa using hm.2⟩
theorem Sn{f_:Nat}{l_:Array Bool}(i:Nat)(hi:ops[i]? =some o)(hm:Ix ops l_ i=true)
  (hw:CK ops l o=some true) (hd:o.dst=some d) (hlt:Nat.blt d n=true) (b:∀w0,Ct P n w0 [] [] l o v)
  (hk:DL P n w0 b_ ops K hs k_ f_ (l_.setIfInBounds i true) ((d,v)::l) h):DL P n w0 b_ ops K hs k_ (f_+1) l_ l h:=by
 intro a w hf ho
 obtain⟨m1,m2,m3⟩:=Ol hm
 refine Any.takeP hi m1 (fun c e w' hq=>HC c _ _ _ _ hq) (v:=v) f_ l_ a w (Region.free_spec hi m2) m3 (.inl ⟨DR hf hw,fun w' _=>b w' a w' hf ⟨Al _,fun _ _ _=>rfl,fun _ h=>by cases h⟩⟩) ?_
 rw[hd]
 exact hk _ _ (hf.put hlt v) ho
theorem SI{f_:Nat}{l_:Array Bool}(i:Nat)(hi:ops[i]? =some o)(hm:GT ops k_ l_ i=true)
  (hw:CK ops l o=some false) (hd:o.dst=some d) (hlt:Nat.blt d n=true) (b:∀r∈hs,r∈h)
  (hk:DL P n w0 b_ ops K hs k_ f_ (l_.setIfInBounds i true) ((d,undef)::l) h):DL P n w0 b_ ops K hs k_ (f_+1) l_ l h:=by
 intro a w hf ho
 obtain⟨m1,m2,m3,m4⟩:=HS hm
 refine Any.take hi m1 m4 (fun c e w' hq=>HC c _ _ _ _ hq) (v:=undef) f_ l_ a w (Region.free_spec hi m2) m3 (.inr ⟨DR hf hw,rfl⟩) (ho.sta b) ?_
 rw[hd]
 exact hk _ _ (hf.put hlt _) ho
theorem Qa{f_:Nat}{l_:Array Bool}(rs:N_)(hr:Region.ready .any ops l_=rs)(hne:rs≠[])
  (hk:∀j∈rs,DS P n w0 b_ ops K hs k_ f_ (l_.setIfInBounds j true) j l h):DL P n w0 b_ ops K hs k_ (f_+1) l_ l h:=
 fun a w hf ho=>⟨fun h0=>absurd (hr▸h0) hne,fun j hj=>hk j (hr▸hj) a w hf ho⟩
theorem DL_one{f_:Nat}{l_:Array Bool}(j:Nat)(hr:Region.ready .any ops l_=[j])
  (hk:DS P n w0 b_ ops K hs k_ f_ (l_.setIfInBounds j true) j l h):DL P n w0 b_ ops K hs k_ (f_+1) l_ l h:=
 Qa [j] hr (by simp) fun i hi=>by rw[Ap.1 hi];exact hk
theorem DL_two{f_:Nat}{l_:Array Bool}(j k:Nat)(hr:Region.ready .any ops l_=[j,k])
  (hj:DS P n w0 b_ ops K hs k_ f_ (l_.setIfInBounds j true) j l h) (hk:DS P n w0 b_ ops K hs k_ f_ (l_.setIfInBounds k true) k l h):DL P n w0 b_ ops K hs k_ (f_+1) l_ l h:=
 Qa [j,k] hr (by simp) fun i hi=>by
  rcases AW.1 hi with rfl|hi
  ·exact hj
  ·rw[Ap.1 hi];exact hk
theorem QJ{f_:Nat}{l_:Array Bool}{j:Nat}{R:Value->Mem->Prop}(hj:ops[j]? =some o)(hw:CK ops l o=some true)(hd:o.dst=some d)(hlt:Nat.blt d n=true)
  (hlo:LO P n w0 b_ h l o R) (hk:∀v h',R v h'->(k_ j=true∨∀r∈hs,r∈h')/\DL P n w0 b_ ops K hs k_ f_ l_ ((d,v)::l) h'):DS P n w0 b_ ops K hs k_ f_ l_ j l h:=by
 intro a w hf ho
 unfold wpOp
 simp only[hj]
 rw[Ah (DR hf hw)]
 refine .inl (hlo a w hf ho _ _ fun v w' h' c b=>?_)
 rw[hd]
 obtain⟨h1,h2⟩:=hk v h' c
 exact⟨h1.imp id fun hh _=>b.sta hh,h2 _ _ (hf.put hlt v) b⟩
theorem Tw{f_:Nat}{l_:Array Bool}{j:Nat}{R:Value->Mem->Prop}(hj:ops[j]? =some o)(hw:CK ops l o=some true)(hd:o.dst=none)
  (hlo:LO P n w0 b_ h l o R) (hk:∀v h',R v h'->(k_ j=true∨∀r∈hs,r∈h')/\DL P n w0 b_ ops K hs k_ f_ l_ l h'):DS P n w0 b_ ops K hs k_ f_ l_ j l h:=by
 intro a w hf ho
 unfold wpOp
 simp only[hj]
 rw[Ah (DR hf hw)]
 refine .inl (hlo a w hf ho _ _ fun v w' h' c b=>?_)
 rw[hd]
 obtain⟨h1,h2⟩:=hk v h' c
 exact⟨h1.imp id fun hh _=>b.sta hh,h2 _ _ hf b⟩
theorem Wo{f_:Nat}{l_:Array Bool}(hr:Region.ready .any ops l_=[])(hk:K .normal l h):DL P n w0 b_ ops K hs k_ f_ l_ l h:=
 fun _ _ hf ho=>match f_ with
  |0=>⟨hr,l,h,hf,ho,hk⟩
  |_+1=>⟨fun _=>⟨l,h,hf,ho,hk⟩,by rw[hr];simp⟩
theorem Fo{f_:Nat}{l_:Array Bool}(t:Nat){b:Bool}(ht:fnd l t=some (.bool b))(h1:b=true->DL P n w0 b_ ops K hs k_ f_ l_ ((t,.bool true)::l) h)(h0:b=false->DL P n w0 b_ ops K hs k_ f_ l_ ((t,.bool false)::l) h):
  DL P n w0 b_ ops K hs k_ f_ l_ l h:=fun a w hf ho=>by
 cases b with
 |true=>exact h1 rfl a w (hf.cases_bool ht) ho
 |false=>exact h0 rfl a w (hf.cases_bool ht) ho
theorem Dy{f_:Nat}{l_:Array Bool}(t:Nat){p:Prop}[Decidable p](ht:fnd l t=some (.bool (decide p)))(h1:p->DL P n w0 b_ ops K hs k_ f_ l_ ((t,.bool true)::l) h)(h0:¬p->DL P n w0 b_ ops K hs k_ f_ l_ ((t,.bool false)::l) h):
  DL P n w0 b_ ops K hs k_ f_ l_ l h:=
 Fo t ht (fun e=>h1 (of_decide_eq_true e)) (fun e=>h0 (of_decide_eq_false e))
theorem IN{f_:Nat}{l_:Array Bool}(t:Nat){p:Prop}[Decidable p](ht:fnd l t=some (.bool (!decide p)))(h1:¬p->DL P n w0 b_ ops K hs k_ f_ l_ ((t,.bool true)::l) h)(h0:p->DL P n w0 b_ ops K hs k_ f_ l_ ((t,.bool false)::l) h):
  DL P n w0 b_ ops K hs k_ f_ l_ l h:=
 Fo t ht (fun e=>h1 (by simpa using e)) (fun e=>h0 (by simpa using e))
theorem JW{f_:Nat}{l_:Array Bool}{p:Prop}(hp:∀w,CX w0 b_ h w->p)(hk:p->DL P n w0 b_ ops K hs k_ f_ l_ l h):DL P n w0 b_ ops K hs k_ f_ l_ l h:=
 fun a w hf ho=>hk (hp w ho) a w hf ho
def En.then(K:En)(N:Dh->Mem->Prop):En
 |.normal,l,h=>N l h
 |e,l,h=>K e l h
def En.inBlock(K:En)(id:Nat):En
 |.exit b,l,h=>match Nat.beq b id with
  |true=>K .normal l h
  |false=>K (.exit b) l h
 |e,l,h=>K e l h
attribute [reducible] En.then En.inBlock
theorem TC_seq{x y:Code}(hx:TC P n w0 b_ x (K.then (TC P n w0 b_ y K)) l h):TC P n w0 b_ (.seq x y) K l h:=by
 intro a w hf ho
 refine wp_seq (wp_mono (hx a w hf ho) fun e b w' hq=>?_)
 cases e with
 |normal=>obtain⟨l',h',h1,h2,h3⟩:=hq;exact h3 b w' h1 h2
 |_=>exact hq
theorem VI(hk:K .normal l h):TC P n w0 b_ .skip K l h:=fun _ _ hf ho=>wp_skip ⟨l,h,hf,ho,hk⟩
theorem VQ{id:Nat}(hk:K (.exit id) l h):TC P n w0 b_ (.exit id) K l h:=fun _ _ hf ho=>wp_exit ⟨l,h,hf,ho,hk⟩
theorem Cu(hk:K .ret l h):TC P n w0 b_ .ret K l h:=fun _ _ hf ho=>wp_ret ⟨l,h,hf,ho,hk⟩
theorem SN{id:Nat}{c:Code}(hk:TC P n w0 b_ c (K.inBlock id) l h):TC P n w0 b_ (.block id c) K l h:=by
 intro a w hf ho
 refine wp_block (wp_mono (hk a w hf ho) fun e d w' hq=>?_)
 cases e with
 |exit b=>
  obtain⟨l',h',h1,h2,h3⟩:=hq
  simp only[Exit.inBlock]
  simp only[En.inBlock]at h3
  split
  ·rename_i e;subst e;rw[Nat.beq_refl]at h3;exact⟨l',h',h1,h2,h3⟩
  ·rename_i e
   cases hb:Nat.beq b id with
   |true=>exact absurd (BK hb) e
   |false=>rw[hb]at h3;exact⟨l',h',h1,h2,h3⟩
 |_=>exact hq
theorem CE{c:Operand}{x y:Code}{b:Bool}(hc:ev l c=some (.bool b))(h1:b=true->TC P n w0 b_ x K l h)(h0:b=false->TC P n w0 b_ y K l h):TC P n w0 b_ (.cond c x y) K l h:=
 fun a w hf ho=>wp_cond_split (hf.eval hc) (fun e=>h1 e a w hf ho) (fun e=>h0 e a w hf ho)
theorem Cy{c:Operand}{x y:Code}{p:Prop}[Decidable p](hc:ev l c=some (.bool (decide p)))(h1:p->TC P n w0 b_ x K l h)(h0:¬p->TC P n w0 b_ y K l h):TC P n w0 b_ (.cond c x y) K l h:=
 CE hc (fun e=>h1 (of_decide_eq_true e)) (fun e=>h0 (of_decide_eq_false e))
theorem CH{c:Operand}{x y:Code}{p:Prop}[Decidable p](hc:ev l c=some (.bool (!decide p)))(h1:¬p->TC P n w0 b_ x K l h)(h0:p->TC P n w0 b_ y K l h):TC P n w0 b_ (.cond c x y) K l h:=
 CE hc (fun e=>h1 (by simpa using e)) (fun e=>h0 (by simpa using e))
theorem TC_yes{c:Operand}{x y:Code}(hc:ev l c=some (.bool true))(hk:TC P n w0 b_ x K l h):TC P n w0 b_ (.cond c x y) K l h:=
 fun a w hf ho=>wp_cond_true (hf.eval hc) (hk a w hf ho)
theorem TC_no{c:Operand}{x y:Code}(hc:ev l c=some (.bool false))(hk:TC P n w0 b_ y K l h):TC P n w0 b_ (.cond c x y) K l h:=
 fun a w hf ho=>wp_cond_false (hf.eval hc) (hk a w hf ho)
theorem IZ{id:Nat}{os:List Oper}(hk:OL P n w0 b_ os.toArray (Jh n w0 b_ K) os l h):TC P n w0 b_ (.region id os.toArray false) K l h:=
 fun a w hf ho=>wp_region_lit (hk a w hf ho)
theorem CS{id:Nat}(hm:P.follows .mixedOrders=true)(k_:Nat->Bool)(hk:DL P n w0 b_ ops K h k_ ops.size (Array.replicate ops.size false) l h):TC P n w0 b_ (.region id ops true) K l h:=
 fun a _ hf ho=>wp_region_any hm (QaX _ _ _ _ (hk a _ hf (ho.drawn _)))
theorem CO{c:Code}{p:Prop}(hp:∀w,CX w0 b_ h w->p)(hk:p->TC P n w0 b_ c K l h):TC P n w0 b_ c K l h:=
 fun a w hf ho=>hk (hp w ho) a w hf ho
theorem Fb{c:Code}(t:Nat){u v:Value}(ht:fnd l t=some u)(b:u=v)(hk:TC P n w0 b_ c K ((t,v)::l) h):TC P n w0 b_ c K l h:=
 fun a w hf ho=>hk a w (hf.cases_bool (b▸ht)) ho
structure At{σ:Type}(L:σ->Dh)(H:σ->Mem)(Pr:σ->Prop)(l:Dh)(h:Mem)(x:σ):Prop where
 pr:Pr x
 sub:Ml (L x) l
 mem:(H x).Sublist h
theorem CP{c:Code}{σ:Type}(L:σ->Dh)(H:σ->Mem)(b:σ->Prop)(hc:TC P n w0 b_ c (K.then fun l h=>∃x,At L H b l h x) l h)(hk:∀x,b x->K .normal (L x) (H x)):TC P n w0 b_ c K l h:=by
 intro a w hf ho
 refine wp_mono (hc a w hf ho) fun e d w' hq=>?_
 cases e with
 |normal=>obtain⟨l',h',h1,h2,x,hx⟩:=hq;exact⟨_,_,h1.weak hx.sub,h2.drop hx.mem,hk x hx.pr⟩
 |_=>exact hq
def TR(P:Program)(n:Nat)(w0:World)(b_:N_)(c:Code)(K:En):Nat->Dh->Mem->Prop
 |0,_,_=>False
 |m+1,l,h=>TC P n w0 b_ c (K.then (TR P n w0 b_ c K m)) l h
theorem Dv{c:Code}{m:Nat}(hk:TC P n w0 b_ c (K.then (TR P n w0 b_ c K m)) l h):TR P n w0 b_ c K (m+1) l h:=hk
theorem Ho{c:Code}(m:Nat)(hk:TR P n w0 b_ c K m l h):TC P n w0 b_ (.loop c) K l h:=by
 intro a w hf ho
 refine wp_loop_rounds m ?_
 have key:∀m l h,TR P n w0 b_ c K m l h->∀a w,Fr n l a->CX w0 b_ h w->Code.rounds P c (Jh n w0 b_ K) m a w:=by
  intro m
  induction m with
  |zero=>intro l h hr;exact hr.elim
  |succ m ih=>
   intro l h hr a w hf ho
   refine wp_mono (hr a w hf ho) fun e b w' hq=>?_
   cases e with
   |normal=>obtain⟨l',h',h1,h2,h3⟩:=hq;exact ih l' h' h3 b w' h1 h2
   |_=>exact hq
 exact key m l h hk a w hf ho
theorem CD{c:Code}{σ:Type}(L:σ->Dh)(H:σ->Mem)(i:σ->Prop)(μ:σ->Nat)(o:σ)(h0:At L H i l h o)
  (round:∀x,i x->TC P n w0 b_ c (K.then fun l h=>∃x',At L H i l h x'/\μ x'<μ x) (L x) (H x)):TC P n w0 b_ (.loop c) K l h:=by
 intro a w hf ho b k cs
 have key:∀m x,μ x=m->∀a w,i x->Fr n (L x) a->CX w0 b_ (H x) w->
   ∃e j w',Jh n w0 b_ K e j w'/\Arrives P (lone (b.at a (.code c:: .inLoop c::k)) cs w) b k cs e j w':=by
  intro m
  induction m using Nat.strongRecOn with
  |_ m ih=>
   intro x hx a w hp hf ho
   obtain⟨e,a1,w1,hq,d⟩:=round x hp a w hf ho b (.inLoop c::k) cs
   cases e with
   |normal=>
    obtain⟨l',h',h1,h2,x',g,hlt⟩:=hq
    obtain⟨e2,a2,p,hq2,f⟩:=ih (μ x') (hx▸hlt) x' rfl a1 w1 g.pr (h1.weak g.sub) (h2.drop g.mem)
    exact⟨e2,a2,p,hq2,.of_steps (Steps.trans d (.one step_inLoop)) f⟩
   |exit id=>exact⟨.exit id,a1,w1,hq,.pass (x:=.inLoop c) rfl (fun _ _=>.inl (by simp)) d⟩
   |goto l=>exact⟨.goto l,a1,w1,hq,.pass (x:=.inLoop c) rfl (fun _ _=>.inl (by simp)) d⟩
   |ret=>exact⟨.ret,a1,w1,hq,.pass (x:=.inLoop c) rfl (fun _ _=>.inl (by simp)) d⟩
   |panic q=>exact hq.elim
   |outgrown=>exact hq.elim
 obtain⟨e,j,w',hq,d⟩:=key _ o rfl a w h0.pr (hf.weak h0.sub) (ho.drop h0.mem)
 exact⟨e,j,w',hq,.of_steps (.one step_loop) d⟩
end
section
variable {P:Program}{n:Nat}{w0:World}{b_:N_}{l:Dh}{h hs:Mem}{o:Oper}{v:Value}
def Og:Nat->V_->Dh
 |_,[]=>[]
 |i,v::vs=>(i,v)::Og (i+1) vs
theorem NU(vs:V_):∀(i t:Nat) (v:Value),fnd (Og i vs) t=some v->i<=t/\vs[t-i]? =some v:=by
 induction vs with
 |nil=>intro i t v h;cases h
 |cons u vs ih=>
  intro i t v h
  rw[Og,Gc]at h
  split at h
  ·rename_i e;subst e;cases h;simp
  ·rename_i e
   obtain⟨h1,h2⟩:=ih (i+1) t v h
   refine⟨by omega,?_⟩
   rw[show t-i=(t-(i+1))+1 from by omega]
   simpa using h2
def ResOK(P:Program)(n:Nat)(w0:World)(b_:N_)(b:Func)(l:Dh)(h:Mem)(v:Value):Prop:=
 ∀a w,Fr n l a->CX w0 b_ h w->(results b a.tmps).run P w= .ok v w
def Hb(P:Program)(n:Nat)(w0:World)(b_:N_)(b:Func)(R:Value->Mem->Prop):En
 |.normal,l,h=>∃v,ResOK P n w0 b_ b l h v/\∀w,CX w0 b_ h w->∃h0,R v h0/\CX w0 b_ h0 w
 |.ret,l,h=>∃v,ResOK P n w0 b_ b l h v/\∀w,CX w0 b_ h w->∃h0,R v h0/\CX w0 b_ h0 w
 |_,_,_=>False
def SO(P:Program)(f:FuncId)(vs:V_)(w0:World)(b_:N_)(R:Value->Mem->Prop):Prop:=
 Calls P f vs.toArray w0 fun e w'=>∃v h',e= .returned v/\R v h'/\CX w0 b_ h' w'
theorem gives_of{f:FuncId}{b:Func}{c:Code}{vs:V_}{R:Value->Mem->Prop}(hf:P.funcs[f]? =some b)(hb:b.body=some c)(hn:b.ntmps=n)(hl:Nat.ble vs.length n=true)
  (ho:CX w0 b_ h w0) (ht:TC P n w0 b_ c (Hb P n w0 b_ b R) (Og 0 vs) h):SO P f vs w0 b_ R:=by
 refine calls_of_wp hf hb (wp_mono (ht _ w0 ⟨?_,rfl,fun t v g=>?_⟩ ho) fun e a w hq=>?_)
 ·have:=Cn hl
  simp[hn];omega
 ·obtain⟨_,h2⟩:=NU vs 0 t v g
  have hlt:=(Ab.1 h2).1
  rw[Nat.sub_zero]at h2 hlt
  show(vs.toArray++_)[t]? =_
  rw[Array.getElem?_append_left (by simpa using hlt)]
  simpa using h2
 ·cases e with
  |normal=>obtain⟨l',h',h1,h2,v,hv,d⟩:=hq;obtain⟨h0,hR0,ho0⟩:=d w h2;exact⟨h1.defers,v,hv a w h1 h2,v,h0,rfl,hR0,ho0⟩
  |ret=>obtain⟨l',h',h1,h2,v,hv,d⟩:=hq;obtain⟨h0,hR0,ho0⟩:=d w h2;exact⟨h1.defers,v,hv a w h1 h2,v,h0,rfl,hR0,ho0⟩
  |exit id=>obtain⟨l',h',h1,h2,h3⟩:=hq;exact h3.elim
  |goto id=>obtain⟨l',h',h1,h2,h3⟩:=hq;exact h3.elim
  |panic c=>exact hq.elim
  |outgrown=>exact hq.elim
theorem wf_u64{a:Int}(h:(Lit.int .u64 a).wf=true):∃n:Nat,a=n/\n<18446744073709551616:=by
 simp[Lit.wf,IntKind.min,IntKind.max,IntKind.signed,IntKind.bits]at h
 obtain⟨n,rfl⟩:=Cg h.1
 exact⟨n,rfl,by omega⟩
theorem wf_i64{a:Int}(h:(Lit.int .i64 a).wf=true): -9223372036854775808<=a/\a<=9223372036854775807:=by
 simpa [Lit.wf,IntKind.min,IntKind.max,IntKind.signed,IntKind.bits] using h
theorem SO.mono{f:FuncId}{vs:V_}{R R':Value->Mem->Prop}(hg:SO P f vs w0 b_ R)(hr:∀v h,R v h->R' v h):SO P f vs w0 b_ R':=
 Calls.mono hg fun _ _ ⟨v,h',he,hR,ho⟩=>⟨v,h',he,hr _ _ hR,ho⟩
theorem JY{b:Func}{R:Value->Mem->Prop}{h0:Mem}(hr:b.results= #[])(hs:h0.Sublist h)(c:R (.tuple #[]) h0):Hb P n w0 b_ b R .ret l h:=
 ⟨_,fun a w _ _=>by simp[results,hr],fun _ hw=>⟨h0,c,hw.drop hs⟩⟩
theorem Ef{b:Func}{R:Value->Mem->Prop}{h0:Mem}(hr:b.results= #[])(hs:h0.Sublist h)(c:R (.tuple #[]) h0):Hb P n w0 b_ b R .normal l h:=
 ⟨_,fun a w _ _=>by simp[results,hr],fun _ hw=>⟨h0,c,hw.drop hs⟩⟩
theorem CB{b:Func}{R:Value->Mem->Prop}{h0:Mem}{t:Nat}(hr:b.results= #[.tmp t])(ht:fnd l t=some v)(hs:h0.Sublist h)(c:R v h0):Hb P n w0 b_ b R .ret l h:=
 ⟨v,fun a w hf _=>by simp[results,hr,Array.getD_eq_getD_getElem?,hf.has t v ht],fun _ hw=>⟨h0,c,hw.drop hs⟩⟩
theorem Dk{b:Func}{R:Value->Mem->Prop}(hr:b.results= #[])(hi:∀w,CX w0 b_ h w->∃h0,R (.tuple #[]) h0/\CX w0 b_ h0 w):Hb P n w0 b_ b R .normal l h:=
 ⟨_,fun a w _ _=>by simp[results,hr],hi⟩
theorem Me{b:Func}{R:Value->Mem->Prop}(hr:b.results= #[])(hi:∀w,CX w0 b_ h w->∃h0,R (.tuple #[]) h0/\CX w0 b_ h0 w):Hb P n w0 b_ b R .ret l h:=
 ⟨_,fun a w _ _=>by simp[results,hr],hi⟩
theorem Dq{b:Func}{R:Value->Mem->Prop}{h0:Mem}{t u:Nat}{v1 v2:Value}(hr:b.results= #[.tmp t,.tmp u])(ht:fnd l t=some v1)(d:fnd l u=some v2)(hs:h0.Sublist h)(c:R (.tuple #[v1,v2]) h0):Hb P n w0 b_ b R .ret l h:=
 ⟨_,fun a w hf _=>by simp[results,hr,Array.getD_eq_getD_getElem?,hf.has t v1 ht,hf.has u v2 d],fun _ hw=>⟨h0,c,hw.drop hs⟩⟩
theorem ret3h{c:Func}{R:Value->Mem->Prop}{h0:Mem}{t u s:Nat}{v1 v2 v3:Value}(hr:c.results= #[.tmp t,.tmp u,.tmp s])(ht:fnd l t=some v1)(e:fnd l u=some v2)(hs:fnd l s=some v3)(b:h0.Sublist h)(d:R (.tuple #[v1,v2,v3]) h0):Hb P n w0 b_ c R .ret l h:=
 ⟨_,fun a w hf _=>by simp[results,hr,Array.getD_eq_getD_getElem?,hf.has t v1 ht,hf.has u v2 e,hf.has s v3 hs],fun _ hw=>⟨h0,d,hw.drop b⟩⟩
theorem Ct.copy{x:Operand}(ho:o.op= .move x∨o.op= .assign x)(hx:ev l x=some v):Ct P n w0 b_ hs l o v:=by
 intro a w hf _
 have:=hf.eval hx
 unfold execOp
 rcases ho with ho|ho<;>(simp only[ho,this];rfl)
theorem Ct.move{x:Operand}(ho:o.op= .move x)(hx:ev l x=some v):Ct P n w0 b_ hs l o v:=Ct.copy (.inl ho) hx
theorem Ct.assign{x:Operand}(ho:o.op= .assign x)(hx:ev l x=some v):Ct P n w0 b_ hs l o v:=Ct.copy (.inr ho) hx
theorem Ct.of{s:Sem Value}(he:∀a:Act,Fr n l a->execOp a.eval o=(do pure (.value (<-s))))(b:∀w,QI w0 b_ hs w->s.run P w= .ok v w):Ct P n w0 b_ hs l o v:=by
 intro a w hf c
 rw[he a hf]
 have:=b w c
 show(s.bind fun v=>Sem.pure (Next.value v)).run P w=_
 rw[show(s.bind fun v=>Sem.pure (Next.value v)).run P w=(s >>= fun v=>pure (Next.value v)).run P w from rfl,Ak,this]
 rfl
theorem QaU{c x y:Operand}(ho:o.op= .pick c x y)(hc:ev l c=some (.bool true))(hx:ev l x=some v):Ct P n w0 b_ hs l o v:=by
 intro a w hf _
 unfold execOp
 simp only[ho,hf.eval hc,hf.eval hx]
 rfl
theorem Ct.pick0{c x y:Operand}(ho:o.op= .pick c x y)(hc:ev l c=some (.bool false))(hy:ev l y=some v):Ct P n w0 b_ hs l o v:=by
 intro a w hf _
 unfold execOp
 simp only[ho,hf.eval hc,hf.eval hy]
 rfl
theorem Zs{op:BinOp}{t t':TypeId}{x y:Operand}{k k':IntKind}{i j:Int}(ho:o.op= .binOp op t x y t')(hx:ev l x=some (.int k i))(hy:ev l y=some (.int k' j))
  (hv:∀w,(binOp op t (.int k i) (.int k' j)).run P w= .ok v w):Ct P n w0 b_ hs l o v:=
 Ct.of (s:=binOp op t (.int k i) (.int k' j)) (fun a hf=>by
  unfold execOp
  simp only[ho,hf.eval hx,hf.eval hy]
  have:eqGuard op t x y (.int k i) (.int k' j)=pure ():=by
   unfold eqGuard
   cases op<;>rfl
  rw[this]
  rfl) (fun w _=>hv w)
theorem Qar{t t':TypeId}{x y:Operand}{k:IntKind}{i j:Int}(ho:o.op= .binOp .add t x y t')(hx:ev l x=some (.int k i))(hy:ev l y=some (.int k j)):Ct P n w0 b_ hs l o (.int k (k.wrap (i+j))):=
 Zs ho hx hy fun w=>by simp[binOp,Op.intArith]
theorem ZM{t t':TypeId}{x y:Operand}{k:IntKind}{i j:Int}(ho:o.op= .binOp .sub t x y t')(hx:ev l x=some (.int k i))(hy:ev l y=some (.int k j)):Ct P n w0 b_ hs l o (.int k (k.wrap (i-j))):=
 Zs ho hx hy fun w=>by simp[binOp,Op.intArith]
theorem Ct.mulw{t t':TypeId}{x y:Operand}{k:IntKind}{i j:Int}(ho:o.op= .binOp .mul t x y t')(hx:ev l x=some (.int k i))(hy:ev l y=some (.int k j)):Ct P n w0 b_ hs l o (.int k (k.wrap (i*j))):=
 Zs ho hx hy fun w=>by simp[binOp,Op.intArith]
theorem wrap_i64{x:Int}(h0: -9223372036854775808<=x)(h1:x<=9223372036854775807):IntKind.i64.wrap x=x:=by
 simp only[IntKind.wrap,IntKind.bits,IntKind.signed,Bool.true_and]
 split
 ·rename_i h;have h:=of_decide_eq_true h;omega
 ·rename_i h;have h:¬(x%(2 ^ 64:Int)≥(2 ^ (64-1):Int)):=fun e=>h (AG e);omega
theorem DJ{x:Int}(h0:0<=x)(h1:x<=18446744073709551615):IntKind.u64.wrap x=x:=by
 simp only[IntKind.wrap,IntKind.bits,IntKind.signed,Bool.false_and,Bool.false_eq_true,if_false]
 omega
theorem EN(x:Int):IntKind.u64.wrap x=x%18446744073709551616:=by
 simp[IntKind.wrap,IntKind.bits,IntKind.signed]
theorem Ct.add{t t':TypeId}{x y:Operand}{i j:Int}(ho:o.op= .binOp .add t x y t')(hx:ev l x=some (.int .i64 i))(hy:ev l y=some (.int .i64 j))(h0: -9223372036854775808<=i+j)(h1:i+j<=9223372036854775807):Ct P n w0 b_ hs l o (.int .i64 (i+j)):=by
 have:=Qar (P:=P) (n:=n) (w0:=w0) (b_:=b_) (hs:=hs) ho hx hy
 rwa [wrap_i64 h0 h1]at this
theorem Ct.sub{t t':TypeId}{x y:Operand}{i j:Int}(ho:o.op= .binOp .sub t x y t')(hx:ev l x=some (.int .i64 i))(hy:ev l y=some (.int .i64 j))(h0: -9223372036854775808<=i-j)(h1:i-j<=9223372036854775807):Ct P n w0 b_ hs l o (.int .i64 (i-j)):=by
 have:=ZM (P:=P) (n:=n) (w0:=w0) (b_:=b_) (hs:=hs) ho hx hy
 rwa [wrap_i64 h0 h1]at this
theorem Ct.mul{t t':TypeId}{x y:Operand}{i j:Int}(ho:o.op= .binOp .mul t x y t')(hx:ev l x=some (.int .i64 i))(hy:ev l y=some (.int .i64 j))(h0: -9223372036854775808<=i*j)(h1:i*j<=9223372036854775807):Ct P n w0 b_ hs l o (.int .i64 (i*j)):=by
 have:=Ct.mulw (P:=P) (n:=n) (w0:=w0) (b_:=b_) (hs:=hs) ho hx hy
 rwa [wrap_i64 h0 h1]at this
theorem Ct.addu{t t':TypeId}{x y:Operand}{i j:Nat}(ho:o.op= .binOp .add t x y t')(hx:ev l x=some (.int .u64 i))(hy:ev l y=some (.int .u64 j)):Ct P n w0 b_ hs l o (.int .u64 (((i+j)%18446744073709551616:Nat):Int)):=by
 have:=Qar (P:=P) (n:=n) (w0:=w0) (b_:=b_) (hs:=hs) ho hx hy
 rwa [EN,show((i:Int)+j)%18446744073709551616=(((i+j)%18446744073709551616:Nat):Int) from by omega]at this
theorem Qa1{t t':TypeId}{x y:Operand}{i j:Nat}(ho:o.op= .binOp .add t x y t')(hx:ev l x=some (.int .u64 i))(hy:ev l y=some (.int .u64 j))(hb:i+j<18446744073709551616):Ct P n w0 b_ hs l o (.int .u64 ((i+j:Nat):Int)):=by
 have:=Ct.addu (P:=P) (n:=n) (w0:=w0) (b_:=b_) (hs:=hs) ho hx hy
 rwa [Cp hb]at this
theorem Qba{t t':TypeId}{x y:Operand}{i j:Nat}(ho:o.op= .binOp .mul t x y t')(hx:ev l x=some (.int .u64 i))(hy:ev l y=some (.int .u64 j)):Ct P n w0 b_ hs l o (.int .u64 (((i*j)%18446744073709551616:Nat):Int)):=by
 have:=Ct.mulw (P:=P) (n:=n) (w0:=w0) (b_:=b_) (hs:=hs) ho hx hy
 rwa [EN,show((i:Int)*j)%18446744073709551616=(((i*j)%18446744073709551616:Nat):Int) from by rw[Int.natCast_emod,Int.natCast_mul];rfl]at this
theorem QaZ{t t':TypeId}{x y:Operand}{i j:Nat}(ho:o.op= .binOp .mul t x y t')(hx:ev l x=some (.int .u64 i))(hy:ev l y=some (.int .u64 j))(hb:i*j<18446744073709551616):Ct P n w0 b_ hs l o (.int .u64 ((i*j:Nat):Int)):=by
 have:=Qba (P:=P) (n:=n) (w0:=w0) (b_:=b_) (hs:=hs) ho hx hy
 rwa [Cp hb]at this
theorem Ct.rem{t t':TypeId}{x y:Operand}{i j:Int}(ho:o.op= .binOp .rem t x y t')(hx:ev l x=some (.int .i64 i))(hy:ev l y=some (.int .i64 j))(hj:0<j)(hi:0<=i):Ct P n w0 b_ hs l o (.int .i64 (i%j)):=
 Zs ho hx hy fun w=>by
  have b:¬j=0:=by omega
  simp only[binOp,Op.intDiv,ne_eq,not_true_eq_false,if_false,b]
  rw[Int.tmod_eq_emod_of_nonneg hi]
  rfl
theorem Ct.quo{t t':TypeId}{x y:Operand}{i j:Int}(ho:o.op= .binOp .quo t x y t')(hx:ev l x=some (.int .i64 i))(hy:ev l y=some (.int .i64 j))(hj:0<j)(hi:0<=i)(hm:i<=9223372036854775807):Ct P n w0 b_ hs l o (.int .i64 (i/j)):=
 Zs ho hx hy fun w=>by
  have b:¬j=0:=by omega
  have h1:i/j<=i:=Int.ediv_le_self _ hi
  have h2:0<=i/j:=Int.ediv_nonneg hi (by omega)
  simp only[binOp,Op.intDiv,ne_eq,not_true_eq_false,if_false,b]
  rw[Int.tdiv_eq_ediv_of_nonneg hi,wrap_i64 (by omega) (by omega)]
  rfl
theorem Ct.lss{t t':TypeId}{x y:Operand}{k:IntKind}{i j:Int}(ho:o.op= .binOp .lss t x y t')(hx:ev l x=some (.int k i))(hy:ev l y=some (.int k j)):Ct P n w0 b_ hs l o (.bool (decide (i<j))):=
 Zs ho hx hy fun w=>by simp[binOp,Op.intCmp]
theorem Ct.leq{t t':TypeId}{x y:Operand}{k:IntKind}{i j:Int}(ho:o.op= .binOp .leq t x y t')(hx:ev l x=some (.int k i))(hy:ev l y=some (.int k j)):Ct P n w0 b_ hs l o (.bool (decide (i<=j))):=
 Zs ho hx hy fun w=>by simp[binOp,Op.intCmp]
theorem Ct.gtr{t t':TypeId}{x y:Operand}{k:IntKind}{i j:Int}(ho:o.op= .binOp .gtr t x y t')(hx:ev l x=some (.int k i))(hy:ev l y=some (.int k j)):Ct P n w0 b_ hs l o (.bool (decide (j<i))):=
 Zs ho hx hy fun w=>by simp[binOp,Op.intCmp]
theorem Ct.geq{t t':TypeId}{x y:Operand}{k:IntKind}{i j:Int}(ho:o.op= .binOp .geq t x y t')(hx:ev l x=some (.int k i))(hy:ev l y=some (.int k j)):Ct P n w0 b_ hs l o (.bool (decide (j<=i))):=
 Zs ho hx hy fun w=>by simp[binOp,Op.intCmp]
theorem Ct.eql{t t':TypeId}{x y:Operand}{k:IntKind}{i j:Int}(ho:o.op= .binOp .eql t x y t')(hx:ev l x=some (.int k i))(hy:ev l y=some (.int k j)):Ct P n w0 b_ hs l o (.bool (decide (i=j))):=
 Zs ho hx hy fun w=>by
  have:(i == j)=decide (i=j):=by by_cases e:i=j<;>simp[e]
  simp[binOp,Op.intCmp,this]
theorem Ct.neq{t t':TypeId}{x y:Operand}{k:IntKind}{i j:Int}(ho:o.op= .binOp .neq t x y t')(hx:ev l x=some (.int k i))(hy:ev l y=some (.int k j)):Ct P n w0 b_ hs l o (.bool (!decide (i=j))):=
 Zs ho hx hy fun w=>by
  have:(i != j)= !decide (i=j):=by by_cases e:i=j<;>simp[e]
  simp[binOp,Op.intCmp,this]
theorem Ct.not{t:TypeId}{x:Operand}{b:Bool}(ho:o.op= .unOp .not t x)(hx:ev l x=some (.bool b)):Ct P n w0 b_ hs l o (.bool (!b)):=
 Ct.of (s:=Op.unary .not (.bool b)) (fun a hf=>by unfold execOp;simp only[ho,hf.eval hx]) (fun w _=>by simp[Op.unary])
end
def Gx(H:HF)(a:Addr):Option Value:=
 match H a.block with
 |some (.cells c _ _)=>if a.spot.isSome then none else c[a.off]?
 |_=>none
theorem HU(w:World)(a:Addr):w.cell? a=Gx (hf w) a:=rfl
theorem cellF_eq{H b:HF}{a:Addr}(h:b a.block=H a.block):Gx b a=Gx H a:=by simp[Gx,h]
def blk(b:Nat)(o:Obj):CW:=
 ⟨[b],fun H=>H b=some o,fun H c hh h=>by rw[hh b (by simp)];exact h,fun H h i hi=>by rw[Ap.1 hi,h];simp⟩
theorem add_add(a:Addr)(m k:Nat):(a.add m).add k=a.add (m+k):=by
 unfold Addr.add
 split<;>split<;>simp_all
 ·omega
theorem add_lit(b m k:Nat):(⟨b,m,none⟩:Addr).add k=⟨b,m+k,none⟩:=by
 unfold Addr.add
 split
 ·rename_i e;subst e;rfl
 ·rfl
structure Ty(P:Program)(T:TypeId)(d:TypeDesc)(s:Nat):Prop where
 und:P.underlying T=some d
 size:(P.info? T).map (·.size)=some s
def ET:TypeDesc->Bool
 |.struct _=>true
 |.array _ _=>true
 |_=>false
theorem Cz{P:Program}{T:TypeId}{d:TypeDesc}(h:P.underlying T=some d)(w:World):(underlying T).run P w= .ok d w:=by
 simp[underlying,program,Sem.run,h,Bind.bind,Sem.bind,Pure.pure]
theorem run_sizeOf{P:Program}{T:TypeId}{s:Nat}(h:(P.info? T).map (·.size)=some s)(w:World):(sizeOf T).run P w= .ok s w:=by
 cases hi:P.info? T with
 |none=>rw[hi]at h;cases h
 |some i=>
  rw[hi]at h
  simp[sizeOf,typeInfo,program,Sem.run,hi,Bind.bind,Sem.bind,Pure.pure]
  simpa using h
theorem Gs{P:Program}{T:TypeId}{d:TypeDesc}(h:P.underlying T=some d)(w:World):(isAgg T).run P w= .ok (ET d) w:=by
 unfold isAgg
 rw[Ak,Cz h]
 cases d<;>rfl
theorem OQ{P:Program}{w:World}{a:Addr}{v:Value}(h:w.cell? a=some v):(load a).run P w= .ok v w:=by
 simp[load,Sem.run,h]
theorem run_loadCellsFrom{P:Program}{w:World}{a:Addr}:∀(n i:Nat) (b:Array Value) (cs:V_),cs.length=n->(∀j v,cs[j]? =some v->w.cell? (a.add (i+j))=some v)->
  (loadCellsFrom a i n b).run P w= .ok (b++cs.toArray) w:=by
 intro n
 induction n with
 |zero=>intro i b cs hl _;rw[Bv hl];simp[loadCellsFrom,Pure.pure]
 |succ n ih=>
  intro i b cs hl hc
  match cs,hl with
  |c::cs,hl=>
   unfold loadCellsFrom
   have h0:w.cell? (a.add i)=some c:=hc 0 c (by simp)
   rw[Ak,OQ h0]
   simp only[Result.andThen_ok]
   rw[ih (i+1) (b.push c) cs (by simpa using hl) (fun j v hj=>by rw[show i+1+j=i+(j+1) from by omega];exact hc (j+1) v (by simpa using hj))]
   simp
theorem Gj{P:Program}{T:TypeId}{d:TypeDesc}{w:World}{a:Addr}{v:Value}(h:P.underlying T=some d)(hd:ET d=false)(hc:w.cell? a=some v):(loadVar T a).run P w= .ok v w:=by
 unfold loadVar
 rw[Ak,Gs h,Ai,hd]
 exact OQ hc
theorem Fl{P:Program}{T:TypeId}{d:TypeDesc}{s:Nat}{w:World}{a:Addr}{cs:V_}(h:Ty P T d s)(hd:ET d=true)(hl:cs.length=s)(hc:∀j v,cs[j]? =some v->w.cell? (a.add j)=some v):
  (loadVar T a).run P w= .ok (.agg cs.toArray) w:=by
 unfold loadVar
 rw[Ak,Gs h.und,Ai,hd,Ah rfl,Ak,run_sizeOf h.size,Ai]
 unfold loadCells
 rw[Ak,run_loadCellsFrom s 0 #[] cs hl (fun j v hj=>by rw[AE];exact hc j v hj),Ai]
 simp[Pure.pure]
section
variable {P:Program}{n:Nat}{w0:World}{b_:N_}{l:Dh}{h hs:Mem}{o:Oper}{v:Value}
theorem QI.cell{w:World}(b:QI w0 b_ hs w){a:Addr}(hc:w0.cell? a=some v)(hb:a.block∉b_):w.cell? a=some v:=by
 rw[HU]at*
 rw[<-hc]
 refine cellF_eq (b.old a.block ?_ hb)
 rcases Ca a.block w0.heap.size with h1|h1
 ·exact h1
 ·rw[Gx,show hf w0 a.block=none from Bz h1]at hc;cases hc
theorem QI.own{w:World}(d:QI w0 b_ hs w){i b off:Nat}{cs:Array Value}{T:TypeId}{c:Nat×Nat}(hi:hs[i]? =some (blk b (.cells cs T c))):w.cell? ⟨b,off,none⟩=cs[off]? :=by
 have:hf w b=some (.cells cs T c):=d.mine _ (Aj hi)
 rw[HU]
 simp[Gx,this]
theorem Ct.load{x:Operand}{T:TypeId}{d:TypeDesc}{a:Addr}(ho:o.op= .load T x)(hx:ev l x=some (.pointer (some a)))(c:P.underlying T=some d)(hd:ET d=false)(hc:∀w,QI w0 b_ hs w->w.cell? a=some v):Ct P n w0 b_ hs l o v:=
 Ct.of (s:=Instr.loadAt T (.pointer (some a))) (fun e hf=>by unfold execOp;simp only[ho,hf.eval hx]) (fun w b=>by
  unfold Instr.loadAt Instr.sureAddr
  exact Gj c hd (hc w b))
theorem QaW{x:Operand}{T:TypeId}{d:TypeDesc}{s:Nat}{a:Addr}{cs:V_}(ho:o.op= .load T x)(hx:ev l x=some (.pointer (some a)))(c:Ty P T d s)(hd:ET d=true)(hl:cs.length=s)
  (hc:∀w,QI w0 b_ hs w->∀j v,cs[j]? =some v->w.cell? (a.add j)=some v):Ct P n w0 b_ hs l o (.agg cs.toArray):=
 Ct.of (s:=Instr.loadAt T (.pointer (some a))) (fun e hf=>by unfold execOp;simp only[ho,hf.eval hx]) (fun w b=>by
  unfold Instr.loadAt Instr.sureAddr
  exact Fl c hd hl (hc w b))
theorem Ct.old{x:Operand}{T:TypeId}{d:TypeDesc}{a:Addr}(ho:o.op= .load T x)(hx:ev l x=some (.pointer (some a)))(c:P.underlying T=some d)(hd:ET d=false)(hc:w0.cell? a=some v)(hb:a.block∉b_):Ct P n w0 b_ hs l o v:=
 Ct.load ho hx c hd fun _ b=>b.cell hc hb
theorem Ct.oldN{x:Operand}{T:TypeId}{d:TypeDesc}{s:Nat}{a:Addr}{cs:V_}(ho:o.op= .load T x)(hx:ev l x=some (.pointer (some a)))(c:Ty P T d s)(hd:ET d=true)(hl:cs.length=s)
  (hc:∀j v,cs[j]? =some v->w0.cell? (a.add j)=some v) (hb:∀j,(a.add j).block∉b_):Ct P n w0 b_ hs l o (.agg cs.toArray):=
 QaW ho hx c hd hl fun _ b j v hj=>b.cell (hc j v hj) (hb j)
theorem Ct.own{x:Operand}{T:TypeId}{d:TypeDesc}{b off:Nat}{cs:Array Value}{T':TypeId}{c:Nat×Nat}(i:Nat)(ho:o.op= .load T x)(hx:ev l x=some (.pointer (some ⟨b,off,none⟩)))(hi:hs[i]? =some (blk b (.cells cs T' c)))
  (f:P.underlying T=some d) (hd:ET d=false) (hc:cs[off]? =some v):Ct P n w0 b_ hs l o v:=
 Ct.load ho hx f hd fun w e=>by rw[e.own hi];exact hc
theorem Ct.ownL{x:Operand}{T:TypeId}{d:TypeDesc}{b off:Nat}{cs:V_}{T':TypeId}{c:Nat×Nat}(i:Nat)(ho:o.op= .load T x)(hx:ev l x=some (.pointer (some ⟨b,off,none⟩)))(hi:hs[i]? =some (blk b (.cells cs.toArray T' c)))
  (e:P.underlying T=some d) (hd:ET d=false) (hc:nth cs off=some v):Ct P n w0 b_ hs l o v:=
 Ct.own i ho hx hi e hd (by rw[Qm]at hc;simpa using hc)
theorem retC{c:Func}{R:Value->Mem->Prop}{h0:Mem}{t T:Nat}{d:TypeDesc}{s b:Nat}{cs:Array Value}{T':TypeId}{e:Nat×Nat}(i:Nat)(hr:c.results= #[.cell t T])(ht:fnd l t=some (.pointer (some ⟨b,0,none⟩)))(hi:h[i]? =some (blk b (.cells cs T' e)))
  (g:Ty P T d s) (hd:ET d=true) (hc:cs.size=s) (hs:h0.Sublist h) (f:R (.agg cs) h0):Hb P n w0 b_ c R .ret l h:=by
 refine⟨.agg cs,fun a w hf ho=>?_,fun _ hw=>⟨h0,f,hw.drop hs⟩⟩
 have hl:(loadVar T ⟨b,0,none⟩).run P w= .ok (.agg cs.toList.toArray) w:=Fl g hd (by simpa using hc) fun j v hj=>by
  rw[add_lit,AE,(ho.sta fun _ h=>h).own hi]
  simpa using hj
 simp[results,hr,Array.getD_eq_getD_getElem?,hf.has t _ ht,asAddr,hl]
theorem Ct.nilCheck{x:Operand}{a:Addr}(ho:o.op= .nilCheck x)(hx:ev l x=some (.pointer (some a))):Ct P n w0 b_ hs l o (.pointer (some a)):=by
 intro b w hf _
 unfold execOp
 simp only[ho,hf.eval hx]
 rfl
theorem Ct.fieldAddr{x:Operand}{T:TypeId}{s off e:Nat}{a:Addr}{c:Array Field}(f:Nat)(ho:o.op= .fieldAddr T x f)(hx:ev l x=some (.pointer (some a)))(h:P.underlying T=some (.struct c))
  (b:(c[f]?).map (fun g=>(g.type,g.offset))=some (e,off)) (d:(P.info? e).map (·.size)=some (s+1)):Ct P n w0 b_ hs l o (.pointer (some (a.add off))):=
 Ct.of (s:=Instr.fieldAt T (.pointer (some a)) f) (fun i hf=>by unfold execOp;simp only[ho,hf.eval hx]) (fun w _=>by
  unfold Instr.fieldAt
  rw[Ak,Cz h,Ai]
  cases hg:c[f]? with
  |none=>rw[hg]at b;cases b
  |some g=>
   rw[hg]at b
   simp only[Option.map_some,Option.some.injEq,Prod.mk.injEq]at b
   obtain⟨h1,h2⟩:=b
   subst h1 h2
   simp only[hg]
   show((fieldPlace a g >>= fun p=>pure (Value.pointer (some p))):Sem Value).run P w=_
   unfold fieldPlace
   rw[Ak,Ak,run_sizeOf d,Ai,Aa (Nat.succ_ne_zero s)]
   rfl)
theorem Ct.indexArr{x y:Operand}{T e:TypeId}{len s:Nat}{a:Addr}{k:IntKind}(j:Nat){i:Int}(ho:o.op= .indexAddr T x y)(hx:ev l x=some (.pointer (some a)))(hy:ev l y=some (.int k i))(c:P.underlying T=some (.array len e))
  (b:(P.info? e).map (·.size)=some s) (hi:i=(j:Int)) (hj:j<len):Ct P n w0 b_ hs l o (.pointer (some (a.add (j*s)))):=
 Ct.of (s:=Instr.indexAt T (.pointer (some a)) (.int k i)) (fun f hf=>by unfold execOp;simp only[ho,hf.eval hx,hf.eval hy]) (fun w _=>by
  unfold Instr.indexAt
  subst hi
  simp only[asIntOf]
  show(((underlying T >>= fun d=>_):Sem Value)).run P w=_
  rw[Ak,Cz c,Ai]
  have h0:(0:Int)<=(j:Int)/\(j:Int)<(len:Int):=by omega
  simp only[Instr.sureAddr]
  show((underlying T >>= fun d=>_):Sem Value).run P w=_
  rw[Ak,Cz c,Ai]
  simp only[h0,and_self,if_true]
  show((sizeOf e >>= fun s=>pure (Value.pointer (some (a.add ((j:Int).toNat*s))))):Sem Value).run P w=_
  rw[Ak,run_sizeOf b,Ai]
  rfl)
end
section
variable {P:Program}{n:Nat}{w0:World}{b_:N_}{l:Dh}{h hs:Mem}{o:Oper}{v:Value}
theorem Qab{x y:Operand}{T e:TypeId}{len cap s:Nat}{a:Addr}{k:IntKind}(j:Nat){i:Int}(ho:o.op= .indexAddr T x y)(hx:ev l x=some (.slice (some a) len cap))(hy:ev l y=some (.int k i))(c:P.underlying T=some (.slice e))
  (b:(P.info? e).map (·.size)=some s) (hi:i=(j:Int)) (hj:j<len):Ct P n w0 b_ hs l o (.pointer (some (a.add (j*s)))):=
 Ct.of (s:=Instr.indexAt T (.slice (some a) len cap) (.int k i)) (fun f hf=>by unfold execOp;simp only[ho,hf.eval hx,hf.eval hy]) (fun w _=>by
  unfold Instr.indexAt
  subst hi
  simp only[asIntOf]
  show(((underlying T >>= fun d=>_):Sem Value)).run P w=_
  rw[Ak,Cz c,Ai]
  have h0:(0:Int)<=(j:Int)/\(j:Int)<(len:Int):=by omega
  show((underlying T >>= fun d=>_):Sem Value).run P w=_
  rw[Ak,Cz c,Ai]
  simp only[h0,and_self,if_true]
  show((sizeOf e >>= fun s=>pure (Value.pointer (some (a.add ((j:Int).toNat*s))))):Sem Value).run P w=_
  rw[Ak,run_sizeOf b,Ai]
  rfl)
theorem Qbj{x y:Operand}{T e:TypeId}{b len cap s:Nat}{k:IntKind}(j:Nat){i:Int}(ho:o.op= .indexAddr T x y)(hx:ev l x=some (.slice (some ⟨b,0,none⟩) len cap))(hy:ev l y=some (.int k i))(d:P.underlying T=some (.slice e))
  (c:(P.info? e).map (·.size)=some s) (hi:i=(j:Int)) (hj:j<len):Ct P n w0 b_ hs l o (.pointer (some ⟨b,j*s,none⟩)):=by
 have:=Qab (n:=n) (w0:=w0) (b_:=b_) (hs:=hs) j ho hx hy d c hi hj
 rwa [add_lit,AE]at this
theorem Zj{x y:Operand}{T e:TypeId}{b len cap:Nat}{k:IntKind}(j:Nat){i:Int}(ho:o.op= .indexAddr T x y)(hx:ev l x=some (.slice (some ⟨b,0,none⟩) len cap))(hy:ev l y=some (.int k i))(d:P.underlying T=some (.slice e))
  (c:(P.info? e).map (·.size)=some 1) (hi:i=(j:Int)) (hj:j<len):Ct P n w0 b_ hs l o (.pointer (some ⟨b,j,none⟩)):=by
 have:=Qbj (n:=n) (w0:=w0) (b_:=b_) (hs:=hs) j ho hx hy d c hi hj
 rwa [Bm]at this
theorem Qaq{x y:Operand}{T e:TypeId}{len cap:Nat}{a:Addr}{k:IntKind}(j:Nat){i:Int}(ho:o.op= .indexAddr T x y)(hx:ev l x=some (.slice (some a) len cap))(hy:ev l y=some (.int k i))(c:P.underlying T=some (.slice e))
  (b:(P.info? e).map (·.size)=some 1) (hi:i=(j:Int)) (hj:j<len):Ct P n w0 b_ hs l o (.pointer (some (a.add j))):=by
 have:=Qab (n:=n) (w0:=w0) (b_:=b_) (hs:=hs) j ho hx hy c b hi hj
 rwa [Bm]at this
theorem Qbb{x:Operand}{T:TypeId}{s off h b m:Nat}{e:Array Field}(f:Nat)(ho:o.op= .fieldAddr T x f)(hx:ev l x=some (.pointer (some ⟨b,m,none⟩)))(i:P.underlying T=some (.struct e))
  (c:(e[f]?).map (fun g=>(g.type,g.offset))=some (h,off)) (d:(P.info? h).map (·.size)=some (s+1)):Ct P n w0 b_ hs l o (.pointer (some ⟨b,m+off,none⟩)):=by
 have:=Ct.fieldAddr (n:=n) (w0:=w0) (b_:=b_) (hs:=hs) f ho hx i c d
 rwa [add_lit]at this
theorem Qah{x:Operand}{T:TypeId}{s off e m:Nat}{a:Addr}{d:Array Field}(f:Nat)(ho:o.op= .fieldAddr T x f)(hx:ev l x=some (.pointer (some (a.add m))))(h:P.underlying T=some (.struct d))
  (b:(d[f]?).map (fun g=>(g.type,g.offset))=some (e,off)) (c:(P.info? e).map (·.size)=some (s+1)):Ct P n w0 b_ hs l o (.pointer (some (a.add (m+off)))):=by
 have:=Ct.fieldAddr (n:=n) (w0:=w0) (b_:=b_) (hs:=hs) f ho hx h b c
 rwa [add_add]at this
theorem Ct.extract{x:Operand}{i:Nat}{vs:V_}(ho:o.op= .extract x i)(hx:ev l x=some (.tuple vs.toArray))(hv:nth vs i=some v):Ct P n w0 b_ hs l o v:=
 Ct.of (s:=Instr.extract (.tuple vs.toArray) i) (fun a hf=>by unfold execOp;simp only[ho,hf.eval hx]) (fun w _=>by rw[Qm]at hv;simp[Instr.extract,hv])
theorem Ze{x:Operand}{S T:TypeId}{k k':IntKind}{i:Int}{d:TypeDesc}(ho:o.op= .convert S T x)(hx:ev l x=some (.int k i))(b:P.underlying S=some d)(c:P.underlying T=some (.int k')):Ct P n w0 b_ hs l o (.int k' (k'.wrap i)):=
 Ct.of (s:=convert S T (.int k i)) (fun a hf=>by unfold execOp;simp only[ho,hf.eval hx]) (fun w _=>by
  unfold convert
  rw[Ak,Cz b,Ai,Ak,Cz c,Ai]
  cases d<;>rfl)
theorem Zw{x:Operand}{S T:TypeId}{k k':IntKind}{i:Int}{d:TypeDesc}(ho:o.op= .convert S T x)(hx:ev l x=some (.int k i))(b:P.underlying S=some d)(c:P.underlying T=some (.int k'))(hi:k'.wrap i=i):Ct P n w0 b_ hs l o (.int k' i):=by
 have:=Ze (n:=n) (w0:=w0) (b_:=b_) (hs:=hs) ho hx b c
 rwa [hi]at this
theorem Qbg{b:Builtin}{x:Operand}{ts:Array TypeId}{u:Value}{s:Sem Value}(ho:o.op= .call {callee:=.builtin b,args:= #[x],argTypes:=ts})(hx:ev l x=some u)
  (hb:∀c,builtin b ts o.type c #[u]=(do pure (.value (<-s)))) (hv:∀w,s.run P w= .ok v w):Ct P n w0 b_ hs l o v:=
 Ct.of (s:=s) (fun a hf=>by
  unfold execOp
  simp only[ho,resolve]
  simp only[List.map_toArray,List.map_cons,List.map_nil,hf.eval hx]
  exact hb _) (fun w _=>hv w)
theorem Qbh{b:Builtin}{x y:Operand}{ts:Array TypeId}{u d:Value}{s:Sem Value}(ho:o.op= .call {callee:=.builtin b,args:= #[x,y],argTypes:=ts})(hx:ev l x=some u)(hy:ev l y=some d)
  (hb:∀c,builtin b ts o.type c #[u,d]=(do pure (.value (<-s)))) (hv:∀w,s.run P w= .ok v w):Ct P n w0 b_ hs l o v:=
 Ct.of (s:=s) (fun a hf=>by
  unfold execOp
  simp only[ho,resolve]
  simp only[List.map_toArray,List.map_cons,List.map_nil,hf.eval hx,hf.eval hy]
  exact hb _) (fun w _=>hv w)
theorem Qa0{x:Operand}{T e:TypeId}{a:A_}{len cap:Nat}(ho:o.op= .call {callee:=.builtin .len,args:= #[x],argTypes:= #[T]})(hx:ev l x=some (.slice a len cap))(b:P.underlying T=some (.slice e)):Ct P n w0 b_ hs l o (.int .i64 len):=
 Qbg (s:=Builtin.len_ #[T] o.type #[.slice a len cap]) ho hx (fun _=>rfl) fun w=>by
  unfold Builtin.len_
  show((underlying T >>= fun d=>_):Sem Value).run P w=_
  rw[Ak,Cz b,Ai]
  rfl
theorem Zq{x y:Operand}{ts:Array TypeId}{k k':IntKind}{i j:Int}(ho:o.op= .call {callee:=.builtin .max,args:= #[x,y],argTypes:=ts})(hx:ev l x=some (.int k i))(hy:ev l y=some (.int k' j)):Ct P n w0 b_ hs l o (.int k (max i j)):=
 Qbh (s:=Builtin.max_ ts o.type #[.int k i,.int k' j]) ho hx hy (fun _=>rfl) fun w=>by
  have:(if j>i then j else i)=max i j:=by omega
  simp[Builtin.max_,Builtin.max2,this]
theorem Zo{x y:Operand}{ts:Array TypeId}{k k':IntKind}{i j:Int}(ho:o.op= .call {callee:=.builtin .min,args:= #[x,y],argTypes:=ts})(hx:ev l x=some (.int k i))(hy:ev l y=some (.int k' j)):Ct P n w0 b_ hs l o (.int k (min i j)):=
 Qbh (s:=Builtin.min_ ts o.type #[.int k i,.int k' j]) ho hx hy (fun _=>rfl) fun w=>by
  have:(if j<i then j else i)=min i j:=by omega
  simp[Builtin.min_,Builtin.min2,this]
theorem Ct.field{x:Operand}{T:TypeId}{off h:Nat}{c:Array Field}{cs:V_}{d:TypeDesc}(f:Nat)(ho:o.op= .field T x f)(hx:ev l x=some (.agg cs.toArray))(j:P.underlying T=some (.struct c))
  (b:(c[f]?).map (fun g=>(g.type,g.offset))=some (h,off)) (i:P.underlying h=some d) (hd:ET d=false) (hv:nth cs off=some v):Ct P n w0 b_ hs l o v:=
 Ct.of (s:=Instr.field T (.agg cs.toArray) f) (fun k hf=>by unfold execOp;simp only[ho,hf.eval hx]) (fun w _=>by
  unfold Instr.field
  rw[Ak,Cz j,Ai]
  cases hg:c[f]? with
  |none=>rw[hg]at b;cases b
  |some g=>
   rw[hg]at b
   simp only[Option.map_some,Option.some.injEq,Prod.mk.injEq]at b
   obtain⟨h1,h2⟩:=b
   subst h1 h2
   simp only[hg]
   show(part g.type cs.toArray g.offset).run P w=_
   unfold part
   rw[Qm]at hv
   have e:cs.toArray[g.offset]? =some v:=by simpa using hv
   rw[Ak,Gs i,Ai,hd,Aa (by simp),e]
   rfl)
theorem Ct.build{T:TypeId}{ps:List (Nat×Operand)}{vs:List (Nat×Value)}{cs:Array Value}(ho:o.op= .build T ps.toArray)(hp:ps.map (fun p=>(p.1,ev l p.2))=vs.map (fun p=>(p.1,some p.2)))
  (hb:∀w,(Instr.build T vs.toArray).run P w= .ok (.agg cs) w):Ct P n w0 b_ hs l o (.agg cs):=
 Ct.of (s:=Instr.build T vs.toArray) (fun a hf=>by
  have:ps.map (fun p=>(p.1,a.eval p.2))=vs:=by
   clear hb ho
   induction ps generalizing vs with
   |nil=>cases vs with
    |nil=>rfl
    |cons _ _=>cases hp
   |cons p ps ih=>cases vs with
    |nil=>cases hp
    |cons v vs=>
     simp only[List.map_cons,List.cons.injEq,Prod.mk.injEq]at hp ⊢
     refine⟨?_,ih hp.2⟩
     rw[hf.eval hp.1.2,hp.1.1]
  unfold execOp
  simp only[ho,List.map_toArray,this]) (fun w _=>hb w)
theorem PN(w:World):∀(b:List Field) (ss:N_),b.map (fun f=>(P.info? f.type).map (·.size))=ss.map some->(b.mapM fun f=>(do pure (f.offset,<-sizeOf f.type):Sem (Nat×Nat))).run P w= .ok ((b.map (·.offset)).zip ss) w
 |[],ss,h=>by
  cases ss with
  |nil=>rfl
  |cons _ _=>cases h
 |f::b,ss,h=>by
  cases ss with
  |nil=>cases h
  |cons s ss=>
   simp only[List.map_cons,List.cons.injEq]at h
   rw[List.mapM_cons,Ak,Ak,run_sizeOf h.1,Ai,BV,Ai,Ak,PN w b ss h.2,Ai]
   rfl
theorem UC{T:TypeId}{c:List Field}{z:Value}{ss:N_}{vs:List (Nat×Value)}{cs:Array Value}(e:P.underlying T=some (.struct c.toArray))(hz:(P.info? T).bind (·.zero)=some z)
  (hs:c.map (fun f=>(P.info? f.type).map (·.size))=ss.map some) (hf:Instr.fill (fun i=>((c.map (·.offset)).zip ss).toArray[i]?) z.cells vs=some cs) (w:World):(Instr.build T vs.toArray).run P w= .ok (.agg cs) w:=by
 have b:(zeroValue T).run P w= .ok z w:=by
  cases hi:P.info? T with
  |none=>rw[hi]at hz;cases hz
  |some i=>
   rw[hi]at hz
   have d:i.zero=some z:=hz
   simp[zeroValue,typeInfo,program,Sem.run,hi,d,Bind.bind,Sem.bind,Pure.pure]
 unfold Instr.build
 rw[Ak,b,Ai,Ak,Cz e,Ai]
 simp only[List.mapM_toArray]
 rw[Ak,Sem.run_map,PN w c ss hs]
 simp only[Result.andThen_ok,hf]
 rfl
theorem Ct.buildS{T:TypeId}{b:List Field}{z:Value}{ss:N_}{ps:List (Nat×Operand)}{vs:List (Nat×Value)}{cs:Array Value}(ho:o.op= .build T ps.toArray)(hp:ps.map (fun p=>(p.1,ev l p.2))=vs.map (fun p=>(p.1,some p.2)))
  (d:P.underlying T=some (.struct b.toArray)) (hz:(P.info? T).bind (·.zero)=some z)
  (c:b.map (fun f=>(P.info? f.type).map (·.size))=ss.map some) (hf:Instr.fill (fun i=>((b.map (·.offset)).zip ss).toArray[i]?) z.cells vs=some cs):Ct P n w0 b_ hs l o (.agg cs):=
 Ct.build ho hp (UC d hz c hf)
def EL:Value->Bool
 |.agg _=>false
 |.tuple _=>false
 |_=>true
theorem Up{P:Program}{w:World}{a:Addr}{v u:Value}(hv:EL v=true)(hc:w.cell? a=some u)(b:w.frozen? a=false):(store a v).run P w= .ok () (w.setCell a v):=by
 cases v<;>simp_all [store,Sem.run,EL]
def putCells(cs:Array Value)(off:Nat):V_->Array Value
 |[]=>cs
 |v::vs=>putCells (cs.setIfInBounds off v) (off+1) vs
theorem EZ:∀(vs:V_) (cs:Array Value) (off:Nat),(putCells cs off vs).size=cs.size
 |[],_,_=>rfl
 |v::vs,cs,off=>by rw[putCells,EZ vs];simp
theorem Gn:∀(vs:V_) (cs:Array Value) (off j:Nat),off+vs.length<=cs.size->(putCells cs off vs)[j]? =if off<=j/\j<off+vs.length then vs[j-off]? else cs[j]?
 |[],cs,off,j,_=>by rw[putCells,Aa (by simp only[List.length_nil];omega)]
 |v::vs,cs,off,j,h=>by
  simp only[List.length_cons]at h ⊢
  rw[putCells,Gn vs _ _ _ (by simp only[Array.size_setIfInBounds];omega),Array.getElem?_setIfInBounds]
  by_cases e:off=j
  ·subst e
   rw[Aa (by omega),Ah rfl,Ah (by omega),Ah (by omega),Cb]
   rfl
  ·by_cases h2:off+1<=j/\j<off+1+vs.length
   ·rw[Ah h2,Ah (by omega),show j-off=(j-(off+1))+1 from by omega]
    rfl
   ·rw[Aa h2,Aa e,Aa (by omega)]
theorem JL(cs cs':Array Value)(h:cs'.size=cs.size):putCells cs 0 cs'.toList=cs':=by
 apply Array.ext_getElem?
 intro j
 rw[Gn _ _ _ _ (by simp[h])]
 split
 ·simp
 ·rename_i hj
  rw[Bg]at hj
  rw[Bz (by omega),Bz (by omega)]
theorem VF(w:World)(b off:Nat)(v:Value)(cs:Array Value)(T:TypeId)(c:Nat×Nat)(hb:hf w b=some (.cells cs T c)):hf (w.setCell ⟨b,off,none⟩ v)=fun k=>if k=b then some (.cells (cs.setIfInBounds off v) T c)else hf w k:=by
 funext k
 simp only[hf,World.setCell,Array.getElem?_modify]
 by_cases e:k=b
 ·have d:w.heap[b]? =some (.cells cs T c):=hb
  rw[Ah e,Ah e.symm,e,d]
  rfl
 ·rw[Aa e,Aa (fun f=>e f.symm)]
theorem Ej{P:Program}:∀(vs:V_) (i:Nat) (w:World) (b off:Nat) (cs:Array Value) (T:TypeId),(∀v∈vs,EL v=true)->hf w b=some (.cells cs T (0,0))->off+i+vs.length<=cs.size->
  ∃w',(storeCells ⟨b,off,none⟩ vs i).run P w= .ok () w'/\w'.os=w.os/\w'.tape=w.tape/\w'.output=w.output/\w'.heap.size=w.heap.size/\hf w'=fun k=>if k=b then some (.cells (putCells cs (off+i) vs) T (0,0))else hf w k
 |[],i,w,b,off,cs,T,_,hb,_=>⟨w,rfl,rfl,rfl,rfl,rfl,by funext k;by_cases e:k=b;(rw[Ah e,e,hb];rfl);rw[Aa e]⟩
 |v::vs,i,w,b,off,cs,T,h1,hb,hl=>by
  have hlt:off+i<cs.size:=by simp only[List.length_cons]at hl;omega
  have hc:w.cell? ⟨b,off+i,none⟩=some cs[off+i]:=by rw[HU];simp[Gx,hb,hlt]
  have hz:w.frozen? ⟨b,off+i,none⟩=false:=by
   have c:w.heap[b]? =some (.cells cs T (0,0)):=hb
   simp[World.frozen?,c]
  have hset:=VF w b (off+i) v cs T (0,0) hb
  obtain⟨w',hr,e1,e2,e3,e4,e5⟩:=Ej (P:=P) vs (i+1) (w.setCell ⟨b,off+i,none⟩ v) b off (cs.setIfInBounds (off+i) v) T (fun u d=>h1 u (by simp[d])) (by rw[hset];simp) (by simp only[List.length_cons]at hl;simp only[Array.size_setIfInBounds];omega)
  refine⟨w',?_,e1,e2,e3,e4.trans (by simp[World.setCell]),?_⟩
  ·unfold storeCells
   rw[Ak,add_lit,Up (h1 v (by simp)) hc hz,Ai]
   exact hr
  ·rw[e5,hset]
   funext k
   simp only[putCells,Nat.add_assoc]
   split<;>rfl
theorem LO.store{x y:Operand}{T:TypeId}{s b off:Nat}{cs:Array Value}{T':TypeId}(i:Nat)(ho:o.op= .store T x y)(hx:ev l x=some (.pointer (some ⟨b,off,none⟩)))(hy:ev l y=some v)(hi:h[i]? =some (blk b (.cells cs T' (0,0))))
  (f:(P.info? T).map (·.size)=some s) (hl:v.cells.size=s) (h1:∀u∈v.cells.toList,EL u=true) (hfit:off+s<=cs.size):
  LO P n w0 b_ h l o fun u h'=>u=undef/\h'=h.set i (blk b (.cells (putCells cs off v.cells.toList) T' (0,0))):=by
 intro a w hf c K Q hk
 have hb:Go.Cru.hf w b=some (.cells cs T' (0,0)):=c.mine _ (Aj hi)
 obtain⟨w',hr,e1,e2,e3,e4,e5⟩:=Ej (P:=P) v.cells.toList 0 w b off cs T' h1 hb (by rw[Bg];omega)
 have hrun:(execOp a.eval o).run P w= .ok .skip w':=by
  unfold execOp
  simp only[ho,hf.eval hx,hf.eval hy]
  show((Instr.storeAt T (.pointer (some ⟨b,off,none⟩)) v >>= fun _=>pure Next.skip):Sem Next).run P w=_
  rw[Ak]
  have:(Instr.storeAt T (.pointer (some ⟨b,off,none⟩)) v).run P w= .ok () w':=by
   unfold Instr.storeAt Instr.sureAddr
   show(storeVar T ⟨b,off,none⟩ v).run P w=_
   unfold storeVar
   rw[Ak,run_sizeOf f,Ai,hl]
   simp only[ne_eq,not_true_eq_false,if_false]
   exact hr
  rw[this]
  rfl
 unfold Oper.wp
 rw[hrun]
 refine hk undef w' _ ⟨rfl,rfl⟩ (c.set hi rfl e1 e2 e3 e4 (fun k d=>?_) ?_)
 ·have:=congrFun e5 k
  simp only[Go.Cru.hf]at this
  rw[this,Aa (fun e=>d (by simp[blk,e]))]
 ·show Go.Cru.hf w' b=_
  rw[e5]
  simp
theorem LO.storeAs{x y:Operand}{T:TypeId}{s b off:Nat}{cs:Array Value}{T':TypeId}(i:Nat)(cs':Array Value)(ho:o.op= .store T x y)(hx:ev l x=some (.pointer (some ⟨b,off,none⟩)))(hy:ev l y=some v)(hi:h[i]? =some (blk b (.cells cs T' (0,0))))
  (d:(P.info? T).map (·.size)=some s) (hl:v.cells.size=s) (h1:∀u∈v.cells.toList,EL u=true) (hfit:off+s<=cs.size) (c:putCells cs off v.cells.toList=cs'):
  LO P n w0 b_ h l o fun u h'=>u=undef/\h'=h.set i (blk b (.cells cs' T' (0,0))):=by
 subst c
 exact LO.store i ho hx hy hi d hl h1 hfit
theorem CX.block{w:World}(ho:CX w0 b_ h w)(cs:Array Value)(T:TypeId):CX w0 b_ (h++[blk w.heap.size (.cells cs T (0,0))]) {w with heap:=w.heap.push (.cells cs T)}:=
 ho.new _ _ rfl (show(w.heap.push _)[w.heap.size]? =_ from BE)
theorem Zf{s:Sem Value}{R:Value->Mem->Prop}(he:∀a:Act,Fr n l a->execOp a.eval o=(do pure (.value (<-s))))(hr:∀w,CX w0 b_ h w->∃v w' h',s.run P w= .ok v w'/\R v h'/\CX w0 b_ h' w'):LO P n w0 b_ h l o R:=by
 intro a w hf ho K Q hk
 obtain⟨v,w',h',h1,h2,h3⟩:=hr w ho
 unfold Oper.wp
 rw[he a hf,Ak,h1]
 exact hk v w' h' h2 h3
theorem LO.box{x:Operand}{T:TypeId}(ho:o.op= .box T x)(hx:ev l x=some v):LO P n w0 b_ h l o fun u h'=>∃b,w0.heap.size<=b/\u= .pointer (some ⟨b,0,none⟩)/\h'=h++[blk b (.cells v.cells T (0,0))]:=
 Zf (s:=Instr.box T v) (fun a hf=>by unfold execOp;simp only[ho,hf.eval hx]) fun w c=>
  ⟨_,_,_,rfl,⟨w.heap.size,c.size,rfl,rfl⟩,c.block _ _⟩
theorem LO.alloc{T:TypeId}{z:Value}(ho:o.op= .alloc T)(hz:(P.info? T).bind (·.zero)=some z):LO P n w0 b_ h l o fun u h'=>∃b,w0.heap.size<=b/\u= .pointer (some ⟨b,0,none⟩)/\h'=h++[blk b (.cells z.cells T (0,0))]:=
 Zf (s:=Instr.alloc T true (.tuple #[])) (fun a hf=>by unfold execOp;simp only[ho]) fun w c=>by
  refine⟨_,_,_,?_,⟨w.heap.size,c.size,rfl,rfl⟩,c.block _ _⟩
  unfold Instr.alloc
  cases hi:P.info? T with
  |none=>rw[hi]at hz;cases hz
  |some i=>
   rw[hi]at hz
   have d:i.zero=some z:=hz
   simp[zeroValue,typeInfo,program,Sem.run,hi,d,newVar,newRow,newObj,Bind.bind,Sem.bind,Pure.pure]
def Fc(P:Program)(f:FuncId):Prop:=∀args w,(callFunc f args).run P w= .ok (.enter f args) w
theorem enters{f:FuncId}{b:Func}(hf:P.funcs[f]? =some b)(hn:(b.name == "runtime.NumGoroutine")=false)(hb:b.body.isNone=false):Fc P f:=by
 intro args w
 have d:b.name≠ "runtime.NumGoroutine" :=fun e=>by rw[e]at hn;simp at hn
 have c:b.body≠none:=fun e=>by rw[e]at hb;simp at hb
 simp[callFunc,program,Sem.run,hf,d,c,Bind.bind,Sem.bind,Pure.pure]
theorem Qao{f:FuncId}{vs:V_}{R:Value->Mem->Prop}(he:∀a:Act,Fr n l a->∀w,(execOp a.eval o).run P w= .ok (.enter f vs.toArray) w)
  (hr:∀w,CX w0 b_ h w->Calls P f vs.toArray w fun e w'=>∃v h',e= .returned v/\R v h'/\CX w0 b_ h' w'):LO P n w0 b_ h l o R:=by
 intro a w hf ho K Q hk
 unfold Oper.wp
 rw[he a hf w]
 simp only[Oper.upon]
 refine Calls.mono (hr w ho) fun e w' ⟨v,h',he',hR,ho'⟩=>?_
 subst he'
 exact hk v w' h' hR ho'
theorem Nz{f:FuncId}{b:Array Operand}{ts:Array TypeId}{vs:Array Value}(ho:o.op= .call {callee:=.value (.func f),args:=b,argTypes:=ts})(hc:Fc P f){a:Act}(hv:b.map a.eval=vs)(w:World):(execOp a.eval o).run P w= .ok (.enter f vs) w:=by
 unfold execOp
 simp only[ho,resolve,hv]
 show(invoke (.fn (.func f) #[]) (#[]++vs)).run P w=_
 have:=hc (vs++ #[]) w
 simpa [invoke] using this
end
theorem DQ(b x:Nat)(hx:x<2 ^ b):(BitVec.ofInt b (x:Int)).toNat=x:=by
 rw[BitVec.toNat_ofInt]
 rw[Int.emod_eq_of_lt (by omega) (by exact_mod_cast hx)]
 rfl
section
variable {P:Program}{n:Nat}{w0:World}{b_:N_}{l:Dh}{h hs:Mem}{o:Oper}{v:Value}
theorem xor_lt{a b:Nat}(ha:a<18446744073709551616)(hb:b<18446744073709551616):a^^^b<18446744073709551616:=Nat.xor_lt_two_pow (n:=64) ha hb
theorem and_lt{a b:Nat}(ha:a<18446744073709551616):a&&&b<18446744073709551616:=BA Nat.and_le_left ha
theorem SV{a b:Nat}(ha:a<18446744073709551616)(hb:b<18446744073709551616):a|||b<18446744073709551616:=Nat.or_lt_two_pow (n:=64) ha hb
theorem Eh{a:Nat}(ha:a<18446744073709551616):IntKind.u64.wrap (a:Int)=a:=DJ (by omega) (by omega)
theorem DU{a:Nat}(ha:a<9223372036854775808):IntKind.i64.wrap (a:Int)=a:=wrap_i64 (by omega) (by omega)
theorem Qbc{t t':TypeId}{x y:Operand}{i j:Nat}(ho:o.op= .binOp .xor t x y t')(hx:ev l x=some (.int .u64 i))(hy:ev l y=some (.int .u64 j))(hi:i<18446744073709551616)(hj:j<18446744073709551616):Ct P n w0 b_ hs l o (.int .u64 ((i^^^j:Nat):Int)):=
 Zs ho hx hy fun w=>by
  have h1:(BitVec.ofInt 64 (i:Int)^^^BitVec.ofInt 64 (j:Int)).toNat=i^^^j:=by rw[BitVec.toNat_xor,DQ 64 i hi,DQ 64 j hj]
  show Result.ok (Value.int .u64 (IntKind.u64.wrap ((BitVec.ofInt 64 (i:Int)^^^BitVec.ofInt 64 (j:Int)).toNat:Int))) w=_
  rw[h1,Eh (xor_lt hi hj)]
theorem Ct.andu{t t':TypeId}{x y:Operand}{i j:Nat}(ho:o.op= .binOp .and t x y t')(hx:ev l x=some (.int .u64 i))(hy:ev l y=some (.int .u64 j))(hi:i<18446744073709551616)(hj:j<18446744073709551616):Ct P n w0 b_ hs l o (.int .u64 ((i&&&j:Nat):Int)):=
 Zs ho hx hy fun w=>by
  have h1:(BitVec.ofInt 64 (i:Int)&&&BitVec.ofInt 64 (j:Int)).toNat=i&&&j:=by rw[Ch,DQ 64 i hi,DQ 64 j hj]
  show Result.ok (Value.int .u64 (IntKind.u64.wrap ((BitVec.ofInt 64 (i:Int)&&&BitVec.ofInt 64 (j:Int)).toNat:Int))) w=_
  rw[h1,Eh (and_lt hi)]
theorem Ct.and{t t':TypeId}{x y:Operand}{i j:Nat}(ho:o.op= .binOp .and t x y t')(hx:ev l x=some (.int .i64 i))(hy:ev l y=some (.int .i64 j))(hi:i<9223372036854775808)(hj:j<9223372036854775808):Ct P n w0 b_ hs l o (.int .i64 ((i&&&j:Nat):Int)):=
 Zs ho hx hy fun w=>by
  have h1:(BitVec.ofInt 64 (i:Int)&&&BitVec.ofInt 64 (j:Int)).toNat=i&&&j:=by rw[Ch,DQ 64 i (by omega),DQ 64 j (by omega)]
  show Result.ok (Value.int .i64 (IntKind.i64.wrap ((BitVec.ofInt 64 (i:Int)&&&BitVec.ofInt 64 (j:Int)).toNat:Int))) w=_
  rw[h1,DU (BA Nat.and_le_left hi)]
theorem Ct.or{t t':TypeId}{x y:Operand}{i j:Nat}(ho:o.op= .binOp .or t x y t')(hx:ev l x=some (.int .i64 i))(hy:ev l y=some (.int .i64 j))(hi:i<9223372036854775808)(hj:j<9223372036854775808):Ct P n w0 b_ hs l o (.int .i64 ((i|||j:Nat):Int)):=
 Zs ho hx hy fun w=>by
  have h1:(BitVec.ofInt 64 (i:Int)|||BitVec.ofInt 64 (j:Int)).toNat=i|||j:=by rw[BitVec.toNat_or,DQ 64 i (by omega),DQ 64 j (by omega)]
  show Result.ok (Value.int .i64 (IntKind.i64.wrap ((BitVec.ofInt 64 (i:Int)|||BitVec.ofInt 64 (j:Int)).toNat:Int))) w=_
  rw[h1,DU (Nat.or_lt_two_pow (n:=63) hi hj)]
theorem TE(i m:Nat):Int.fdiv (i:Int) (2 ^ m)=((i/2 ^ m:Nat):Int):=by
 rw[Int.fdiv_eq_ediv_of_nonneg _ (by exact_mod_cast Af _)]
 exact_mod_cast rfl
theorem Ct.shr{t t':TypeId}{x y:Operand}{k k':IntKind}{i m:Nat}(ho:o.op= .binOp .shr t x y t')(hx:ev l x=some (.int k i))(hy:ev l y=some (.int k' m))(hm:m<=k.bits):Ct P n w0 b_ hs l o (.int k ((i/2 ^ m:Nat):Int)):=
 Zs ho hx hy fun w=>by
  have h0:¬((m:Int)<0):=by omega
  have h1:min (m:Int).toNat k.bits=m:=by rw[Bf];omega
  show(Op.shift .shr k (i:Int) k' (m:Int)).run P w=_
  unfold Op.shift
  rw[Aa h0]
  simp only[h1,TE]
  rfl
theorem Ct.shl{t t':TypeId}{x y:Operand}{k k':IntKind}{i m:Nat}(ho:o.op= .binOp .shl t x y t')(hx:ev l x=some (.int k i))(hy:ev l y=some (.int k' m))(hm:m<=k.bits)(hw:k.wrap ((i*2 ^ m:Nat):Int)=((i*2 ^ m:Nat):Int)):Ct P n w0 b_ hs l o (.int k ((i*2 ^ m:Nat):Int)):=
 Zs ho hx hy fun w=>by
  have h0:¬((m:Int)<0):=by omega
  have h1:min (m:Int).toNat k.bits=m:=by rw[Bf];omega
  show(Op.shift .shl k (i:Int) k' (m:Int)).run P w=_
  unfold Op.shift
  rw[Aa h0]
  simp only[h1]
  have h2:(i:Int)*2 ^ m=((i*2 ^ m:Nat):Int):=by exact_mod_cast rfl
  rw[h2,hw]
  rfl
theorem Ct.bin'{op:BinOp}{t t':TypeId}{x y:Operand}{u b:Value}(ho:o.op= .binOp op t x y t')(hx:ev l x=some u)(hy:ev l y=some b)(hg:∀w,(eqGuard op t x y u b).run P w= .ok () w)
  (hv:∀w,(binOp op t u b).run P w= .ok v w):Ct P n w0 b_ hs l o v:=
 Ct.of (s:=do eqGuard op t x y u b;binOp op t u b) (fun a hf=>by
  unfold execOp
  simp only[ho,hf.eval hx,hf.eval hy]) (fun w _=>by rw[Sem.run_bind,hg w,Result.andThen_ok];exact hv w)
theorem Jk{T e:TypeId}(b:P.underlying T=some (.pointer e))(a:A_)(w:World):(Op.equal T (.pointer a) (.pointer none)).run P w= .ok a.isNone w:=by
 unfold Op.equal Op.maxDepth Op.equalIn
 rw[Ak,Cz b,Ai]
 cases a<;>rfl
theorem Zh{t t' e:TypeId}{x y:Operand}{a:A_}(ho:o.op= .binOp .eql t x y t')(hx:ev l x=some (.pointer a))(hy:ev l y=some (.pointer none))(b:P.underlying t=some (.pointer e)):Ct P n w0 b_ hs l o (.bool a.isNone):=
 Ct.bin' ho hx hy (fun w=>rfl) fun w=>by
  have:binOp .eql t (.pointer a) (.pointer none)=(Op.equal t (.pointer a) (.pointer none) >>= fun r=>pure (Value.bool r)):=by cases a<;>rfl
  rw[this,Ak,Jk b,Ai]
  rfl
theorem Ct.neqNil{t t' e:TypeId}{x y:Operand}{a:A_}(ho:o.op= .binOp .neq t x y t')(hx:ev l x=some (.pointer a))(hy:ev l y=some (.pointer none))(b:P.underlying t=some (.pointer e)):Ct P n w0 b_ hs l o (.bool (!a.isNone)):=
 Ct.bin' ho hx hy (fun w=>rfl) fun w=>by
  have:binOp .neq t (.pointer a) (.pointer none)=(Op.equal t (.pointer a) (.pointer none) >>= fun r=>pure (Value.bool (!r))):=by cases a<;>rfl
  rw[this,Ak,Jk b,Ai]
  rfl
end
theorem Gp{h:Mem}:∀r∈([]:Mem),r∈h:=by simp
theorem all_cons{h hs:Mem}{r:CW}(h1:r∈h)(h2:∀x∈hs,x∈h):∀x∈r::hs,x∈h:=BM.2 ⟨h1,h2⟩
section
variable {P:Program}{n:Nat}{w0:World}{b_:N_}{ops:Array Oper}{l:Dh}{h hs h1:Mem}{o:Oper}{v u:Value}{d:Nat}{K:En}{Q:Exit->Act->World->Prop}{rest:List Oper}{k_:Nat->Bool}{f_:Nat}{l_:Array Bool}{R:Value->Mem->Prop}
theorem O1(hs:Ct P n w0 b_ h l o v)(hk:OL P n w0 b_ ops Q rest ((d,v)::l) h)(hw:CK ops l o=some true:=by exact rfl)(hd:o.dst=some d:=by exact rfl)(hlt:Nat.blt d n=true:=by exact rfl):OL P n w0 b_ ops Q (o::rest) l h:=OL_sil hw hd hlt hs hk
theorem O2(hs:LO P n w0 b_ h l o R)(hk:∀v h',R v h'->OL P n w0 b_ ops Q rest ((d,v)::l) h')(hw:CK ops l o=some true:=by exact rfl)(hd:o.dst=some d:=by exact rfl)(hlt:Nat.blt d n=true:=by exact rfl):OL P n w0 b_ ops Q (o::rest) l h:=Mq hw hd hlt hs hk
theorem O3(hs:LO P n w0 b_ h l o R)(hk:∀v h',R v h'->OL P n w0 b_ ops Q rest l h')(hw:CK ops l o=some true:=by exact rfl)(hd:o.dst=none:=by exact rfl):OL P n w0 b_ ops Q (o::rest) l h:=QW hw hd hs hk
theorem O4(hs:LO P n w0 b_ h l o fun v h'=>v=u/\h'=h1)(hk:OL P n w0 b_ ops Q rest l h1)(hw:CK ops l o=some true:=by exact rfl)(hd:o.dst=none:=by exact rfl):OL P n w0 b_ ops Q (o::rest) l h:=QW hw hd hs fun _ _ e=>e.2▸hk
theorem O5(hs:LO P n w0 b_ h l o fun v h'=>v=u/\h'=h1)(hk:OL P n w0 b_ ops Q rest ((d,u)::l) h1)(hw:CK ops l o=some true:=by exact rfl)(hd:o.dst=some d:=by exact rfl)(hlt:Nat.blt d n=true:=by exact rfl):OL P n w0 b_ ops Q (o::rest) l h:=Mq hw hd hlt hs fun _ _ e=>e.1▸e.2▸hk
theorem O6{f:Nat->Value}{g:Nat->Mem}(hs:LO P n w0 b_ h l o fun v h'=>∃b,v=f b/\h'=g b)(hk:∀b,OL P n w0 b_ ops Q rest ((d,f b)::l) (g b))(hw:CK ops l o=some true:=by exact rfl)(hd:o.dst=some d:=by exact rfl)(hlt:Nat.blt d n=true:=by exact rfl):OL P n w0 b_ ops Q (o::rest) l h:=Mq hw hd hlt hs fun _ _ ⟨b,e1,e2⟩=>e1▸e2▸hk b
theorem D1(i:Nat)(hi:ops[i]? =some o)(b:Ct P n w0 b_ hs l o v)(hk:DL P n w0 b_ ops K hs k_ f_ (l_.setIfInBounds i true) ((d,v)::l) h)(hm:GT ops k_ l_ i=true:=by kernel_rfl)
  (hw:CK ops l o=some true:=by exact rfl) (hd:o.dst=some d:=by exact rfl) (hlt:Nat.blt d n=true:=by exact rfl) (c:∀r∈hs,r∈h:=by first|((repeat' (first|exact Gp|refine all_cons (by repeat (first|exact List.Mem.head _|refine List.Mem.tail _ ?_)) ?_));done)|exact fun _ hr=>hr):DL P n w0 b_ ops K hs k_ (f_+1) l_ l h:=Wb i hi hm hw hd hlt b c hk
theorem D2(i:Nat)(hi:ops[i]? =some o)(b:∀w0,Ct P n w0 [] [] l o v)(hk:DL P n w0 b_ ops K hs k_ f_ (l_.setIfInBounds i true) ((d,v)::l) h)(hm:Ix ops l_ i=true:=by kernel_rfl)
  (hw:CK ops l o=some true:=by exact rfl) (hd:o.dst=some d:=by exact rfl) (hlt:Nat.blt d n=true:=by exact rfl):DL P n w0 b_ ops K hs k_ (f_+1) l_ l h:=Sn i hi hm hw hd hlt b hk
theorem D6{j:Nat}(hj:ops[j]? =some o)(hlo:LO P n w0 b_ h l o R)(hk:∀v h',R v h'->(k_ j=true∨∀r∈hs,r∈h')/\DL P n w0 b_ ops K hs k_ f_ l_ ((d,v)::l) h')(hw:CK ops l o=some true:=by exact rfl)(hd:o.dst=some d:=by exact rfl)(hlt:Nat.blt d n=true:=by exact rfl):DS P n w0 b_ ops K hs k_ f_ l_ j l h:=QJ hj hw hd hlt hlo hk
theorem D7{j:Nat}(hj:ops[j]? =some o)(hlo:LO P n w0 b_ h l o R)(hk:∀v h',R v h'->(k_ j=true∨∀r∈hs,r∈h')/\DL P n w0 b_ ops K hs k_ f_ l_ l h')(hw:CK ops l o=some true:=by exact rfl)(hd:o.dst=none:=by exact rfl):DS P n w0 b_ ops K hs k_ f_ l_ j l h:=Tw hj hw hd hlo hk
theorem D8{j:Nat}(hj:ops[j]? =some o)(hlo:LO P n w0 b_ h l o fun v h'=>v=u/\h'=h1)(hk:DL P n w0 b_ ops K hs k_ f_ l_ l h1)(hw:CK ops l o=some true:=by exact rfl)(hd:o.dst=none:=by exact rfl)(hkl:k_ j=true:=by exact rfl):DS P n w0 b_ ops K hs k_ f_ l_ j l h:=Tw hj hw hd hlo fun _ _ e=>e.2▸⟨.inl hkl,hk⟩
theorem D9{j:Nat}(hj:ops[j]? =some o)(hlo:LO P n w0 b_ h l o fun v h'=>v=u/\h'=h1)(hk:DL P n w0 b_ ops K hs k_ f_ l_ ((d,u)::l) h1)(hw:CK ops l o=some true:=by exact rfl)(hd:o.dst=some d:=by exact rfl)(hlt:Nat.blt d n=true:=by exact rfl)(hkl:k_ j=true:=by exact rfl):DS P n w0 b_ ops K hs k_ f_ l_ j l h:=QJ hj hw hd hlt hlo fun _ _ e=>e.1▸e.2▸⟨.inl hkl,hk⟩
theorem Gz{j:Nat}(hj:ops[j]? =some o)(hlo:LO P n w0 b_ h l o fun v h'=>v=u/\h'=h1)(hk:DL P n w0 b_ ops K hs k_ f_ l_ ((d,u)::l) h1)(hw:CK ops l o=some true:=by exact rfl)(hd:o.dst=some d:=by exact rfl)(hlt:Nat.blt d n=true:=by exact rfl)(b:∀r∈hs,r∈h1:=by (repeat' (first|exact Gp|refine all_cons (by repeat (first|exact List.Mem.head _|refine List.Mem.tail _ ?_)) ?_))):DS P n w0 b_ ops K hs k_ f_ l_ j l h:=QJ hj hw hd hlt hlo fun _ _ e=>e.1▸e.2▸⟨.inr b,hk⟩
theorem yk{p q:Prop}{b:Bool}(hk:q)(h:b=true:=by exact rfl):(b=true∨p)/\q:=⟨.inl h,hk⟩
theorem ys{p q:Prop}(hk:q)(b:∀r∈hs,r∈h:=by first|((repeat' (first|exact Gp|refine all_cons (by repeat (first|exact List.Mem.head _|refine List.Mem.tail _ ?_)) ?_));done)|exact fun _ hr=>hr):(p∨∀r∈hs,r∈h)/\q:=⟨.inr b,hk⟩
theorem D0(hk:K .normal l h)(hr:Region.ready .any ops l_=[]:=by kernel_rfl):DL P n w0 b_ ops K hs k_ f_ l_ l h:=Wo hr hk
theorem Da(j:Nat)(hk:DS P n w0 b_ ops K hs k_ f_ (l_.setIfInBounds j true) j l h)(hr:Region.ready .any ops l_=[j]:=by kernel_rfl):DL P n w0 b_ ops K hs k_ (f_+1) l_ l h:=DL_one j hr hk
theorem Jy(j k:Nat)(h1:DS P n w0 b_ ops K hs k_ f_ (l_.setIfInBounds j true) j l h)(h2:DS P n w0 b_ ops K hs k_ f_ (l_.setIfInBounds k true) k l h)(hr:Region.ready .any ops l_=[j,k]:=by kernel_rfl):DL P n w0 b_ ops K hs k_ (f_+1) l_ l h:=DL_two j k hr h1 h2
theorem Da3(i j k:Nat)(h1:DS P n w0 b_ ops K hs k_ f_ (l_.setIfInBounds i true) i l h)(h2:DS P n w0 b_ ops K hs k_ f_ (l_.setIfInBounds j true) j l h)(h3:DS P n w0 b_ ops K hs k_ f_ (l_.setIfInBounds k true) k l h)(hr:Region.ready .any ops l_=[i,j,k]:=by kernel_rfl):DL P n w0 b_ ops K hs k_ (f_+1) l_ l h:=Qa [i,j,k] hr (by simp) (BM.2 ⟨h1,BM.2 ⟨h2,BM.2 ⟨h3,by simp⟩⟩⟩)
theorem Da4(i j k m:Nat)(h1:DS P n w0 b_ ops K hs k_ f_ (l_.setIfInBounds i true) i l h)(h2:DS P n w0 b_ ops K hs k_ f_ (l_.setIfInBounds j true) j l h)(h3:DS P n w0 b_ ops K hs k_ f_ (l_.setIfInBounds k true) k l h)(h4:DS P n w0 b_ ops K hs k_ f_ (l_.setIfInBounds m true) m l h)(hr:Region.ready .any ops l_=[i,j,k,m]:=by kernel_rfl):DL P n w0 b_ ops K hs k_ (f_+1) l_ l h:=Qa [i,j,k,m] hr (by simp) (BM.2 ⟨h1,BM.2 ⟨h2,BM.2 ⟨h3,BM.2 ⟨h4,by simp⟩⟩⟩⟩)
theorem Ts{x y:Code}(hx:TC P n w0 b_ x (K.then (TC P n w0 b_ y K)) l h):TC P n w0 b_ (.seq x y) K l h:=TC_seq hx
theorem Tk(hk:K .normal l h):TC P n w0 b_ .skip K l h:=VI hk
theorem Te{id:Nat}(hk:K (.exit id) l h):TC P n w0 b_ (.exit id) K l h:=VQ hk
theorem Tb{id:Nat}{c:Code}(hk:TC P n w0 b_ c (K.inBlock id) l h):TC P n w0 b_ (.block id c) K l h:=SN hk
theorem Tr{id:Nat}{os:List Oper}(hk:OL P n w0 b_ os.toArray (Jh n w0 b_ K) os l h):TC P n w0 b_ (.region id os.toArray false) K l h:=IZ hk
theorem On(hq:K .normal l h):OL P n w0 b_ ops (Jh n w0 b_ K) [] l h:=Kx hq
theorem Tyy{c:Operand}{x y:Code}(hc:ev l c=some (.bool true))(hk:TC P n w0 b_ x K l h):TC P n w0 b_ (.cond c x y) K l h:=TC_yes hc hk
theorem DC{x:Operand}(ho:o.op= .move x:=by exact rfl)(hx:ev l x=some v:=by exact rfl):Ct P n w0 b_ hs l o v:=Ct.move ho hx
theorem FC{x:Operand}(ho:o.op= .assign x:=by exact rfl)(hx:ev l x=some v:=by exact rfl):Ct P n w0 b_ hs l o v:=Ct.assign ho hx
theorem Hl{x:Operand}{a:Addr}(ho:o.op= .nilCheck x:=by exact rfl)(hx:ev l x=some (.pointer (some a)):=by exact rfl):Ct P n w0 b_ hs l o (.pointer (some a)):=Ct.nilCheck ho hx
theorem Yo{x:Operand}{i:Nat}{vs:V_}(ho:o.op= .extract x i:=by exact rfl)(hx:ev l x=some (.tuple vs.toArray):=by exact rfl)(hv:nth vs i=some v:=by exact rfl):Ct P n w0 b_ hs l o v:=Ct.extract ho hx hv
theorem Xp1{c x y:Operand}(ho:o.op= .pick c x y:=by exact rfl)(hc:ev l c=some (.bool true):=by exact rfl)(hx:ev l x=some v:=by exact rfl):Ct P n w0 b_ hs l o v:=QaU ho hc hx
theorem Xlt{t t':TypeId}{x y:Operand}{k:IntKind}{i j:Int}(ho:o.op= .binOp .lss t x y t':=by exact rfl)(hx:ev l x=some (.int k i):=by exact rfl)(hy:ev l y=some (.int k j):=by exact rfl):Ct P n w0 b_ hs l o (.bool (decide (i<j))):=Ct.lss ho hx hy
theorem Xgt{t t':TypeId}{x y:Operand}{k:IntKind}{i j:Int}(ho:o.op= .binOp .gtr t x y t':=by exact rfl)(hx:ev l x=some (.int k i):=by exact rfl)(hy:ev l y=some (.int k j):=by exact rfl):Ct P n w0 b_ hs l o (.bool (decide (j<i))):=Ct.gtr ho hx hy
theorem Xge{t t':TypeId}{x y:Operand}{k:IntKind}{i j:Int}(ho:o.op= .binOp .geq t x y t':=by exact rfl)(hx:ev l x=some (.int k i):=by exact rfl)(hy:ev l y=some (.int k j):=by exact rfl):Ct P n w0 b_ hs l o (.bool (decide (j<=i))):=Ct.geq ho hx hy
theorem Xeq{t t':TypeId}{x y:Operand}{k:IntKind}{i j:Int}(ho:o.op= .binOp .eql t x y t':=by exact rfl)(hx:ev l x=some (.int k i):=by exact rfl)(hy:ev l y=some (.int k j):=by exact rfl):Ct P n w0 b_ hs l o (.bool (decide (i=j))):=Ct.eql ho hx hy
theorem SX{t t':TypeId}{x y:Operand}{i j:Int}(ho:o.op= .binOp .add t x y t':=by exact rfl)(hx:ev l x=some (.int .i64 i):=by exact rfl)(hy:ev l y=some (.int .i64 j):=by exact rfl)(h0: -9223372036854775808<=i+j:=by omega)(h1:i+j<=9223372036854775807:=by omega):Ct P n w0 b_ hs l o (.int .i64 (i+j)):=Ct.add ho hx hy h0 h1
theorem Xnot{t:TypeId}{x:Operand}{b:Bool}(ho:o.op= .unOp .not t x:=by exact rfl)(hx:ev l x=some (.bool b):=by exact rfl):Ct P n w0 b_ hs l o (.bool (!b)):=Ct.not ho hx
theorem MV{x:Operand}{T e:TypeId}{a:A_}{len cap:Nat}(b:P.underlying T=some (.slice e))(ho:o.op= .call {callee:=.builtin .len,args:= #[x],argTypes:= #[T]}:=by exact rfl)(hx:ev l x=some (.slice a len cap):=by exact rfl):Ct P n w0 b_ hs l o (.int .i64 len):=Qa0 ho hx b
theorem GO{x y:Operand}{T e:TypeId}{len cap:Nat}{a:Addr}{k:IntKind}(j:Nat){i:Int}(c:P.underlying T=some (.slice e))(ho:o.op= .indexAddr T x y:=by exact rfl)(hx:ev l x=some (.slice (some a) len cap):=by exact rfl)(hy:ev l y=some (.int k i):=by exact rfl)(b:(P.info? e).map (·.size)=some 1:=by exact rfl)(hi:i=(j:Int):=by exact rfl)(hj:j<len:=by omega):Ct P n w0 b_ hs l o (.pointer (some (a.add j))):=Qaq j ho hx hy c b hi hj
end
theorem Sb2{l:Dh}{t0 t1:Nat}{v0 v1:Value}(h0:fnd l t0=some v0:=by exact rfl)(h1:fnd l t1=some v1:=by exact rfl):Ml [(t0,v0),(t1,v1)] l:=⟨h0,h1,trivial⟩
theorem Sb3{l:Dh}{t0 t1 t2:Nat}{v0 v1 v2:Value}(h0:fnd l t0=some v0:=by exact rfl)(h1:fnd l t1=some v1:=by exact rfl)(h2:fnd l t2=some v2:=by exact rfl):Ml [(t0,v0),(t1,v1),(t2,v2)] l:=⟨h0,h1,h2,trivial⟩
theorem Sb4{l:Dh}{t0 t1 t2 t3:Nat}{v0 v1 v2 v3:Value}(h0:fnd l t0=some v0:=by exact rfl)(h1:fnd l t1=some v1:=by exact rfl)(h2:fnd l t2=some v2:=by exact rfl)(h3:fnd l t3=some v3:=by exact rfl):Ml [(t0,v0),(t1,v1),(t2,v2),(t3,v3)] l:=⟨h0,h1,h2,h3,trivial⟩
theorem Sb5{l:Dh}{t0 t1 t2 t3 t4:Nat}{v0 v1 v2 v3 v4:Value}(h0:fnd l t0=some v0:=by exact rfl)(h1:fnd l t1=some v1:=by exact rfl)(h2:fnd l t2=some v2:=by exact rfl)(h3:fnd l t3=some v3:=by exact rfl)(h4:fnd l t4=some v4:=by exact rfl):Ml [(t0,v0),(t1,v1),(t2,v2),(t3,v3),(t4,v4)] l:=⟨h0,h1,h2,h3,h4,trivial⟩
theorem Sb6{l:Dh}{t0 t1 t2 t3 t4 t5:Nat}{v0 v1 v2 v3 v4 v5:Value}(h0:fnd l t0=some v0:=by exact rfl)(h1:fnd l t1=some v1:=by exact rfl)(h2:fnd l t2=some v2:=by exact rfl)(h3:fnd l t3=some v3:=by exact rfl)(h4:fnd l t4=some v4:=by exact rfl)(h5:fnd l t5=some v5:=by exact rfl):Ml [(t0,v0),(t1,v1),(t2,v2),(t3,v3),(t4,v4),(t5,v5)] l:=⟨h0,h1,h2,h3,h4,h5,trivial⟩
theorem Sb7{l:Dh}{t0 t1 t2 t3 t4 t5 t6:Nat}{v0 v1 v2 v3 v4 v5 v6:Value}(h0:fnd l t0=some v0:=by exact rfl)(h1:fnd l t1=some v1:=by exact rfl)(h2:fnd l t2=some v2:=by exact rfl)(h3:fnd l t3=some v3:=by exact rfl)(h4:fnd l t4=some v4:=by exact rfl)(h5:fnd l t5=some v5:=by exact rfl)(h6:fnd l t6=some v6:=by exact rfl):Ml [(t0,v0),(t1,v1),(t2,v2),(t3,v3),(t4,v4),(t5,v5),(t6,v6)] l:=⟨h0,h1,h2,h3,h4,h5,h6,trivial⟩
theorem Sb8{l:Dh}{t0 t1 t2 t3 t4 t5 t6 t7:Nat}{v0 v1 v2 v3 v4 v5 v6 v7:Value}(h0:fnd l t0=some v0:=by exact rfl)(h1:fnd l t1=some v1:=by exact rfl)(h2:fnd l t2=some v2:=by exact rfl)(h3:fnd l t3=some v3:=by exact rfl)(h4:fnd l t4=some v4:=by exact rfl)(h5:fnd l t5=some v5:=by exact rfl)(h6:fnd l t6=some v6:=by exact rfl)(h7:fnd l t7=some v7:=by exact rfl):Ml [(t0,v0),(t1,v1),(t2,v2),(t3,v3),(t4,v4),(t5,v5),(t6,v6),(t7,v7)] l:=⟨h0,h1,h2,h3,h4,h5,h6,h7,trivial⟩
theorem Sb9{l:Dh}{t0 t1 t2 t3 t4 t5 t6 t7 t8:Nat}{v0 v1 v2 v3 v4 v5 v6 v7 v8:Value}(h0:fnd l t0=some v0:=by exact rfl)(h1:fnd l t1=some v1:=by exact rfl)(h2:fnd l t2=some v2:=by exact rfl)(h3:fnd l t3=some v3:=by exact rfl)(h4:fnd l t4=some v4:=by exact rfl)(h5:fnd l t5=some v5:=by exact rfl)(h6:fnd l t6=some v6:=by exact rfl)(h7:fnd l t7=some v7:=by exact rfl)(h8:fnd l t8=some v8:=by exact rfl):Ml [(t0,v0),(t1,v1),(t2,v2),(t3,v3),(t4,v4),(t5,v5),(t6,v6),(t7,v7),(t8,v8)] l:=⟨h0,h1,h2,h3,h4,h5,h6,h7,h8,trivial⟩
theorem Sb10{l:Dh}{t0 t1 t2 t3 t4 t5 t6 t7 t8 t9:Nat}{v0 v1 v2 v3 v4 v5 v6 v7 v8 v9:Value}(h0:fnd l t0=some v0:=by exact rfl)(h1:fnd l t1=some v1:=by exact rfl)(h2:fnd l t2=some v2:=by exact rfl)(h3:fnd l t3=some v3:=by exact rfl)(h4:fnd l t4=some v4:=by exact rfl)(h5:fnd l t5=some v5:=by exact rfl)(h6:fnd l t6=some v6:=by exact rfl)(h7:fnd l t7=some v7:=by exact rfl)(h8:fnd l t8=some v8:=by exact rfl)(h9:fnd l t9=some v9:=by exact rfl):Ml [(t0,v0),(t1,v1),(t2,v2),(t3,v3),(t4,v4),(t5,v5),(t6,v6),(t7,v7),(t8,v8),(t9,v9)] l:=⟨h0,h1,h2,h3,h4,h5,h6,h7,h8,h9,trivial⟩
theorem Sb11{l:Dh}{t0 t1 t2 t3 t4 t5 t6 t7 t8 t9 t10:Nat}{v0 v1 v2 v3 v4 v5 v6 v7 v8 v9 v10:Value}(h0:fnd l t0=some v0:=by exact rfl)(h1:fnd l t1=some v1:=by exact rfl)(h2:fnd l t2=some v2:=by exact rfl)(h3:fnd l t3=some v3:=by exact rfl)(h4:fnd l t4=some v4:=by exact rfl)(h5:fnd l t5=some v5:=by exact rfl)(h6:fnd l t6=some v6:=by exact rfl)(h7:fnd l t7=some v7:=by exact rfl)(h8:fnd l t8=some v8:=by exact rfl)(h9:fnd l t9=some v9:=by exact rfl)(b:fnd l t10=some v10:=by exact rfl):Ml [(t0,v0),(t1,v1),(t2,v2),(t3,v3),(t4,v4),(t5,v5),(t6,v6),(t7,v7),(t8,v8),(t9,v9),(t10,v10)] l:=⟨h0,h1,h2,h3,h4,h5,h6,h7,h8,h9,b,trivial⟩
theorem Sb12{l:Dh}{t0 t1 t2 t3 t4 t5 t6 t7 t8 t9 t10 b:Nat}{v0 v1 v2 v3 v4 v5 v6 v7 v8 v9 v10 v11:Value}(h0:fnd l t0=some v0:=by exact rfl)(h1:fnd l t1=some v1:=by exact rfl)(h2:fnd l t2=some v2:=by exact rfl)(h3:fnd l t3=some v3:=by exact rfl)(h4:fnd l t4=some v4:=by exact rfl)(h5:fnd l t5=some v5:=by exact rfl)(h6:fnd l t6=some v6:=by exact rfl)(h7:fnd l t7=some v7:=by exact rfl)(h8:fnd l t8=some v8:=by exact rfl)(h9:fnd l t9=some v9:=by exact rfl)(c:fnd l t10=some v10:=by exact rfl)(d:fnd l b=some v11:=by exact rfl):Ml [(t0,v0),(t1,v1),(t2,v2),(t3,v3),(t4,v4),(t5,v5),(t6,v6),(t7,v7),(t8,v8),(t9,v9),(t10,v10),(b,v11)] l:=⟨h0,h1,h2,h3,h4,h5,h6,h7,h8,h9,c,d,trivial⟩
abbrev Cr(b:Nat):Value:=.pointer (some ⟨b,0,none⟩)
abbrev Cs(x:Int):Value:=.int .i64 x
theorem Jt {P:Program} {n:Nat} {w0:World} {b_:N_} {l:Dh} {hs:Mem} {o:Oper} {x y:Operand} {T e:TypeId} {len cap s:Nat} {a:Addr} {k:IntKind} (j:Nat) {i:Int} (c:P.underlying T=some (.slice e)) (ho:o.op=.indexAddr T x y:=by rfl) (hx:ev l x=some (.slice (some a) len cap):=by rfl) (hy:ev l y=some (.int k i):=by rfl) (b:(P.info? e).map (·.size)=some s:=by rfl) (hi:i=(j:Int):=by rfl) (hj:j<len:=by omega):Ct P n w0 b_ hs l o (.pointer (some (a.add (j*s)))):=Qab j ho hx hy c b hi hj
theorem Km {P:Program} {n:Nat} {w0:World} {b_:N_} {l:Dh} {hs:Mem} {o:Oper} {x y:Operand} {T e:TypeId} {b len cap:Nat} {k:IntKind} (j:Nat) {i:Int} (d:P.underlying T=some (.slice e)) (ho:o.op=.indexAddr T x y:=by rfl) (hx:ev l x=some (.slice (some ⟨b,0,none⟩) len cap):=by rfl) (hy:ev l y=some (.int k i):=by rfl) (c:(P.info? e).map (·.size)=some 1:=by rfl) (hi:i=(j:Int):=by rfl) (hj:j<len:=by omega):Ct P n w0 b_ hs l o (.pointer (some ⟨b,j,none⟩)):=Zj j ho hx hy d c hi hj
theorem gx {α:Type} (xs:List α) (i:Nat) (h:i<xs.length):∃x,xs[i]? =some x:=⟨_,List.getElem?_eq_getElem h⟩
def arr(n:Nat)(f:Nat->Value):Array Value:=((List.range n).map f).toArray
theorem Tj(n:Nat)(f:Nat->Value):(arr n f).size=n:=by simp[arr]
theorem arr_at(n:Nat)(f:Nat->Value)(i:Nat)(hi:i<n):(arr n f)[i]? =some (f i):=by simp[arr,hi]
theorem arr_none(n:Nat)(f:Nat->Value)(i:Nat)(hi:¬i<n):(arr n f)[i]? =none:=Bz (by rw[Tj];omega)
def sq(ao:A_)(m cap:Nat)(T sz:Nat)(xs:V_):CW:=
 ⟨(ao.map (·.block)).toList,fun H=>xs.length=m*sz/\((ao=none/\m=0/\cap=0)∨∃g cur,ao=some ⟨g,0,none⟩/\H g=some (.cells cur T (0,0))/\m<=cap/\cap<=maxLen/\cur.size=cap*sz/\cur.toList.take (m*sz)=xs),
  fun H b hh ⟨h1,h2⟩=>⟨h1,h2.imp id fun⟨g,cur,e,hg,r⟩=>⟨g,cur,e,by rw[hh g (by simp[e])];exact hg,r⟩⟩,
  fun H ⟨_,h2⟩ i hi=>by
   rcases h2 with ⟨e,_⟩|⟨g,cur,e,hg,_⟩
   ·simp[e]at hi
   ·simp[e]at hi;subst hi;rw[hg];simp⟩
theorem sq_own{w:World}{ao:A_}{m cap T sz:Nat}{xs:V_}(h:(sq ao m cap T sz xs).P (hf w)):w.ownsRow 0 T sz (.slice ao m cap) m xs:=by
 obtain⟨h1,h2⟩:=h
 refine⟨h1,h2.imp (fun⟨a,b,c⟩=>?_) fun⟨g,cur,e,hg,r⟩=>⟨g,cap,cur,by rw[e],Af _,hg,r⟩⟩
 subst a b c
 exact⟨rfl,rfl⟩
theorem own_sq{w:World}{v:Value}{m T sz:Nat}{xs:V_}(h:w.ownsRow 0 T sz v m xs):∃ao cap,v= .slice ao m cap/\(sq ao m cap T sz xs).P (hf w):=by
 obtain⟨h1,h2⟩:=h
 rcases h2 with ⟨rfl,rfl⟩|⟨g,cap,cur,rfl,_,r⟩
 ·exact⟨none,0,rfl,h1,.inl ⟨rfl,rfl,rfl⟩⟩
 ·exact⟨_,_,rfl,h1,.inr ⟨g,cur,rfl,r⟩⟩
theorem sq_nil(T sz:Nat)(H:HF):(sq none 0 0 T sz []).P H:=⟨by simp,.inl ⟨rfl,rfl,rfl⟩⟩
theorem CX.nil{w0 w:World}{b_:N_}{h:Mem}(o:CX w0 b_ h w)(T sz:Nat):CX w0 b_ (h++[sq none 0 0 T sz []]) w:=
 ⟨o.os,o.tape,o.output,o.size,o.old,fun r hr=>by
  rcases AC.1 hr with hr|hr
  ·exact o.mine r hr
  ·rw[Ap.1 hr];exact sq_nil T sz _,by
  rw[AI]
  simp[sq]
  exact o.nd,fun r hr i hi=>by
  rcases AC.1 hr with hr|hr
  ·exact o.fr r hr i hi
  ·rw[Ap.1 hr]at hi;simp[sq]at hi⟩
theorem CX.renew{w0 w w':World}{b_:N_}{h:Mem}(o:CX w0 b_ h w){i:Nat}{r r':CW}(hi:h[i]? =some r)(hid:r'.ids=r.ids∨r'.ids=[w.heap.size])
  (p:w'.os=w.os) (g:w'.tape=w.tape) (hout:w'.output=w.output) (f:w.heap.size<=w'.heap.size) (hk:∀k,k<w.heap.size->k∉r.ids->w'.heap[k]? =w.heap[k]?) (hr:r'.P (hf w')):CX w0 b_ (h.set i r') w':=by
 have hmem:=Aj hi
 have hlt:=o.lt
 refine⟨p.trans o.os,g.trans o.tape,hout.trans o.output,AA o.size f,fun k c hb=>?_,fun s hs=>?_,?_,fun s hs j hj=>?_⟩
 ·rw[hk k (Nat.lt_of_lt_of_le c o.size) (fun n=>(o.fr r hmem k n).elim (fun h1=>by omega) hb)]
  exact o.old k c hb
 ·rcases HT h i r' s hs with rfl|⟨j,hne,hj⟩
  ·exact hr
  ·exact s.loc _ _ (fun k l=>hk k (hlt s (Aj hj) k l) (Hn h o.nd hi hj hne k l)) (o.mine s (Aj hj))
 ·rcases hid with hid|hid
  ·rw[Iw h i r r' hi hid];exact o.nd
  ·have hnd:=o.nd
   have hil:i<h.length:=(Ab.1 hi).1
   have q:h[i]=r:=(Ab.1 hi).2
   have d:h=h.take i++r::h.drop (i+1):=by rw[<-q,List.getElem_cons_drop,List.take_append_drop]
   have hset:h.set i r'=h.take i++r'::h.drop (i+1):=by rw[List.set_eq_take_append_cons_drop,Ah hil]
   rw[hset,AI,Az,hid]
   rw[d,AI,Az]at hnd
   obtain⟨n1,n2,n3⟩:=Bu.1 hnd
   obtain⟨m1,m2,m3⟩:=Bu.1 n2
   have hsm:∀s∈h,∀a∈s.ids,a≠w.heap.size:=fun s hs a ha e=>by have:=hlt s hs a ha;omega
   refine Bu.2 ⟨n1,Bu.2 ⟨by simp,m2,fun a ha b hb=>?_⟩,fun a ha b hb=>?_⟩
   ·obtain⟨s,hs,m⟩:=Ba.1 hb
    rw[Ap.1 ha]
    exact fun e=>hsm s (Bw hs) b m e.symm
   ·obtain⟨s,hs,has⟩:=Ba.1 ha
    rcases AC.1 hb with hb|hb
    ·rw[Ap.1 hb];exact hsm s (Bx hs) a has
    ·exact n3 a ha b (AC.2 (.inr hb))
 ·rcases HT h i r' s hs with rfl|⟨k,hne,c⟩
  ·rcases hid with hid|hid
   ·exact o.fr r hmem j (hid▸hj)
   ·rw[hid,Ap]at hj
    exact .inl (hj▸o.size)
  ·exact o.fr s (Aj c) j hj
section
variable {P:Program}{n:Nat}{w0:World}{b_:N_}{l:Dh}{h hs:Mem}{o:Oper}{v:Value}
structure El(P:Program)(t e:TypeId)(z:Value)(sz bytes:Nat):Prop where
 sl:P.underlying t=some (.slice e)
 info:(P.info? e).map (fun i=>(i.zero,i.size,i.bytes))=some (some z,sz,bytes)
 zs:z.cells.size=sz
 pos:0<sz
theorem El.row{t e:TypeId}{z:Value}{sz b:Nat}(h:El P t e z sz b):∃i,P.info? e=some i/\i.zero=some z/\i.size=sz/\i.bytes=b:=by
 have:=h.info
 cases hi:P.info? e with
 |none=>rw[hi]at this;cases this
 |some i=>
  rw[hi]at this
  simp only[Option.map_some,Option.some.injEq,Prod.mk.injEq]at this
  exact⟨i,rfl,this.1,this.2.1,this.2.2⟩
theorem LO.append{x y:Operand}{t e:TypeId}{z:Value}{sz d:Nat}{ao:A_}{m cap:Nat}{xs:V_}{ad:Addr}{k c:Nat}(i:Nat)(b:V_)
  (ho:o.op= .call {callee:=.builtin .append,args:= #[x,y],argTypes:= #[t,t]}) (hx:ev l x=some (.slice ao m cap)) (hy:ev l y=some (.slice (some ad) k c)) (hi:h[i]? =some (sq ao m cap e sz xs)) (he:El P t e z sz d)
  (hl:b.length=k*sz) (A:∀w,CX w0 b_ h w->∀j u,b[j]? =some u->w.cell? (ad.add j)=some u) (h1:∀u∈b,EL u=true) (E:m+k<=maxLen) (hb:(m+k)*d<=140737488355328):
  LO P n w0 b_ h l o fun u h'=>∃g f,u= .slice g (m+k) f/\h'=h.set i (sq g (m+k) f e sz (xs++b)):=by
 obtain⟨G,C,I,J,K⟩:=he.row
 refine Zf (s:=Builtin.append_ #[t,t] o.type #[.slice ao m cap,.slice (some ad) k c]) (fun a hf=>?_) fun w hw=>?_
 ·unfold execOp
  simp only[ho,resolve,List.map_toArray,List.map_cons,List.map_nil,hf.eval hx,hf.eval hy]
  rfl
 ·have hr:=hw.mine _ (Aj hi)
  obtain⟨v',w',hrun,D,hgr,_,hat⟩:=run_append_own_at (P:=P) w 0 t o.type e G z sz d he.sl C I J K he.zs he.pos (.slice ao m cap) m xs (sq_own hr) ad k c b hl (A w hw) (fun u H=>by
   have:=h1 u H
   cases u<;>first|rfl|(simp[EL]at this)) E hb (Nat.zero_le _)
  obtain⟨g,f,rfl,F⟩:=own_sq D
  refine⟨_,w',_,hrun,⟨g,f,rfl,rfl⟩,hw.renew hi ?_ hgr.os hgr.tape hgr.output hgr.size (fun j hj hne=>hgr.block j hj fun e=>hne ?_) F⟩
  ·have B:∀(a:A_) (p q:Nat),(sq a p q e sz (xs++b)).ids=(Value.slice a p q).ownBlock.toList:=fun a p q=>by cases a<;>rfl
   have r:(sq ao m cap e sz xs).ids=(Value.slice ao m cap).ownBlock.toList:=by cases ao<;>rfl
   rw[B,r]
   rcases hat with e|e
   ·exact .inl (by rw[e])
   ·exact .inr (by rw[e];rfl)
  ·cases ao with
   |none=>cases e
   |some a=>simp[Value.ownBlock]at e;simp[sq,e]
theorem LO.buildSlice{T e:TypeId}{len:Nat}{ps:List (Nat×Operand)}{vs:List (Nat×Value)}{cs:Array Value}(ho:o.op= .buildSlice T len ps.toArray)(hp:ps.map (fun p=>(p.1,ev l p.2))=vs.map (fun p=>(p.1,some p.2)))
  (hb:∀w,(Instr.buildSlice T len vs.toArray).run P w= .ok (.slice (some ⟨w.heap.size,0,none⟩) len len) {w with heap:=w.heap.push (.cells cs e)}):
  LO P n w0 b_ h l o fun u h'=>∃b,u= .slice (some ⟨b,0,none⟩) len len/\h'=h++[blk b (.cells cs e (0,0))]:=
 Zf (s:=Instr.buildSlice T len vs.toArray) (fun a hf=>by
  have:ps.map (fun p=>(p.1,a.eval p.2))=vs:=by
   clear hb ho
   induction ps generalizing vs with
   |nil=>cases vs with
    |nil=>rfl
    |cons _ _=>cases hp
   |cons p ps ih=>cases vs with
    |nil=>cases hp
    |cons v vs=>
     simp only[List.map_cons,List.cons.injEq,Prod.mk.injEq]at hp ⊢
     refine⟨?_,ih hp.2⟩
     rw[hf.eval hp.1.2,hp.1.1]
  unfold execOp
  simp only[ho,List.map_toArray,this]) fun w hw=>⟨_,_,_,hb w,⟨_,rfl,rfl⟩,hw.block _ _⟩
theorem LO.make1{x y:Operand}{t e:TypeId}{z:Value}{c m:Nat}{j A:Int}(ho:o.op= .makeSlice t x y)(hx:ev l x=some (.int .i64 j))(hy:ev l y=some (.int .i64 A))(hj:j=(m:Int))(r:A=(m:Int))(he:El P t e z 1 c)
  (hz:z.cells= #[z]) (p:m<=maxLen) (hb:c*m<=281474976710656):
  LO P n w0 b_ h l o fun u h'=>∃b,u= .slice (some ⟨b,0,none⟩) m m/\h'=h++[blk b (.cells (arr m fun _=>z) e (0,0))]:=by
 obtain⟨f,k,B,C,D⟩:=he.row
 subst hj r
 refine Zf (s:=Instr.makeSlice t (.int .i64 (m:Int)) (.int .i64 (m:Int))) (fun a hf=>by unfold execOp;simp only[ho,hf.eval hx,hf.eval hy]) fun w hw=>?_
 have g:(m:Int)<=9223372036854775807:=by have h:=p;simp[maxLen]at h;omega
 have q:(f.bytes:Int)*(m:Int)<=281474976710656:=by
  have h:((f.bytes*m:Nat):Int)<=281474976710656:=by rw[D];omega
  rwa [Int.natCast_mul]at h
 have hrun:=run_make (P:=P) w t e f z he.sl k B .i64 .i64 m m (by omega) (AK _) q g
 have d:madeCells z.cells ((m:Int).toNat*f.size)=arr m fun _=>z:=by
  rw[C,Bm,Bf,hz]
  apply Array.ext_getElem?
  intro i
  by_cases hi:i<m
  ·rw[arr_at _ _ _ hi];simp[madeCells,hi,Nat.mod_one]
  ·rw[arr_none _ _ _ hi];exact Bz (by rw[size_madeCells];omega)
 rw[d]at hrun
 exact⟨_,_,_,hrun,⟨_,rfl,rfl⟩,hw.block _ _⟩
theorem QI.sqAt{w:World}(b:QI w0 b_ hs w){i g m cap T sz off:Nat}{xs:V_}(hi:hs[i]? =some (sq (some ⟨g,0,none⟩) m cap T sz xs))(hx:xs[off]? =some v):w.cell? ⟨g,off,none⟩=some v:=by
 obtain⟨h1,h2⟩:=b.mine _ (Aj hi)
 rcases h2 with ⟨e,_⟩|⟨c,cur,e,hg,_,_,_,ht⟩
 ·cases e
 ·cases e
  rw[HU]
  simp only[Gx,hg]
  rw[<-ht,BH]at hx
  split at hx
  ·simpa using hx
  ·cases hx
theorem Ct.sqLoad{x:Operand}{T:TypeId}{d:TypeDesc}{g m cap T' sz off:Nat}{xs:V_}(i:Nat)(ho:o.op= .load T x)(hx:ev l x=some (.pointer (some ⟨g,off,none⟩)))(hi:hs[i]? =some (sq (some ⟨g,0,none⟩) m cap T' sz xs))
  (c:P.underlying T=some d) (hd:ET d=false) (hc:xs[off]? =some v):Ct P n w0 b_ hs l o v:=
 Ct.load ho hx c hd fun _ b=>b.sqAt hi hc
theorem LO.sqStore{x y:Operand}{T:TypeId}{g m cap T' sz off:Nat}{xs:V_}(i:Nat)(ho:o.op= .store T x y)(hx:ev l x=some (.pointer (some ⟨g,off,none⟩)))(hy:ev l y=some v)(hi:h[i]? =some (sq (some ⟨g,0,none⟩) m cap T' sz xs))
  (q:(P.info? T).map (·.size)=some 1) (hl:v.cells= #[v]) (h1:EL v=true) (hfit:off<m*sz):
  LO P n w0 b_ h l o fun u h'=>u=undef/\h'=h.set i (sq (some ⟨g,0,none⟩) m cap T' sz (xs.set off v)):=by
 intro a w hf d K Q hk
 obtain⟨p1,p2⟩:=d.mine _ (Aj hi)
 rcases p2 with ⟨e,_⟩|⟨r,cur,e,hg,hmc,hcm,c,ht⟩
 ·cases e
 ·cases e
  have j:m*sz<=cap*sz:=Bo _ hmc
  have ho2:CX w0 b_ (h.set i (blk g (.cells cur T' (0,0)))) w:=d.set hi rfl rfl rfl rfl rfl (fun _ _=>rfl) hg
  have hil:i<h.length:=(Ab.1 hi).1
  have EQ:(h.set i (blk g (.cells cur T' (0,0))))[i]? =some (blk g (.cells cur T' (0,0))):=by rw[Bj hil]
  refine LO.store (P:=P) (n:=n) (w0:=w0) (b_:=b_) i ho hx hy EQ q (by rw[hl];rfl) (fun u f=>by rw[hl]at f;simp at f;rw[f];exact h1) (by rw[c];omega) a w hf ho2 K Q fun u w' h' p b=>?_
  obtain⟨rfl,rfl⟩:=p
  refine hk _ w' _ ⟨rfl,rfl⟩ ?_
  rw[List.set_set]at b
  have hi3:(h.set i (blk g (.cells (putCells cur off v.cells.toList) T' (0,0))))[i]? =some (blk g (.cells (putCells cur off v.cells.toList) T' (0,0))):=by rw[Bj hil]
  have:=b.recast (r':=sq (some ⟨g,0,none⟩) m cap T' sz (xs.set off v)) hi3 rfl fun H k=>by
   refine⟨by rw[AQ];exact p1,.inr ⟨g,_,rfl,k,hmc,hcm,by rw[EZ];exact c,?_⟩⟩
   rw[hl]
   simp only[putCells]
   rw[Array.toList_setIfInBounds,<-ht,List.take_set]
  rwa [List.set_set]at this
theorem CX.sqSome{w:World}(ho:CX w0 b_ h w){i m cap T sz:Nat}{ao:A_}{xs:V_}(hi:h[i]? =some (sq ao m cap T sz xs))(hm:0<m):∃g,ao=some ⟨g,0,none⟩:=by
 obtain⟨_,h2⟩:=ho.mine _ (Aj hi)
 rcases h2 with ⟨_,e,_⟩|⟨g,_,e,_⟩
 ·omega
 ·exact⟨g,e⟩
theorem CX.asSq{w:World}(ho:CX w0 b_ h w){i b T sz m:Nat}{cs:Array Value}(hi:h[i]? =some (blk b (.cells cs T (0,0))))(hc:cs.size=m*sz)(hm:m<=maxLen):CX w0 b_ (h.set i (sq (some ⟨b,0,none⟩) m m T sz cs.toList)) w:=
 ho.recast hi rfl fun H c=>⟨by rw[Bg];exact hc,.inr ⟨b,cs,rfl,c,Al _,hm,hc,AU (by rw[Bg];omega)⟩⟩
theorem CX.cells{w:World}(ho:CX w0 b_ h w){i b:Nat}{cs:Array Value}{T:TypeId}{c:Nat×Nat}(hi:h[i]? =some (blk b (.cells cs T c))):∀j u,cs.toList[j]? =some u->w.cell? ((⟨b,0,none⟩:Addr).add j)=some u:=fun j u d=>by
 rw[add_lit,AE,(ho.sta fun _ h=>h).own hi]
 simpa using d
end
def RdC(w:World)(a:Addr)(cs:V_):Prop:=∀j u,cs[j]? =some u->w.cell? (a.add j)=some u
theorem nthSome{α:Type}{xs:List α}{j:Nat}(h:(j:Int)<(xs.length:Int)):∃x,xs[j]? =some x:=⟨_,Ae (by omega)⟩
theorem setSelf{α:Type}{h:List α}{i:Nat}{r:α}(hi:h[i]? =some r):h.set i r=h:=by
 obtain⟨h1,h2⟩:=Ab.1 hi
 rw[<-h2,List.set_getElem_self]
section
variable {P:Program}{n:Nat}{w0:World}{b_:N_}{l:Dh}{h hs:Mem}{o:Oper}{v:Value}
theorem Ct.oldS{x:Operand}{T:TypeId}{d:TypeDesc}{s:Nat}{a:Addr}{cs:V_}(ho:o.op= .load T x)(hx:ev l x=some (.pointer (some a)))(hc:RdC w0 a cs)(c:P.underlying T=some d)(b:(P.info? T).map (·.size)=some s)(hd:ET d=true)(hl:cs.length=s):Ct P n w0 [] hs l o (.agg cs.toArray):=
 Ct.oldN ho hx ⟨c,b⟩ hd hl hc (by simp)
theorem Ct.sqLoadN{x:Operand}{T:TypeId}{d:TypeDesc}{s g m cap T' sz off:Nat}{xs cs:V_}(i:Nat)(ho:o.op= .load T x)(hx:ev l x=some (.pointer (some ⟨g,off,none⟩)))(hi:hs[i]? =some (sq (some ⟨g,0,none⟩) m cap T' sz xs))
  (e:P.underlying T=some d) (b:(P.info? T).map (·.size)=some s) (hd:ET d=true) (hl:cs.length=s) (hc:∀j u,cs[j]? =some u->xs[off+j]? =some u):Ct P n w0 b_ hs l o (.agg cs.toArray):=
 QaW ho hx ⟨e,b⟩ hd hl fun w c j u hj=>by rw[add_lit];exact c.sqAt hi (hc j u hj)
theorem SU{t g e:TypeId}{sz:Nat}{w:World}{ao d:A_}{m cap c:Nat}(f:P.underlying t=some (.slice e))(b:(P.info? e).map (·.size)=some sz)(hm:m<=cap):
  (Builtin.append_ #[t,t] g #[.slice ao m cap,.slice d 0 c]).run P w= .ok (.slice ao m cap) w:=by
 cases hi:P.info? e with
 |none=>rw[hi]at b;cases b
 |some i=>
  cases d<;>cases ao<;>simp[Builtin.append_,run_underlying f,sizeOf,typeInfo,hi,Builtin.lenOf,Builtin.firstCells,loadCells,loadCellsFrom,storeCells,hm]
theorem LO.appendV{x y:Operand}{t e:TypeId}{z:Value}{sz d:Nat}{ao r:A_}{m cap:Nat}{xs:V_}{k c:Nat}(i:Nat)(b:V_)
  (ho:o.op= .call {callee:=.builtin .append,args:= #[x,y],argTypes:= #[t,t]}) (hx:ev l x=some (.slice ao m cap)) (hy:ev l y=some (.slice r k c)) (hi:h[i]? =some (sq ao m cap e sz xs)) (he:El P t e z sz d)
  (hl:b.length=k*sz) (f:∀w,CX w0 b_ h w->∀j u,b[j]? =some u->∃ad,r=some ad/\w.cell? (ad.add j)=some u) (h1:∀u∈b,EL u=true) (A:m+k<=maxLen) (hb:(m+k)*d<=140737488355328):
  LO P n w0 b_ h l o fun u h'=>∃p g,u= .slice p (m+k) g/\h'=h.set i (sq p (m+k) g e sz (xs++b)):=by
 by_cases hk:k=0
 ·subst hk
  have hn:b=[]:=Bv (by simpa using hl)
  subst hn
  obtain⟨E,q,F,D,G⟩:=he.row
  refine Zf (s:=Builtin.append_ #[t,t] o.type #[.slice ao m cap,.slice r 0 c]) (fun a hf=>?_) fun w hw=>?_
  ·unfold execOp
   simp only[ho,resolve,List.map_toArray,List.map_cons,List.map_nil,hf.eval hx,hf.eval hy]
   rfl
  ·have hr:=hw.mine _ (Aj hi)
   have hmc:m<=cap:=by
    rcases hr.2 with ⟨_,e1,e2⟩|⟨_,_,_,_,e1,_⟩
    ·omega
    ·exact e1
   refine⟨_,w,_,SU he.sl (by rw[q];simpa using D) hmc,⟨ao,cap,by rw[Nat.add_zero],rfl⟩,?_⟩
   rw[AH,Nat.add_zero,setSelf hi]
   exact hw
 ·cases r with
  |none=>
   intro a w hf hw
   obtain⟨u,C⟩:∃u,b[0]? =some u:=⟨_,Ae (by rw[hl];exact Nat.mul_pos (by omega) he.pos)⟩
   obtain⟨ad,e,_⟩:=f w hw 0 u C
   cases e
  |some ad=>exact LO.append i b ho hx hy hi he hl (fun w hw j u hj=>by obtain⟨B,e,hc⟩:=f w hw j u hj;cases e;exact hc) h1 A hb
end
structure Fm(P:Program)(kt:TypeId){K:Type}(mk:K->Value):Prop where
 inj:∀a b,mk a=mk b->a=b
 check:∀w em k,(Instr.checkKey em 10000 kt (mk k)).run P w= .ok () w
 find:∀w (k:K) (es:List MapEntry),(∀e∈es,∃k',e.key=mk k')->
  ((Instr.findKey kt (mk k) es).run P w= .ok none w/\∀e∈es,e.key≠mk k)∨∃j e,(Instr.findKey kt (mk k) es).run P w= .ok (some (j,e.val)) w/\es[j]? =some e/\e.key=mk k
 stays:∀w k,(Instr.keyThatStays (mk k) (mk k)).run P w= .ok (mk k) w
def GB(q:IntKind)(i:Int):Value:=.int q i
theorem LM(q:IntKind)(k:Int):∀(es:List MapEntry) (i:Nat),(∀e∈es,∃k',e.key=GB q k')->
  (Instr.findNow (.int q) (GB q k) es i=some none/\∀e∈es,e.key≠GB q k)∨∃j e,Instr.findNow (.int q) (GB q k) es i=some (some (i+j,e.val))/\es[j]? =some e/\e.key=GB q k
 |[],i,_=>.inl ⟨rfl,by simp⟩
 |e::es,i,h=>by
  obtain⟨k',b⟩:=h e (by simp)
  by_cases c:k=k'
  ·subst c
   refine .inr ⟨0,e,?_,rfl,b⟩
   unfold Instr.findNow
   rw[b]
   simp[Instr.sameNow,GB]
  ·have hne:e.key≠GB q k:=by rw[b];simp only[GB,ne_eq,Value.int.injEq,true_and];exact fun h=>c h.symm
   have hstep:Instr.findNow (.int q) (GB q k) (e::es) i=Instr.findNow (.int q) (GB q k) es (i+1):=by
    conv=>lhs;unfold Instr.findNow
    rw[b]
    have hb:(k == k')=false:=by simp[c]
    simp only[Instr.sameNow,GB,if_true,hb]
   rw[hstep]
   rcases LM q k es (i+1) (fun e he=>h e (by simp[he]))with ⟨h1,h2⟩|⟨j,d,h1,h2,h3⟩
   ·exact .inl ⟨h1,fun x hx=>by rcases AW.1 hx with rfl|hx;exact hne;exact h2 x hx⟩
   ·exact .inr ⟨j+1,d,by rw[h1];congr 3;omega,h2,h3⟩
theorem Kl{P:Program}{d:TypeId}{q:IntKind}(c:P.underlying d=some (.int q)):Fm P d (GB q) where
 inj:=fun a b h=>by simpa [GB] using h
 check:=fun w f k=>by
  unfold Instr.checkKey
  rw[Ak,Cz c,Ai]
  rfl
 find:=fun w k es h=>by
  unfold Instr.findKey
  rw[Ak,Cz c,Ai]
  rcases LM q k es 0 h with ⟨h1,h2⟩|⟨j,e,h1,h2,h3⟩
  ·rw[h1];exact .inl ⟨rfl,h2⟩
  ·rw[h1,AE];exact .inr ⟨j,e,rfl,h2,h3⟩
 stays:=fun w k=>by
  unfold Instr.keyThatStays
  rw[Ah (by simp[Instr.sameBits,GB])]
  rfl
def Mp{K:Type}(mk:K->Value)(es:List MapEntry)(f:K->Option Value):Prop:=
 (∀e∈es,∃k,e.key=mk k)/\es.Pairwise (fun a b=>a.key≠b.key)/\∀k v,f k=some v↔∃e∈es,e.key=mk k/\e.val=v
def Pi{K:Type}(mk:K->Value)(b:Nat)(f:K->Option Value):CW:=
 ⟨[b],fun H=>∃es c_,H b=some (.map es c_)/\Mp mk es.toList f/\MapKept.Stamped es c_,fun H c hh ⟨es,c_,h1,h2⟩=>⟨es,c_,by rw[hh b (by simp)];exact h1,h2⟩,
  fun H ⟨es,c_,h1,_⟩ i hi=>by rw[Ap.1 hi,h1];simp⟩
theorem Mp.nil{K:Type}(mk:K->Value):Mp mk [] (fun _=>none):=⟨by simp,.nil,by simp⟩
section
variable {K:Type}{mk:K->Value}{es:List MapEntry}{f:K->Option Value}
theorem Mp.here(hm:Mp mk es f){k:K}{e:MapEntry}(he:e∈es)(hk:e.key=mk k):f k=some e.val:=(hm.2.2 k e.val).2 ⟨e,he,hk,rfl⟩
theorem Mp.gone(hm:Mp mk es f){k:K}(hk:∀e∈es,e.key≠mk k):f k=none:=by
 cases h:f k with
 |none=>rfl
 |some v=>obtain⟨e,he,h1,_⟩:=(hm.2.2 k v).1 h;exact absurd h1 (hk e he)
theorem Jz{es:List MapEntry}{j:Nat}{e0 x:MapEntry}{g:MapEntry->MapEntry}(hj:es[j]? =some e0)(hp:es.Pairwise (fun a b=>a.key≠b.key))(hg:(g e0).key=e0.key):
  x∈es.modify j g↔x=g e0∨(x∈es/\x.key≠e0.key):=by
 induction es generalizing j with
 |nil=>cases hj
 |cons y es ih=>
  obtain⟨h1,h2⟩:=List.pairwise_cons.1 hp
  cases j with
  |zero=>
   simp at hj;subst hj
   simp only[List.modify_zero_cons,List.mem_cons]
   constructor
   ·rintro(rfl|hx)
    ·exact .inl rfl
    ·exact .inr ⟨.inr hx,fun e=>h1 x hx e.symm⟩
   ·rintro(rfl|⟨rfl|hx,hne⟩)
    ·exact .inl rfl
    ·exact absurd rfl hne
    ·exact .inr hx
  |succ j=>
   have c:es[j]? =some e0:=by simpa using hj
   simp only[List.modify_succ_cons,List.mem_cons,ih c h2]
   have d:y.key≠e0.key:=h1 e0 (Aj c)
   constructor
   ·rintro(rfl|rfl|⟨hx,hne⟩)
    ·exact .inr ⟨.inl rfl,d⟩
    ·exact .inl rfl
    ·exact .inr ⟨.inr hx,hne⟩
   ·rintro(rfl|⟨rfl|hx,hne⟩)
    ·exact .inr (.inl rfl)
    ·exact .inl rfl
    ·exact .inr (.inr ⟨hx,hne⟩)
theorem TD{es:List MapEntry}{j:Nat}{e0:MapEntry}{g:MapEntry->MapEntry}(hj:es[j]? =some e0)(hp:es.Pairwise (fun a b=>a.key≠b.key))(hg:(g e0).key=e0.key):
  (es.modify j g).Pairwise (fun a b=>a.key≠b.key):=by
 induction es generalizing j with
 |nil=>cases hj
 |cons y es ih=>
  obtain⟨h1,h2⟩:=List.pairwise_cons.1 hp
  cases j with
  |zero=>
   simp at hj;subst hj
   rw[List.modify_zero_cons]
   exact List.pairwise_cons.2 ⟨fun x hx=>by rw[hg];exact h1 x hx,h2⟩
  |succ j=>
   have c:es[j]? =some e0:=by simpa using hj
   rw[List.modify_succ_cons]
   refine List.pairwise_cons.2 ⟨fun x hx=>?_,ih c h2⟩
   rcases (Jz c h2 hg).1 hx with rfl|⟨hx,_⟩
   ·rw[hg];exact h1 e0 (Aj c)
   ·exact h1 x hx
variable [DecidableEq K]
def EG(f:K->Option Value)(k:K)(v:Option Value):K->Option Value:=fun t=>if t=k then v else f t
theorem Mp.modify(hm:Mp mk es f)(c:∀a b,mk a=mk b->a=b){j:Nat}{e0:MapEntry}{k:K}(hj:es[j]? =some e0)(hk:e0.key=mk k)(v:Value){g:MapEntry->MapEntry}(hg:∀e,(g e).key=mk k/\(g e).val=v):
  Mp mk (es.modify j g) (EG f k (some v)):=by
 obtain⟨m1,m2,m3⟩:=hm
 have d:(g e0).key=e0.key:=by rw[(hg e0).1,hk]
 refine⟨fun e he=>?_,TD hj m2 d,fun t u=>?_⟩
 ·rcases (Jz hj m2 d).1 he with rfl|⟨he,_⟩
  ·exact⟨k,(hg e0).1⟩
  ·exact m1 e he
 ·simp only[Jz hj m2 d,EG]
  by_cases e:t=k
  ·subst e
   rw[Ah rfl]
   constructor
   ·rintro h;cases h;exact⟨_,.inl rfl,(hg e0).1,(hg e0).2⟩
   ·rintro⟨e,rfl|⟨_,hne⟩,h1,h2⟩
    ·rw[<-h2,(hg e0).2]
    ·exact absurd (h1.trans hk.symm) hne
  ·rw[Aa e,m3 t u]
   constructor
   ·rintro⟨x,hx,h1,h2⟩
    exact⟨x,.inr ⟨hx,fun h=>e (c _ _ (by rw[<-h1,h,hk]))⟩,h1,h2⟩
   ·rintro⟨x,rfl|⟨hx,_⟩,h1,h2⟩
    ·exact absurd (c _ _ ((hg e0).1.symm.trans h1)).symm e
    ·exact⟨x,hx,h1,h2⟩
theorem Mp.push(hm:Mp mk es f)(c:∀a b,mk a=mk b->a=b){k:K}(hk:∀e∈es,e.key≠mk k){x:MapEntry}(hx:x.key=mk k):Mp mk (es++[x]) (EG f k (some x.val)):=by
 obtain⟨m1,m2,m3⟩:=hm
 refine⟨fun e he=>?_,List.pairwise_append.2 ⟨m2,List.pairwise_singleton _ _,fun a ha b hb=>?_⟩,fun t u=>?_⟩
 ·rcases AC.1 he with he|he
  ·exact m1 e he
  ·exact⟨k,by rw[Ap.1 he,hx]⟩
 ·rw[Ap.1 hb,hx];exact hk a ha
 ·simp only[List.mem_append,List.mem_singleton,EG]
  by_cases e:t=k
  ·subst e
   rw[Ah rfl]
   constructor
   ·rintro h;cases h;exact⟨x,.inr rfl,hx,rfl⟩
   ·rintro⟨y,hy|rfl,h1,h2⟩
    ·exact absurd h1 (hk y hy)
    ·rw[h2]
  ·rw[Aa e,m3 t u]
   constructor
   ·rintro⟨y,hy,h1,h2⟩;exact⟨y,.inl hy,h1,h2⟩
   ·rintro⟨y,hy|rfl,h1,h2⟩
    ·exact⟨y,hy,h1,h2⟩
    ·exact absurd (c _ _ (hx.symm.trans h1)).symm e
theorem Pu{es:List MapEntry}{j:Nat}{e0 x:MapEntry}(hj:es[j]? =some e0)(hp:es.Pairwise (fun a b=>a.key≠b.key)):x∈es.eraseIdx j↔(x∈es/\x.key≠e0.key):=by
 induction es generalizing j with
 |nil=>cases hj
 |cons y es ih=>
  obtain⟨h1,h2⟩:=List.pairwise_cons.1 hp
  cases j with
  |zero=>
   simp at hj;subst hj
   rw[List.eraseIdx_zero,List.tail_cons]
   simp only[List.mem_cons]
   constructor
   ·exact fun hx=>⟨.inr hx,fun e=>h1 x hx e.symm⟩
   ·rintro⟨rfl|hx,hne⟩
    ·exact absurd rfl hne
    ·exact hx
  |succ j=>
   have c:es[j]? =some e0:=by simpa using hj
   have d:y.key≠e0.key:=h1 e0 (Aj c)
   rw[List.eraseIdx_cons_succ]
   simp only[List.mem_cons,ih c h2]
   constructor
   ·rintro(rfl|⟨hx,hne⟩)
    ·exact⟨.inl rfl,d⟩
    ·exact⟨.inr hx,hne⟩
   ·rintro⟨rfl|hx,hne⟩
    ·exact .inl rfl
    ·exact .inr ⟨hx,hne⟩
theorem Mp.erase(hm:Mp mk es f)(c:∀a b,mk a=mk b->a=b){j:Nat}{e0:MapEntry}{k:K}(hj:es[j]? =some e0)(hk:e0.key=mk k):Mp mk (es.eraseIdx j) (EG f k none):=by
 obtain⟨m1,m2,m3⟩:=hm
 refine⟨fun e he=>m1 e ((Pu hj m2).1 he).1,m2.sublist (List.eraseIdx_sublist _ _),fun t u=>?_⟩
 simp only[Pu hj m2,EG]
 by_cases e:t=k
 ·subst e
  rw[Ah rfl]
  constructor
  ·intro h;cases h
  ·rintro⟨y,⟨_,hne⟩,h1,_⟩;exact absurd (h1.trans hk.symm) hne
 ·rw[Aa e,m3 t u]
  constructor
  ·rintro⟨y,hy,h1,h2⟩;exact⟨y,⟨hy,fun h=>e (c _ _ (by rw[<-h1,h,hk]))⟩,h1,h2⟩
  ·rintro⟨y,⟨hy,_⟩,h1,h2⟩;exact⟨y,hy,h1,h2⟩
theorem Mp.absent(hm:Mp mk es f){k:K}(hk:∀e∈es,e.key≠mk k):Mp mk es (EG f k none):=by
 refine⟨hm.1,hm.2.1,fun t u=>?_⟩
 unfold EG
 by_cases e:t=k
 ·subst e
  rw[Ah rfl,<-hm.2.2,hm.gone hk]
 ·rw[Aa e];exact hm.2.2 t u
end
section
variable {P:Program}{n:Nat}{w0:World}{b_:N_}{l:Dh}{h hs:Mem}{o:Oper}{v:Value}
theorem EE{w:World}{b c_:Nat}{es:Array MapEntry}(hb:hf w b=some (.map es c_)):(getObj b).run P w= .ok (.map es c_) w:=by
 have:w.heap[b]? =some (.map es c_):=hb
 simp[getObj,Sem.run,this]
theorem Er{w:World}{b c_:Nat}{es:Array MapEntry}(hb:hf w b=some (.map es c_))(ob:Obj):(setObj b ob).run P w= .ok () {w with heap:=w.heap.setIfInBounds b ob}:=by
 have:w.heap[b]? =some (.map es c_):=hb
 simp[setObj,Sem.run,this]
theorem LO.makeMap{T:TypeId}{K:Type}(mk:K->Value)(ho:o.op= .makeMap T none):LO P n w0 b_ h l o fun u h'=>∃b,u= .map (some b)/\h'=h++[Pi mk b (fun _=>none)]:=
 Zf (s:=Instr.makeMap T none) (fun a hf=>by unfold execOp;simp only[ho,Option.map_none]) fun w c=>by
  refine⟨_,_,_,rfl,⟨w.heap.size,rfl,rfl⟩,?_⟩
  exact c.new _ _ rfl ⟨#[],0,(show(w.heap.push _)[w.heap.size]? =_ from BE),Mp.nil mk,MapKept.stamped_empty 0⟩
theorem NM{K:Type}{mk:K->Value}{T h e:TypeId}{w:World}{b:Nat}{f:K->Option Value}{k:K}{z:Value}(hr:Fm P h mk)(l:P.underlying T=some (.map h e))(hz:(P.info? e).bind (·.zero)=some z)(hb:(Pi mk b f).P (hf w))(ok:Bool):
  (Instr.lookup T (.map (some b)) (mk k) ok).run P w= .ok (if ok then .tuple [(f k).getD z,.bool (f k).isSome].toArray else (f k).getD z) w:=by
 obtain⟨es,c_,c,hm,_⟩:=hb
 unfold Instr.lookup
 rw[Ak,Cz l,Ai]
 show(getObj b >>= fun ob=>_:Sem Value).run P w=_
 rw[Ak,EE c,Ai]
 show(Instr.checkKey es.isEmpty 10000 h (mk k) >>= fun _=>_:Sem Value).run P w=_
 rw[Ak,hr.check,Ai,Ak]
 rcases hr.find w k es.toList hm.1 with ⟨h1,h2⟩|⟨j,x,h1,h2,h3⟩
 ·rw[h1,Ai,hm.gone h2]
  cases hi:P.info? e with
  |none=>rw[hi]at hz;cases hz
  |some i=>
   rw[hi]at hz
   have d:i.zero=some z:=hz
   have g:(zeroValue e).run P w= .ok z w:=by simp[zeroValue,typeInfo,program,Sem.run,hi,d,Bind.bind,Sem.bind,Pure.pure]
   simp only[Sem.run_bind,g,Result.andThen_ok]
   cases ok<;>rfl
 ·rw[h1,Ai,hm.here (Aj h2) h3]
  cases ok<;>rfl
theorem Ct.lookup2{x y:Operand}{K:Type}{mk:K->Value}{T c e:TypeId}{b:Nat}{f:K->Option Value}{z:Value}(i:Nat)(k:K)(hr:Fm P c mk)(ho:o.op= .lookup T x y true)(hx:ev l x=some (.map (some b)))(hy:ev l y=some (mk k))
  (hi:hs[i]? =some (Pi mk b f)) (g:P.underlying T=some (.map c e)) (hz:(P.info? e).bind (·.zero)=some z):Ct P n w0 b_ hs l o (.tuple [(f k).getD z,.bool (f k).isSome].toArray):=
 Ct.of (s:=Instr.lookup T (.map (some b)) (mk k) true) (fun a hf=>by unfold execOp;simp only[ho,hf.eval hx,hf.eval hy]) fun w d=>NM hr g hz (d.mine _ (List.mem_of_getElem? hi)) true
theorem Ct.lookup1{x y:Operand}{K:Type}{mk:K->Value}{T c e:TypeId}{b:Nat}{f:K->Option Value}{z:Value}(i:Nat)(k:K)(hr:Fm P c mk)(ho:o.op= .lookup T x y false)(hx:ev l x=some (.map (some b)))(hy:ev l y=some (mk k))
  (hi:hs[i]? =some (Pi mk b f)) (g:P.underlying T=some (.map c e)) (hz:(P.info? e).bind (·.zero)=some z):Ct P n w0 b_ hs l o ((f k).getD z):=
 Ct.of (s:=Instr.lookup T (.map (some b)) (mk k) false) (fun a hf=>by unfold execOp;simp only[ho,hf.eval hx,hf.eval hy]) fun w d=>NM hr g hz (d.mine _ (List.mem_of_getElem? hi)) false
theorem Jc(w:World)(b:Nat)(ob:Obj)(hb:b<w.heap.size):hf {w with heap:=w.heap.setIfInBounds b ob}=fun k=>if k=b then some ob else hf w k:=by
 funext k
 simp only[hf,Array.getElem?_setIfInBounds]
 by_cases e:k=b
 ·subst e;simp[hb]
 ·rw[Aa (Ne.symm e),Aa e]
theorem hf_lt{w:World}{b:Nat}{ob:Obj}(hb:hf w b=some ob):b<w.heap.size:=by
 rcases Ca b w.heap.size with h1|h1
 ·exact h1
 ·rw[show hf w b=none from Bz h1]at hb;cases hb
theorem CX.setMap{K:Type}{mk:K->Value}{f c:K->Option Value}{w:World}(ho:CX w0 b_ h w){i b c_ c_':Nat}{es es':Array MapEntry}(hi:h[i]? =some (Pi mk b f))(hb:hf w b=some (.map es c_))(hm:Mp mk es'.toList c)(hst:MapKept.Stamped es' c_'):
  CX w0 b_ (h.set i (Pi mk b c)) {w with heap:=w.heap.setIfInBounds b (.map es' c_')}:=by
 have hlt:=hf_lt hb
 have hh:=Jc w b (.map es' c_') hlt
 refine ho.set hi rfl rfl rfl rfl (by simp) (fun k hk=>?_) ⟨es',c_',by rw[hh];simp,hm,hst⟩
 have:=congrFun hh k
 simp only[hf]at this
 rw[this,Aa (fun e=>hk (by simp[Pi,e]))]
variable {K:Type}[DecidableEq K]{mk:K->Value}
theorem LO.mapUpdate{m x y:Operand}{T s e:TypeId}{b:Nat}{f:K->Option Value}(i:Nat)(k:K)(hr:Fm P s mk)(ho:o.op= .mapUpdate T m x y)(hm:ev l m=some (.map (some b)))(hx:ev l x=some (mk k))(hy:ev l y=some v)
  (hi:h[i]? =some (Pi mk b f)) (t:P.underlying T=some (.map s e)):LO P n w0 b_ h l o fun u h'=>u=undef/\h'=h.set i (Pi mk b (EG f k (some v))):=by
 intro a w d hw A Q hk
 obtain⟨es,c_,c,g,hst⟩:=hw.mine _ (Aj hi)
 obtain⟨es',c_',hrun,q,r⟩:∃es' c_',(Instr.mapUpdate T (.map (some b)) (mk k) v).run P w= .ok () {w with heap:=w.heap.setIfInBounds b (.map es' c_')}/\Mp mk es'.toList (EG f k (some v))/\MapKept.Stamped es' c_':=by
  unfold Instr.mapUpdate
  rw[Ak,Cz t,Ai]
  show ∃es' c_',(getObj b >>= fun ob=>_:Sem Unit).run P w=_/\_
  rw[Ak,EE c,Ai]
  show ∃es' c_',(Instr.checkKey false 10000 s (mk k) >>= fun _=>_:Sem Unit).run P w=_/\_
  rw[Ak,hr.check,Ai,Ak]
  rcases hr.find w k es.toList g.1 with ⟨h1,h2⟩|⟨j,x',h1,h2,h3⟩
  ·rw[h1,Ai]
   refine⟨es.push {key:=mk k,val:=v,born:=c_},c_+1,Er c _,?_,MapKept.stamped_push hst h2⟩
   rw[Array.toList_push]
   exact g.push hr.inj h2 rfl
  ·rw[h1,Ai]
   have p:es[j]? =some x':=by rw[<-Bi];exact h2
   simp only[p,Option.map_some,Option.getD_some,h3]
   refine⟨es.modify j fun e=>{e with key:=mk k,val:=v},c_,?_,?_,MapKept.stamped_modify hst j _ (fun _ _=>rfl) (fun e _ he=>by rw[p]at he;cases he;exact h3.symm)⟩
   ·rw[Ak,hr.stays,Ai]
    exact Er c _
   ·rw[Array.toList_modify]
    exact g.modify hr.inj h2 h3 v fun _=>⟨rfl,rfl⟩
 unfold Oper.wp
 have:(execOp a.eval o).run P w= .ok .skip {w with heap:=w.heap.setIfInBounds b (.map es' c_')}:=by
  unfold execOp
  simp only[ho,d.eval hm,d.eval hx,d.eval hy]
  show((Instr.mapUpdate T (.map (some b)) (mk k) v >>= fun _=>Pure.pure Next.skip):Sem Next).run P w=_
  rw[Ak,hrun]
  rfl
 rw[this]
 exact hk undef _ _ ⟨rfl,rfl⟩ (hw.setMap hi c q r)
theorem Qbe{m x:Operand}{T p e:TypeId}{b:Nat}{f:K->Option Value}(i:Nat)(k:K)(hr:Fm P p mk)(ho:o.op= .call {callee:=.builtin .delete,args:= #[m,x],argTypes:= #[T,p]})(hm:ev l m=some (.map (some b)))(hx:ev l x=some (mk k))
  (hi:h[i]? =some (Pi mk b f)) (t:P.underlying T=some (.map p e)):LO P n w0 b_ h l o fun u h'=>u= .tuple #[]/\h'=h.set i (Pi mk b (EG f k none)):=by
 refine Zf (s:=Builtin.delete_ #[T,p] o.type #[.map (some b),mk k]) (fun a hf=>by
  unfold execOp
  simp only[ho,resolve,List.map_toArray,List.map_cons,List.map_nil,hf.eval hm,hf.eval hx]
  rfl) fun w hw=>?_
 obtain⟨es,c_,c,g,hst⟩:=hw.mine _ (Aj hi)
 obtain⟨es',hrun,q,r⟩:∃es',(Builtin.delete_ #[T,p] o.type #[.map (some b),mk k]).run P w= .ok (.tuple #[]) {w with heap:=w.heap.setIfInBounds b (.map es' c_)}/\Mp mk es'.toList (EG f k none)/\MapKept.Stamped es' c_:=by
  unfold Builtin.delete_
  show ∃es',(underlying T >>= fun d=>_:Sem Value).run P w=_/\_
  rw[Ak,Cz t,Ai]
  show ∃es',(getObj b >>= fun ob=>_:Sem Value).run P w=_/\_
  rw[Ak,EE c,Ai]
  show ∃es',(Instr.checkKey es.isEmpty 10000 p (mk k) >>= fun _=>_:Sem Value).run P w=_/\_
  rw[Ak,hr.check,Ai,Ak]
  show ∃es',((Instr.findKey p (mk k) es.toList).run P w).andThen _=_/\_
  rcases hr.find w k es.toList g.1 with ⟨h1,h2⟩|⟨j,x',h1,h2,h3⟩
  ·rw[h1,Ai]
   refine⟨es,?_,g.absent h2,hst⟩
   show(setObj b _ >>= fun _=>_:Sem Value).run P w=_
   rw[Ak,Er c]
   rfl
  ·rw[h1,Ai]
   refine⟨es.eraseIdxIfInBounds j,?_,?_,MapKept.stamped_erase hst j⟩
   ·show(setObj b _ >>= fun _=>_:Sem Value).run P w=_
    rw[Ak,Er c]
    rfl
   ·have hj:j<es.size:=by have:=(Ab.1 h2).1;simpa using this
    have:(es.eraseIdxIfInBounds j).toList=es.toList.eraseIdx j:=by
     unfold Array.eraseIdxIfInBounds
     rw[dif_pos hj,Array.toList_eraseIdx]
    rw[this]
    exact g.erase hr.inj h2 h3
 exact⟨_,_,_,hrun,⟨rfl,rfl⟩,hw.setMap hi c q r⟩
end
def iv(xs:List Int):V_:=xs.map (Value.int .i64)
section
variable {P:Program}{n:Nat}{w0:World}{b_:N_}{l:Dh}{h hs:Mem}{o:Oper}{v:Value}
theorem ZO{t t' e:TypeId}{x y:Operand}{a:A_}{len cap:Nat}(ho:o.op= .binOp .eql t x y t')(hx:ev l x=some (.slice a len cap))(hy:ev l y=some (.slice none 0 0))(b:P.underlying t=some (.slice e)):Ct P n w0 b_ hs l o (.bool a.isNone):=
 Ct.of (s:=(do eqGuard .eql t x y (.slice a len cap) (.slice none 0 0);binOp .eql t (.slice a len cap) (.slice none 0 0))) (fun a hf=>by unfold execOp;simp only[ho,hf.eval hx,hf.eval hy]) fun w _=>by
  have hg:eqGuard .eql t x y (.slice a len cap) (.slice none 0 0)=Pure.pure ():=by unfold eqGuard;rfl
  rw[hg,Ak]
  show(binOp .eql t (.slice a len cap) (.slice none 0 0)).run P w=_
  simp[binOp,run_equal_slice_nil w t e a len cap b]
end
section
variable {P:Program}{n:Nat}{w0:World}{b_:N_}{l:Dh}{h hs:Mem}{o:Oper}{v:Value}
theorem Yc(cs:V_):∀(i:Nat) (b:Array Value),(cs.zipIdx i).foldl (fun b (p:Value×Nat)=>b.setIfInBounds (0+p.2) p.1) b=putCells b i cs:=by
 induction cs with
 |nil=>intro i b;rfl
 |cons c cs ih=>
  intro i b
  rw[List.zipIdx_cons,BX,ih (i+1)]
  simp[putCells]
theorem Mj{T e:TypeId}{s:Nat}{z:Value}{w:World}(c:P.underlying T=some (.slice e))(hi:(P.info? e).map (fun i=>(i.zero,i.size))=some (some z,s+1))(hsm:s+1<=2 ^ 24)(hv:v.cells.size=s+1):
  (Instr.buildSlice T 1 #[(0,v)]).run P w= .ok (.slice (some ⟨w.heap.size,0,none⟩) 1 1) {w with heap:=w.heap.push (.cells v.cells e)}:=by
 cases hie:P.info? e with
 |none=>rw[hie]at hi;cases hi
 |some i=>
  rw[hie]at hi
  simp only[Option.map_some,Option.some.injEq,Prod.mk.injEq]at hi
  obtain⟨h1,h2⟩:=hi
  have hsz:(P.info? e).map (·.size)=some (s+1):=by rw[hie];simp[h2]
  have hz:(zeroValue e).run P w= .ok z w:=by simp[zeroValue,typeInfo,program,Sem.run,hie,h1,Bind.bind,Sem.bind,Pure.pure]
  unfold Instr.buildSlice
  rw[Ak,Cz c,Ai]
  show(sizeOf e >>= fun _=>_:Sem Value).run P w=_
  rw[Ak,run_sizeOf hsz,Ai]
  have h0:¬1*(s+1)>2 ^ 24:=by omega
  have hne:¬1*(s+1)=0:=by omega
  simp only[h0,if_false,hne,Sem.run_bind,hz,Result.andThen_ok,Sem.run_pure]
  have b:Instr.fill (fun i=>some (i*(s+1),s+1)) ((Array.range (1*(s+1))).map (z.cells[·% z.cells.size]!)) [(0,v)]=some v.cells:=by
   unfold Instr.fill
   have hc:¬((v.cells.size≠s+1 || 0*(s+1)+v.cells.size>((Array.range (1*(s+1))).map (z.cells[·% z.cells.size]!)).size)=true):=by simp[hv]
   simp only[hc]
   unfold Instr.fill
   show some _=some _
   congr 1
   rw[Nat.zero_mul]
   have:=Yc v.cells.toList 0 ((Array.range (1*(s+1))).map (z.cells[·% z.cells.size]!))
   rw[JL _ _ (by simp[hv])]at this
   rw[<-Array.foldl_toList,Array.toList_zipIdx]
   exact this
  rw[b]
  rfl
theorem QaL{T e:TypeId}{s:Nat}{z:Value}{x:Operand}(ho:o.op= .buildSlice T 1 #[(0,x)])(hx:ev l x=some v)(c:P.underlying T=some (.slice e))(hi:(P.info? e).map (fun i=>(i.zero,i.size))=some (some z,s+1))(hsm:Nat.ble (s+1) 16777216=true)(hv:v.cells.size=s+1):
  LO P n w0 b_ h l o fun u h'=>∃b,u= .slice (some ⟨b,0,none⟩) 1 1/\h'=h++[blk b (.cells v.cells e (0,0))]:=
 LO.buildSlice (ps:=[(0,x)]) (vs:=[(0,v)]) (cs:=v.cells) (e:=e) ho (by simp[hx]) fun w=>Mj c hi (by simpa using hsm) hv
theorem Mk{T e:TypeId}{s:Nat}{w:World}(b:P.underlying T=some (.slice e))(hi:(P.info? e).map (·.size)=some s):
  (Instr.buildSlice T 0 #[]).run P w= .ok (.slice (some ⟨w.heap.size,0,none⟩) 0 0) {w with heap:=w.heap.push (.cells #[] e)}:=by
 unfold Instr.buildSlice
 rw[Ak,Cz b,Ai]
 show(sizeOf e >>= fun _=>_:Sem Value).run P w=_
 rw[Ak,run_sizeOf hi,Ai]
 have h0:¬0*s>2 ^ 24:=by omega
 have hne:0*s=0:=by omega
 rw[Aa h0]
 simp only[hne,if_true,Sem.run_bind,Sem.run_pure,Result.andThen_ok,show Array.range 0= #[] from rfl,List.map_toArray,List.map_nil]
 rfl
theorem ZG{T e:TypeId}{s:Nat}(ho:o.op= .buildSlice T 0 #[])(c:P.underlying T=some (.slice e))(hi:(P.info? e).map (·.size)=some s):
  LO P n w0 b_ h l o fun u h'=>∃b,u= .slice (some ⟨b,0,none⟩) 0 0/\h'=h++[sq (some ⟨b,0,none⟩) 0 0 e s []]:=by
 refine Zf (s:=Instr.buildSlice T 0 #[]) (fun a hf=>by unfold execOp;simp only[ho,List.map_toArray,List.map_nil]) fun w hw=>?_
 refine⟨_,_,_,Mk c hi,⟨w.heap.size,rfl,rfl⟩,?_⟩
 refine hw.new _ _ rfl ⟨by simp,.inr ⟨w.heap.size, #[],rfl,(show(w.heap.push _)[w.heap.size]? =_ from BE),Al _,Af _,by simp,by simp⟩⟩
end
inductive FG {α:Type}:List α->Nat->α->Prop
 |head {a:α} {l:List α}:FG (a::l) 0 a
 |tail {a b:α} {l:List α} {i:Nat}:FG l i a->FG (b::l) (i+1) a
theorem at0{α:Type}{a:α}{l:List α}:FG (a::l) 0 a:=.head
theorem at1{α:Type}{b a:α}{l:List α}:FG (b::a::l) 1 a:=.tail .head
theorem at2{α:Type}{b b1 a:α}{l:List α}:FG (b::b1::a::l) 2 a:=.tail (.tail .head)
theorem at3{α:Type}{b b1 b2 a:α}{l:List α}:FG (b::b1::b2::a::l) 3 a:=.tail (.tail (.tail .head))
theorem at4{α:Type}{b b1 b2 b3 a:α}{l:List α}:FG (b::b1::b2::b3::a::l) 4 a:=.tail (.tail (.tail (.tail .head)))
theorem at5{α:Type}{b b1 b2 b3 b4 a:α}{l:List α}:FG (b::b1::b2::b3::b4::a::l) 5 a:=.tail (.tail (.tail (.tail (.tail .head))))
theorem at6{α:Type}{b b1 b2 b3 b4 c a:α}{l:List α}:FG (b::b1::b2::b3::b4::c::a::l) 6 a:=.tail (.tail (.tail (.tail (.tail (.tail .head)))))
theorem at7{α:Type}{b b1 b2 b3 b4 c d a:α}{l:List α}:FG (b::b1::b2::b3::b4::c::d::a::l) 7 a:=.tail (.tail (.tail (.tail (.tail (.tail (.tail .head))))))
theorem at8{α:Type}{b b1 b2 b3 b4 c d e a:α}{l:List α}:FG (b::b1::b2::b3::b4::c::d::e::a::l) 8 a:=.tail (.tail (.tail (.tail (.tail (.tail (.tail (.tail .head)))))))
theorem at9{α:Type}{b b1 b2 b3 b4 c d e f a:α}{l:List α}:FG (b::b1::b2::b3::b4::c::d::e::f::a::l) 9 a:=.tail (.tail (.tail (.tail (.tail (.tail (.tail (.tail (.tail .head))))))))
theorem at10{α:Type}{b b1 b2 b3 b4 c d e f g a:α}{l:List α}:FG (b::b1::b2::b3::b4::c::d::e::f::g::a::l) 10 a:=.tail (.tail (.tail (.tail (.tail (.tail (.tail (.tail (.tail (.tail .head)))))))))
theorem at11{α:Type}{c b1 b2 b3 b4 d e f g h b a:α}{l:List α}:FG (c::b1::b2::b3::b4::d::e::f::g::h::b::a::l) 11 a:=.tail (.tail (.tail (.tail (.tail (.tail (.tail (.tail (.tail (.tail (.tail .head))))))))))
theorem at12{α:Type}{d b1 b2 b3 b4 e f g h i b c a:α}{l:List α}:FG (d::b1::b2::b3::b4::e::f::g::h::i::b::c::a::l) 12 a:=.tail (.tail (.tail (.tail (.tail (.tail (.tail (.tail (.tail (.tail (.tail (.tail .head)))))))))))
theorem FG.at{α:Type}{l:List α}{i:Nat}{a:α}(h:FG l i a):l[i]? =some a:=by
 induction h with
 |head=>rfl
 |tail _ ih=>exact ih
section
variable {P:Program}{n:Nat}{w0:World}{b_:N_}{l:Dh}{h hs:Mem}{o:Oper}{v:Value}
theorem Ct.ownV{x:Operand}{T:TypeId}{d:TypeDesc}{b off i:Nat}{cs:V_}{T':TypeId}{c:Nat×Nat}(ho:o.op= .load T x)(hx:ev l x=some (.pointer (some ⟨b,off,none⟩)))(hi:FG hs i (blk b (.cells cs.toArray T' c)))
  (e:P.underlying T=some d) (hd:ET d=false) (hc:nth cs off=some v):Ct P n w0 b_ hs l o v:=Ct.ownL i ho hx hi.at e hd hc
end
theorem sq_le{w:World}{ao:A_}{m cap T sz:Nat}{xs:V_}(h:(sq ao m cap T sz xs).P (hf w)):m<=cap/\m<=maxLen:=by
 rcases h.2 with ⟨_,e1,e2⟩|⟨_,_,_,_,e1,e2,_⟩
 ·subst e1 e2;exact⟨Al _,Af _⟩
 ·exact⟨e1,by omega⟩
section
variable {P:Program}{n:Nat}{w0:World}{b_:N_}{l:Dh}{h:Mem}{K:En}
theorem CQ{c:Code}(d:Nat)(X:Prop)[Decidable X](hc:TC P n w0 b_ c (K.then fun l' h'=>Ml l l'/\fnd l' d=some (.bool (decide X))/\h'=h) l h)(hk:K .normal ((d,.bool (decide X))::l) h):TC P n w0 b_ c K l h:=by
 intro a w hf ho
 refine wp_mono (hc a w hf ho) fun e g w' hq=>?_
 cases e with
 |normal=>
  obtain⟨l',h',b,f,hs,hd,rfl⟩:=hq
  exact⟨_,_,b.weak (l':=(d,.bool (decide X))::l) ⟨hd,hs⟩,f,hk⟩
 |_=>exact hq
def del(ds:N_):Dh->Dh
 |[]=>[]
 |(t,v)::r=>match ds.any (Nat.beq t)with
  |true=>del ds r
  |false=>(t,v)::del ds r
theorem Qz(ds:N_):∀(l:Dh) (t:Nat) (v:Value),fnd (del ds l) t=some v->ds.any (Nat.beq t)=false/\fnd l t=some v
 |[],t,v,h=>by cases h
 |(s,u)::r,t,v,h=>by
  rw[del]at h
  cases hs:ds.any (Nat.beq s)with
  |true=>
   rw[hs]at h
   obtain⟨h1,h2⟩:=Qz ds r t v h
   refine⟨h1,?_⟩
   rw[Gc,Aa (fun e=>by rw[e,h1]at hs;cases hs)]
   exact h2
  |false=>
   rw[hs]at h
   simp only[Gc]at h ⊢
   split at h
   ·rename_i e;subst e;exact⟨hs,by rw[Ah rfl];exact h⟩
   ·rename_i e;rw[Aa e];exact Qz ds r t v h
inductive Wz (ds:N_) (l:Dh):Dh->Prop
 |refl:Wz ds l l
 |cons {t:Nat} {v:Value} {r:Dh}:ds.any (Nat.beq t)=true->Wz ds l r->Wz ds l ((t,v)::r)
theorem Wz.fnd{ds:N_}{l l':Dh}(h:Wz ds l l'){t:Nat}{v:Value}(ht:ds.any (Nat.beq t)=false)(hv:Cru.fnd l t=some v):Cru.fnd l' t=some v:=by
 induction h with
 |refl=>exact hv
 |cons h1 _ ih=>
  rw[Gc,Aa (fun e=>by rw[e,ht]at h1;cases h1)]
  exact ih
theorem DX{c:Code}(ds:N_)(d:Nat)(X:Prop)[Decidable X](hc:TC P n w0 b_ c (K.then fun l' h'=>Wz ds l l'/\fnd l' d=some (.bool (decide X))/\h'=h) l h)(hk:K .normal ((d,.bool (decide X))::del ds l) h):TC P n w0 b_ c K l h:=by
 intro a w hf ho
 refine wp_mono (hc a w hf ho) fun e g w' hq=>?_
 cases e with
 |normal=>
  obtain⟨l',h',b,f,hs,hd,rfl⟩:=hq
  refine⟨_,_,⟨b.size,b.defers,fun t v ht=>?_⟩,f,hk⟩
  rw[Gc]at ht
  split at ht
  ·rename_i e;subst e;exact b.has _ _ (hd.trans ht)
  ·obtain⟨h1,h2⟩:=Qz ds l t v ht
   exact b.has t v (hs.fnd h1 h2)
 |_=>exact hq
theorem retCT{c:Func}{R:Value->Mem->Prop}{h0:Mem}{t u T:Nat}{d:TypeDesc}{s b:Nat}{cs:Array Value}{v2:Value}{T':TypeId}{e:Nat×Nat}(i:Nat)(hr:c.results= #[.cell t T,.tmp u])(ht:fnd l t=some (.pointer (some ⟨b,0,none⟩)))(k:fnd l u=some v2)(hi:h[i]? =some (blk b (.cells cs T' e)))
  (g:Ty P T d s) (hd:ET d=true) (hc:cs.size=s) (hs:h0.Sublist h) (f:R (.tuple #[.agg cs,v2]) h0):Hb P n w0 b_ c R .ret l h:=by
 refine⟨.tuple #[.agg cs,v2],fun a w hf ho=>?_,fun _ hw=>⟨h0,f,hw.drop hs⟩⟩
 have hl:(loadVar T ⟨b,0,none⟩).run P w= .ok (.agg cs.toList.toArray) w:=Fl g hd (by simpa using hc) fun j v hj=>by
  rw[add_lit,AE,(ho.sta fun _ h=>h).own hi]
  simpa using hj
 simp[results,hr,Array.getD_eq_getD_getElem?,hf.has t _ ht,hf.has u _ k,asAddr,hl]
theorem YX{P:Program}{n:Nat}{w0:World}{b_:N_}{l:Dh}{h:Mem}{o:Oper}{v:Value}(hs:Ct P n w0 b_ h l o v):LO P n w0 b_ h l o fun u h'=>u=v/\h'=h:=by
 intro a w hf ho K Q hk
 unfold Oper.wp
 rw[hs a w hf (ho.sta fun _ h=>h)]
 exact hk v w h ⟨rfl,rfl⟩ ho
theorem Kr{id:Nat}{ops:Array Oper}(hs:Mem)(b:∀r∈hs,r∈h)(hm:P.follows .mixedOrders=true)(c:Nat->Bool)(hk:(∀r∈hs,r∈h)->DL P n w0 b_ ops K hs c ops.size (Array.replicate ops.size false) l h):TC P n w0 b_ (.region id ops true) K l h:=
 fun a _ hf ho=>wp_region_any hm (QaX _ _ _ _ (hk b a _ hf (ho.drawn _)))
theorem Zt{N:Dh->Mem->Prop}(hn:N l h):(K.then N) .normal l h:=hn
theorem Ex{c l':Dh}{d:Nat}{X:Prop}[Decidable X]{u:Value}(hs:Ml c l':=by (repeat' (first|exact trivial|refine⟨rfl,?_⟩)))(e:fnd l' d=some u:=by exact rfl)(hv:u= .bool (decide X):=by first|exact congrArg Value.bool (AG (by omega)).symm|exact congrArg Value.bool (AX (by omega)).symm|exact congrArg Value.bool (AN.2 (by omega))|exact congrArg Value.bool (decide_not.symm.trans (AN.2 (by omega)))):(K.then fun a b=>Ml c a/\fnd a d=some (.bool (decide X))/\b=h) .normal l' h:=⟨hs,e.trans (congrArg some hv),rfl⟩
theorem Ku{ds:N_}{c l':Dh}{d:Nat}{X:Prop}[Decidable X]{u:Value}(hs:Wz ds c l':=by (repeat' (first|exact Wz.refl|refine Wz.cons rfl ?_)))(e:fnd l' d=some u:=by exact rfl)(hv:u= .bool (decide X):=by first|exact congrArg Value.bool (AG (by omega)).symm|exact congrArg Value.bool (AX (by omega)).symm|exact congrArg Value.bool (AN.2 (by omega))|exact congrArg Value.bool (decide_not.symm.trans (AN.2 (by omega)))):(K.then fun a b=>Wz ds c a/\fnd a d=some (.bool (decide X))/\b=h) .normal l' h:=⟨hs,e.trans (congrArg some hv),rfl⟩
theorem EW{c l':Dh}{d:Nat}{X:Prop}[Decidable X]{u:Value}(e:fnd l' d=some u)(hv:u= .bool (decide X))(hs:Ml c l':=by (repeat' (first|exact trivial|refine⟨rfl,?_⟩))):(K.then fun a b=>Ml c a/\fnd a d=some (.bool (decide X))/\b=h) .normal l' h:=⟨hs,e.trans (congrArg some hv),rfl⟩
theorem leX{ds:N_}{c l':Dh}{d:Nat}{X:Prop}[Decidable X]{u:Value}(e:fnd l' d=some u)(hv:u= .bool (decide X))(hs:Wz ds c l':=by (repeat' (first|exact Wz.refl|refine Wz.cons rfl ?_))):(K.then fun a b=>Wz ds c a/\fnd a d=some (.bool (decide X))/\b=h) .normal l' h:=⟨hs,e.trans (congrArg some hv),rfl⟩
end
abbrev FW:Fence:=Fence.wide
section
variable {P:Program}{n:Nat}{w0:World}{b_:N_}{l:Dh}{h hs:Mem}{o:Oper}{v:Value}{K:En}{rl m:Nat}
theorem UH{a:Act}{w:World}{N:Act->World->Prop}{Q:Exit->Act->World->Prop}(hd:∀c,o.op≠ .defer c)(h:o.wp P a w N Q):o.wpIn (FW.inRound rl) m P a w N Q:=by
 refine⟨fun f _=>trivial,?_⟩
 rw[Oper.semAt_eq _ _ _ hd]
 unfold Oper.wp at h
 cases hr:(execOp a.eval o).run P w with
 |ok b w'=>
  rw[hr]at h
  cases b with
  |value v=>exact h
  |skip=>exact h
  |defer d=>exact h
  |enter f args=>exact⟨fun hh=>(by cases hh),callsIn_wide.2 h⟩
  |row r args=>exact⟨fun hh=>(by cases hh),fun c cs _=>let ⟨v,w',r,s⟩:=h c cs;⟨v,w',r,stepsIn_wide.2 s⟩⟩
  |_=>exact h.elim
 |halt x w'=>
  rw[hr]at h
  cases x with
  |panic v=>exact h
  |_=>exact h.elim
def Gh(o:Oper):Bool:=match o.op with
 |.defer _=>false
 |_=>true
theorem Fp(h:Gh o=true):∀c,o.op≠ .defer c:=fun c e=>by unfold Gh at h;rw[e]at h;cases h
theorem QA{a:Act}{w:World}{N N':Act->World->Prop}{Q:Exit->Act->World->Prop}(hn:∀a w,N a w->N' a w)(h:o.wp P a w N Q):o.wp P a w N' Q:=by
 unfold Oper.wp at*
 cases hr:(execOp a.eval o).run P w with
 |ok c w'=>
  rw[hr]at h
  cases c with
  |value v=>exact hn _ _ h
  |skip=>exact hn _ _ h
  |defer d=>exact hn _ _ h
  |enter f args=>
   refine Calls.mono h fun e b k=>?_
   cases e<;>first|exact hn _ _ k|exact k
  |row r args=>exact Rows.mono h fun v b k=>hn _ _ k
  |_=>exact h.elim
 |halt x w'=>
  rw[hr]at h
  cases x with
  |panic v=>exact h
  |_=>exact h.elim
theorem Hv{ops:Array Oper}{Q:Exit->Act->World->Prop}(hq:∀a w,¬Q .outgrown a w):∀(rest:List Oper) (a:Act) (w:World),rest.all Gh=true->wpList P ops Q rest a w->wpListIn (FW.inRound rl) m P ops Q rest a w
 |[],_,_,_,h=>h
 |o::rest,a,w,hn,h=>by
  rw[List.all_cons]at hn
  obtain⟨h1,h2⟩:=Bool.and_eq_true_iff.1 hn
  unfold wpList at h
  unfold wpListIn
  split
  ·rename_i hw
   rw[Ah hw]at h
   rcases h with h|⟨_,b,w',h⟩
   ·refine UH (Fp h1) ?_
    exact QA (fun b w' k=>Hv hq rest b w' h2 k) h
   ·exact absurd h (hq b w')
  ·rename_i hw
   rw[Aa hw]at h
   exact⟨fun f _=>trivial,Hv hq rest _ _ h2 h⟩
variable (P n w0 b_ rl m) in
def VE(c:Code)(K:En)(l:Dh)(h:Mem):Prop:=
 ∀a w,Fr n l a->CX w0 b_ h w->c.wpIn (FW.inRound rl) m P (Jh n w0 b_ K) a w
theorem GK{id:Nat}{os:List Oper}(hn:os.all Gh=true)(hk:OL P n w0 b_ os.toArray (Jh n w0 b_ K) os l h):VE P n w0 b_ rl m (.region id os.toArray false) K l h:=
 fun a w hf ho=>wpIn_region_lit (Hv (fun _ _ hh=>hh) os a w hn (hk a w hf ho))
theorem Wm{x y:Code}(hx:VE P n w0 b_ rl m x (K.then (VE P n w0 b_ rl m y K)) l h):VE P n w0 b_ rl m (.seq x y) K l h:=by
 intro a w hf ho
 refine wpIn_seq (wpIn_mono (hx a w hf ho) fun e b w' hq=>?_)
 cases e with
 |normal=>obtain⟨l',h',h1,h2,h3⟩:=hq;exact h3 b w' h1 h2
 |_=>exact hq
theorem TCR_skip(hk:K .normal l h):VE P n w0 b_ rl m .skip K l h:=fun _ _ hf ho=>wpIn_skip ⟨l,h,hf,ho,hk⟩
theorem Oz{id:Nat}{c:Code}(hk:VE P n w0 b_ rl m c (K.inBlock id) l h):VE P n w0 b_ rl m (.block id c) K l h:=by
 intro a w hf ho
 refine wpIn_block (wpIn_mono (hk a w hf ho) fun e d w' hq=>?_)
 cases e with
 |exit b=>
  obtain⟨l',h',h1,h2,h3⟩:=hq
  simp only[Exit.inBlock]
  simp only[En.inBlock]at h3
  split
  ·rename_i e;subst e;rw[Nat.beq_refl]at h3;exact⟨l',h',h1,h2,h3⟩
  ·rename_i e
   cases hb:Nat.beq b id with
   |true=>exact absurd (BK hb) e
   |false=>rw[hb]at h3;exact⟨l',h',h1,h2,h3⟩
 |_=>exact hq
theorem TCR_cond{c:Operand}{x y:Code}{b:Bool}(hc:ev l c=some (.bool b))(h1:b=true->VE P n w0 b_ rl m x K l h)(h0:b=false->VE P n w0 b_ rl m y K l h):VE P n w0 b_ rl m (.cond c x y) K l h:=
 fun a w hf ho=>wpIn_cond_split (hf.eval hc) (fun e=>h1 e a w hf ho) (fun e=>h0 e a w hf ho)
abbrev Gg:=Exit->Dh->Mem->List Deferred->Prop
structure FrD(n:Nat)(l:Dh)(ds:List Deferred)(a:Act):Prop where
 fr:Fr n l {a with defers:=[]}
 ds:a.defers=ds
theorem FrD.eval{ds:List Deferred}{a:Act}(hf:FrD n l ds a){x:Operand}{v:Value}(hx:ev l x=some v):a.eval x=v:=hf.fr.eval hx
theorem FrD.put{ds:List Deferred}{a:Act}(hf:FrD n l ds a){d:Nat}(hd:Nat.blt d n=true)(v:Value):FrD n ((d,v)::l) ds (a.put (some d) v):=⟨hf.fr.put hd v,hf.ds⟩
variable (n w0 b_) in
def liftD(K:Gg):Exit->Act->World->Prop
 |.panic _,_,_=>False
 |.outgrown,_,_=>False
 |e,a,w=>∃l h ds,FrD n l ds a/\CX w0 b_ h w/\K e l h ds
variable (P n w0 b_) in
def OLD(ops:Array Oper)(Q:Exit->Act->World->Prop)(rest:List Oper)(l:Dh)(h:Mem)(ds:List Deferred):Prop:=
 ∀a w,FrD n l ds a->CX w0 b_ h w->wpList P ops Q rest a w
variable (P n w0 b_) in
def We(c:Code)(K:Gg)(l:Dh)(h:Mem)(ds:List Deferred):Prop:=
 ∀a w,FrD n l ds a->CX w0 b_ h w->c.wp P (liftD n w0 b_ K) a w
variable {ds:List Deferred}{ops:Array Oper}{Q:Exit->Act->World->Prop}{rest:List Oper}{d:Nat}{KD:Gg}
theorem MI{a:Act}{b:Bool}(hf:FrD n l ds a)(hw:CK ops l o=some b):Region.wanted o (yielded ops a.tmps)=b:=DR (a:={a with defers:=[]}) hf.fr hw
theorem Wf(hq:KD .normal l h ds):OLD P n w0 b_ ops (liftD n w0 b_ KD) [] l h ds:=fun _ _ hf ho=>⟨l,h,ds,hf,ho,hq⟩
theorem Wj(hw:CK ops l o=some true)(hd:o.dst=some d)(hlt:Nat.blt d n=true)(hs:Ct P n w0 b_ h l o v)
  (hk:OLD P n w0 b_ ops Q rest ((d,v)::l) h ds):OLD P n w0 b_ ops Q (o::rest) l h ds:=by
 intro a w hf ho
 unfold wpList
 rw[Ah (MI hf hw)]
 refine .inl ?_
 unfold Oper.wp
 have:(execOp a.eval o).run P w= .ok (.value v) w:=hs {a with defers:=[]} w hf.fr (ho.sta fun _ h=>h)
 rw[this]
 have:=hk _ _ (hf.put hlt v) ho
 simp only[Oper.upon,hd]
 exact this
theorem LO.defs{R:Value->Mem->Prop}(hlo:LO P n w0 b_ h l o R){a:Act}{w:World}(hf:FrD n l ds a)(ho:CX w0 b_ h w)(N:Act->World->Prop)(hk:∀v w' h',R v h'->CX w0 b_ h' w'->N (a.put o.dst v) w'):o.wp P a w N Q:=by
 have:=hlo {a with defers:=[]} w hf.fr ho (fun j w'=>j.defers=[]/\N {j with defers:=ds} w') (fun e j w'=>Q e {j with defers:=ds} w') fun v w' h' p m=>by
  refine⟨?_,?_⟩
  ·cases o.dst<;>rfl
  ·have h1:({(({a with defers:=[]}:Act).put o.dst v)with defers:=ds}:Act)=a.put o.dst v:=by
    obtain⟨t,g⟩:=a
    have:g=ds:=hf.ds
    subst this
    cases o.dst<;>rfl
   rw[h1]
   exact hk v w' h' p m
 have b:∀v,({(({a with defers:=[]}:Act).put o.dst v)with defers:=ds}:Act)=a.put o.dst v:=fun v=>by
  obtain⟨t,g⟩:=a
  have:g=ds:=hf.ds
  subst this
  cases o.dst<;>rfl
 unfold Oper.wp at*
 have hev:(execOp ({a with defers:=[]}:Act).eval o).run P w=(execOp a.eval o).run P w:=rfl
 rw[hev]at this
 cases hr:(execOp a.eval o).run P w with
 |ok q w'=>
  rw[hr]at this
  cases q with
  |value v=>
   show N (a.put o.dst v) w'
   rw[<-b v];exact this.2
  |skip=>
   show N (a.put o.dst undef) w'
   rw[<-b undef];exact this.2
  |defer d=>
   have h1:=this.1
   exfalso
   cases hdst:o.dst<;>rw[hdst]at h1<;>cases h1
  |enter f args=>
   refine Calls.mono this fun e i k=>?_
   cases e with
   |returned v=>
    show N (a.put o.dst v) i
    rw[<-b v];exact k.2
   |panicked c=>
    have h1:({({a with defers:=[]}:Act)with defers:=ds}:Act)=a:=by
     obtain⟨t,g⟩:=a
     have:g=ds:=hf.ds
     subst this
     rfl
    show Q (.panic c) a i
    rw[<-h1];exact k
   |outgrown=>obtain⟨j,w',hh⟩:=k;exact⟨_,w',hh⟩
  |row r args=>exact Rows.mono this fun v i k=>by rw[<-b v];exact k.2
  |_=>exact this.elim
 |halt x w'=>
  rw[hr]at this
  cases x with
  |panic v=>
   have h1:({({a with defers:=[]}:Act)with defers:=ds}:Act)=a:=by
    obtain⟨t,g⟩:=a
    have:g=ds:=hf.ds
    subst this
    rfl
   show Q (.panic _) a w'
   rw[<-h1];exact this
  |_=>exact this.elim
theorem KT{R:Value->Mem->Prop}(hw:CK ops l o=some true)(hd:o.dst=none)(hs:LO P n w0 b_ h l o R)
  (hk:∀v h',R v h'->OLD P n w0 b_ ops Q rest l h' ds):OLD P n w0 b_ ops Q (o::rest) l h ds:=by
 intro a w hf ho
 unfold wpList
 rw[Ah (MI hf hw)]
 refine .inl (hs.defs hf ho _ fun v w' h' c b=>?_)
 rw[hd]
 exact hk v h' c _ _ hf b
def Gg.then(K:Gg)(N:Dh->Mem->List Deferred->Prop):Gg
 |.normal,l,h,ds=>N l h ds
 |e,l,h,ds=>K e l h ds
def Gg.inBlock(K:Gg)(id:Nat):Gg
 |.exit b,l,h,ds=>match Nat.beq b id with
  |true=>K .normal l h ds
  |false=>K (.exit b) l h ds
 |e,l,h,ds=>K e l h ds
attribute [reducible] Gg.then Gg.inBlock
theorem FU{x y:Code}(hx:We P n w0 b_ x (KD.then (We P n w0 b_ y KD)) l h ds):We P n w0 b_ (.seq x y) KD l h ds:=by
 intro a w hf ho
 refine wp_seq (wp_mono (hx a w hf ho) fun e b w' hq=>?_)
 cases e with
 |normal=>obtain⟨l',h',c,h1,h2,h3⟩:=hq;exact h3 b w' h1 h2
 |_=>exact hq
theorem Wr(hk:KD .ret l h ds):We P n w0 b_ .ret KD l h ds:=fun _ _ hf ho=>wp_ret ⟨l,h,ds,hf,ho,hk⟩
theorem Pd{id:Nat}{c:Code}(hk:We P n w0 b_ c (KD.inBlock id) l h ds):We P n w0 b_ (.block id c) KD l h ds:=by
 intro a w hf ho
 refine wp_block (wp_mono (hk a w hf ho) fun e f w' hq=>?_)
 cases e with
 |exit d=>
  obtain⟨l',h',b,h1,h2,h3⟩:=hq
  simp only[Exit.inBlock]
  simp only[Gg.inBlock]at h3
  split
  ·rename_i e;subst e;rw[Nat.beq_refl]at h3;exact⟨l',h',b,h1,h2,h3⟩
  ·rename_i e
   cases hb:Nat.beq d id with
   |true=>exact absurd (BK hb) e
   |false=>rw[hb]at h3;exact⟨l',h',b,h1,h2,h3⟩
 |_=>exact hq
theorem Na{id:Nat}{os:List Oper}(hk:OLD P n w0 b_ os.toArray (liftD n w0 b_ KD) os l h ds):We P n w0 b_ (.region id os.toArray false) KD l h ds:=
 fun a w hf ho=>wp_region_lit (hk a w hf ho)
def YJ(D:Nat):Deferred:={target:=.collected D,args:= #[]}
def Js(D:Nat):CW:=blk D (.deferred (some []))
end

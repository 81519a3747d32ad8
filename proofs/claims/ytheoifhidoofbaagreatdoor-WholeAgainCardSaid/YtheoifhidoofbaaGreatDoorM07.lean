import Derived.Maps.RangeRun
import Derived.Shelf.SlSortCmp.NoneTotal
import Derived.Shelf.SlicesG.Cmp
import Derived.Test.YtheoifhidoofbaaGreatDoorM06
set_option maxRecDepth 100000
set_option maxHeartbeats 2000000
namespace Go.Cru
open Go Go.Proofs
open Go.Proofs.Tryz renaming prog→P0
def UV(a b:Int):Int:=a*18446744073709551616+b
def GM(z:Int):Int:=(z+9223372036854775808)%18446744073709551616-9223372036854775808
def EQ(z:Int):Int:=(z-GM z)/18446744073709551616
def Fk(z:Int):Value:=.agg [.int .i64 (EQ z),.int .i64 (GM z)].toArray
theorem JK(z:Int):UV (EQ z) (GM z)=z:=by unfold UV EQ GM;omega
theorem hl_cd2{a b:Int}(h1: -9223372036854775808<=b)(h2:b<9223372036854775808):EQ (UV a b)=a/\GM (UV a b)=b:=by unfold UV EQ GM;omega
theorem mk2_cd{a b:Int}(h1: -9223372036854775808<=b)(h2:b<9223372036854775808):Fk (UV a b)= .agg [.int .i64 a,.int .i64 b].toArray:=by
 obtain⟨e1,e2⟩:=hl_cd2 (a:=a) h1 h2
 unfold Fk;rw[e1,e2]
theorem lo2_b(z:Int): -9223372036854775808<=GM z/\GM z<9223372036854775808:=by unfold GM;omega
theorem Wc(a b:Int)(h:Fk a=Fk b):a=b:=by
 have h1:[Value.int .i64 (EQ a),.int .i64 (GM a)]=[Value.int .i64 (EQ b),.int .i64 (GM b)]:=by
  have h:=Value.agg.inj h
  simpa using congrArg Array.toList h
 simp only[List.cons.injEq,Value.int.injEq,true_and,and_true]at h1
 rw[<-JK a,<-JK b,h1.1,h1.2]
section
variable {P:Program}{kt T1 T2:TypeId}{f1 f2:Field}
theorem Gq{T:TypeId}{cs:Array Value}{i:Nat}{k:IntKind}{v:Value}{w:World}(b:P.underlying T=some (.int k))(hc:cs[i]? =some v):(part T cs i).run P w= .ok v w:=by
 unfold part
 rw[Ak,Gs b,Ai]
 simp only[ET,Bool.false_eq_true,if_false,hc]
 rfl
theorem QY{d:Array Field}(k:Int):∀(b:List MapEntry) (i:Nat),(∀e∈b,∃k',e.key=Fk k')->b≠[]->Instr.findNow (.struct d) (Fk k) b i=none
 |[],_,_,h=>absurd rfl h
 |e::b,i,h,_=>by
  obtain⟨k',c⟩:=h e (by simp)
  unfold Instr.findNow
  rw[c]
  rfl
theorem eq_mk2(c:P.underlying kt=some (.struct #[f1,f2]))(hp:P.stoodInHeld kt=false)(n1:f1.name≠ "_")(n2:f2.name≠ "_")(o1:f1.offset=0)(o2:f2.offset=1)(t1:P.underlying f1.type=some (.int .i64))(t2:P.underlying f2.type=some (.int .i64))(w:World)(a b:Int):(Op.equal kt (Fk a) (Fk b)).run P w= .ok (decide (a=b)) w:=by
 have hf:P.fieldsOf kt= #[f1,f2]:=by unfold Program.fieldsOf;rw[c]
 unfold Op.equal Fk
 rw[show Op.maxDepth=9998+1+1 from rfl,run_equalIn_struct w (9998+1) kt _ _ (by rw[hf];exact c) hp,hf]
 show(Op.eqFields _ _ _ [f1,f2]).run P w=_
 unfold Op.eqFields
 rw[Ah n1,o1,Ak,Gq (v:=.int .i64 (EQ a)) t1 (by rfl),Ai,Ak,Gq (v:=.int .i64 (EQ b)) t1 (by rfl),Ai,Ak,run_equalIn_int w _ _ .i64 .i64 _ _ t1,Ai]
 by_cases h1:EQ a=EQ b
 ·rw[Aa (by simp[h1])]
  unfold Op.eqFields
  rw[Ah n2,o2,Ak,Gq (v:=.int .i64 (GM a)) t2 (by rfl),Ai,Ak,Gq (v:=.int .i64 (GM b)) t2 (by rfl),Ai,Ak,run_equalIn_int w _ _ .i64 .i64 _ _ t2,Ai]
  by_cases h2:GM a=GM b
  ·rw[Aa (by simp[h2])]
   have:a=b:=by rw[<-JK a,<-JK b,h1,h2]
   simp[Op.eqFields,this]
  ·rw[Ah (by simp[h2])]
   have:a≠b:=fun e=>h2 (by rw[e])
   simp[this]
 ·rw[Ah (by simp[h1])]
  have:a≠b:=fun e=>h1 (by rw[e])
  simp[this]
theorem Iy(f:P.underlying kt=some (.struct #[f1,f2]))(hp:P.stoodInHeld kt=false)(n1:f1.name≠ "_")(n2:f2.name≠ "_")(o1:f1.offset=0)(o2:f2.offset=1)(t1:P.underlying f1.type=some (.int .i64))(t2:P.underlying f2.type=some (.int .i64))(w:World)(k:Int):∀(b:List MapEntry) (i:Nat),(∀e∈b,∃k',e.key=Fk k')->
  ((Instr.findAsking kt (Fk k) b i).run P w= .ok none w/\∀e∈b,e.key≠Fk k)∨∃j e,(Instr.findAsking kt (Fk k) b i).run P w= .ok (some (i+j,e.val)) w/\b[j]? =some e/\e.key=Fk k
 |[],i,_=>.inl ⟨rfl,by simp⟩
 |e::b,i,h=>by
  obtain⟨k',c⟩:=h e (by simp)
  unfold Instr.findAsking
  rw[c,Ak,eq_mk2 f hp n1 n2 o1 o2 t1 t2,Ai]
  by_cases d:k=k'
  ·subst d
   rw[Ah (by simp)]
   exact .inr ⟨0,e,rfl,rfl,c⟩
  ·rw[Aa (by simp[d])]
   rcases Iy f hp n1 n2 o1 o2 t1 t2 w k b (i+1) (fun e he=>h e (by simp[he]))with ⟨h1,h2⟩|⟨j,g,h1,h2,h3⟩
   ·exact .inl ⟨h1,fun x hx=>by
     rcases AW.1 hx with rfl|hx
     ·rw[c];exact fun e=>d (Wc _ _ e).symm
     ·exact h2 x hx⟩
   ·exact .inr ⟨j+1,g,by rw[h1,show i+1+j=i+(j+1) by omega],h2,h3⟩
theorem mk2_row(c:P.underlying kt=some (.struct #[f1,f2]))(hp:P.stoodInHeld kt=false)(n1:f1.name≠ "_")(n2:f2.name≠ "_")(o1:f1.offset=0)(o2:f2.offset=1)(t1:P.underlying f1.type=some (.int .i64))(t2:P.underlying f2.type=some (.int .i64)):Fm P kt Fk where
 inj:=Wc
 check:=fun w d k=>by
  rw[show(10000:Nat)=9998+1+1 from rfl]
  have c1:(Instr.checkKey d (9998+1) f1.type (.int .i64 (EQ k))).run P w= .ok () w:=by
   unfold Instr.checkKey
   rw[Ak,Cz t1,Ai];rfl
  have c2:(Instr.checkKey d (9998+1) f2.type (.int .i64 (GM k))).run P w= .ok () w:=by
   unfold Instr.checkKey
   rw[Ak,Cz t2,Ai];rfl
  unfold Instr.checkKey
  rw[Ak,Cz c,Ai]
  have p1:(part f1.type [Value.int .i64 (EQ k),.int .i64 (GM k)].toArray f1.offset).run P w= .ok (.int .i64 (EQ k)) w:=by rw[o1];exact Gq t1 rfl
  have p2:(part f2.type [Value.int .i64 (EQ k),.int .i64 (GM k)].toArray f2.offset).run P w= .ok (.int .i64 (GM k)) w:=by rw[o2];exact Gq t2 rfl
  simp only[Fk]
  rw[<-Array.forIn_toList]
  simp only[List.forIn_cons,List.forIn_nil,Sem.run_bind,n1,n2,ne_eq,not_false_eq_true,if_true,p1,p2,c1,c2,Result.andThen_ok,Sem.run_pure]
 find:=fun w k b h=>by
  unfold Instr.findKey
  rw[Ak,Cz c,Ai]
  cases b with
  |nil=>exact .inl ⟨rfl,by simp⟩
  |cons e b=>
   rw[QY k (e::b) 0 h (by simp)]
   rcases Iy c hp n1 n2 o1 o2 t1 t2 w k (e::b) 0 h with ⟨h1,h2⟩|⟨j,f,h1,h2,h3⟩
   ·exact .inl ⟨h1,h2⟩
   ·exact .inr ⟨j,f,by rw[AE]at h1;exact h1,h2,h3⟩
 stays:=fun w k=>by
  unfold Instr.keyThatStays
  rw[Ah (by simp[Instr.sameBits,Fk])]
  rfl
end
def Hy{β:Type}(b:Nat)(g:β->Value)(l:List (Int×β)):CW:=Pi Fk b fun k=>(alk k l).map g
def mpE{β:Type}(b:Nat)(g:β->Value)(l:List (Int×β))(k:Int)(z:Value)(d:Nat):CW:=
 ⟨[b],fun H=>∃c c_,H b=some (.map c c_)/\Mp Fk c.toList (EG (fun k=>(alk k l).map g) k (some z))/\MapKept.Stamped c c_/\∃e∈c.toList,e.key=Fk k/\e.born=d,
  fun H f hh ⟨c,c_,h1,h2⟩=>⟨c,c_,by rw[hh b (by simp)];exact h1,h2⟩,fun H ⟨c,c_,h1,_⟩ i hi=>by rw[Ap.1 hi,h1];simp⟩
section
variable {P:Program}{n:Nat}{w0:World}{b_:N_}{l:Dh}{h hs:Mem}{o:Oper}{v:Value}{β:Type}
theorem LO.mkC{T:TypeId}{f:CW->Mem}(g:β->Value)(ho:o.op= .makeMap T none:=by rfl)(hf:∀r,EY h r (f r):=by intro r;repeat constructor):LO P n w0 b_ h l o fun u h'=>∃b,u= .map (some b)/\h'=f (Hy b g []):=by
 intro a w d hw K Q hk
 refine LO.makeMap Fk ho a w d hw K Q fun u w' h' e c=>?_
 obtain⟨b,rfl,rfl⟩:=e
 exact hk _ w' _ ⟨b,rfl,rfl⟩ (by rw[(hf _).eq];exact c)
theorem Rm{g:β->Value}{al:List (Int×β)}{k:Int}{u:β}:EG (fun j=>(alk j al).map g) k (some (g u))=fun j=>(alk j (aset k u al)).map g:=by
 funext j;unfold EG;rw[DE]
 by_cases h:j=k
 ·rw[Ah h,Ah h];rfl
 ·rw[Aa h,Aa h]
theorem LO.setC{m x y:Operand}{T kt e:TypeId}{b i:Nat}{g:β->Value}{al:List (Int×β)}{h':Mem}(k:Int)(u:β)(hr:Fm P kt Fk)(c:P.underlying T=some (.map kt e))(ho:o.op= .mapUpdate T m x y:=by rfl)(hm:ev l m=some (.map (some b)):=by rfl)(hx:ev l x=some (Fk k))(hy:ev l y=some (g u):=by rfl)
  (hi:Ep h i (Hy b g al) (Hy b g (aset k u al)) h':=by first|exact s0|exact s1|exact s2|exact s3|exact s4|exact s5|exact s6|exact s7|exact s8|exact s9|exact s10|exact s11|exact s12):LO P n w0 b_ h l o fun u k=>u=undef/\k=h':=by
 have e2:Pi Fk b (EG (fun j=>(alk j al).map g) k (some (g u)))=Hy b g (aset k u al):=by unfold Hy;rw[Rm]
 rw[hi.at.2,<-e2]
 exact LO.mapUpdate i k hr ho hm hx hy hi.at.1 c
theorem LO.delC{m x:Operand}{T kt e:TypeId}{b i:Nat}{g:β->Value}{al:List (Int×β)}{h':Mem}(k:Int)(hn:KN al)(hr:Fm P kt Fk)(c:P.underlying T=some (.map kt e))(ho:o.op= .call {callee:=.builtin .delete,args:= #[m,x],argTypes:= #[T,kt]}:=by rfl)(hm:ev l m=some (.map (some b)):=by rfl)(hx:ev l x=some (Fk k))
  (hi:Ep h i (Hy b g al) (Hy b g (adel k al)) h':=by first|exact s0|exact s1|exact s2|exact s3|exact s4|exact s5|exact s6|exact s7|exact s8|exact s9|exact s10|exact s11|exact s12):LO P n w0 b_ h l o fun u k=>u= .tuple #[]/\k=h':=by
 have e:EG (fun j=>(alk j al).map g) k none=fun j=>(alk j (adel k al)).map g:=by
  funext j;unfold EG;rw[Hf j hn]
  by_cases h:j=k
  ·rw[Ah h,Ah h];rfl
  ·rw[Aa h,Aa h]
 have e2:Pi Fk b (EG (fun j=>(alk j al).map g) k none)=Hy b g (adel k al):=by unfold Hy;rw[e]
 rw[hi.at.2,<-e2]
 exact Qbe i k hr ho hm hx hi.at.1 c
theorem QaD{x y:Operand}{T kt e:TypeId}{b i:Nat}{g:β->Value}{al:List (Int×β)}{z:Value}(k:Int)(hr:Fm P kt Fk)(c:P.underlying T=some (.map kt e))(ho:o.op= .lookup T x y false:=by rfl)(hx:ev l x=some (.map (some b)):=by rfl)(hy:ev l y=some (Fk k))
  (hi:FG hs i (Hy b g al):=by first|exact at0|exact at1|exact at2|exact at3|exact at4|exact at5|exact at6|exact at7|exact at8|exact at9|exact at10|exact at11|exact at12) (hz:(P.info? e).bind (·.zero)=some z:=by rfl):Ct P n w0 b_ hs l o (((alk k al).map g).getD z):=
 Ct.lookup1 i k hr ho hx hy hi.at c hz
theorem LO.clrC{m:Operand}{T kt e:TypeId}{b i:Nat}{g:β->Value}{al:List (Int×β)}{h':Mem}(f:P.underlying T=some (.map kt e))(ho:o.op= .call {callee:=.builtin .clear,args:= #[m],argTypes:= #[T]}:=by rfl)(hm:ev l m=some (.map (some b)):=by rfl)
  (hi:Ep h i (Hy b g al) (Hy b g []) h':=by first|exact s0|exact s1|exact s2|exact s3|exact s4|exact s5|exact s6|exact s7|exact s8|exact s9|exact s10|exact s11|exact s12):LO P n w0 b_ h l o fun u k=>u= .tuple #[]/\k=h':=by
 rw[hi.at.2]
 refine Zf (s:=Builtin.clear_ #[T] o.type #[.map (some b)]) (fun a hf=>by
  unfold execOp
  simp only[ho,resolve,List.map_toArray,List.map_cons,List.map_nil,hf.eval hm]
  rfl) fun w hw=>?_
 obtain⟨p,c_,c,j,hst⟩:=hw.mine _ (Aj hi.at.1)
 refine⟨_,{w with heap:=w.heap.setIfInBounds b (.map #[] c_)},_,?_,⟨rfl,rfl⟩,hw.setMap (es':= #[]) (c_':=c_) hi.at.1 c (Mp.nil Fk) (MapKept.stamped_empty c_)⟩
 unfold Builtin.clear_
 show(underlying T >>= fun d=>_:Sem Value).run P w=_
 rw[Ak,Cz f,Ai]
 show((getObj b >>= fun ob=>_:Sem Value)).run P w=_
 rw[Ak,EE c,Ai]
 show((setObj b _ >>= fun _=>_:Sem Value)).run P w=_
 rw[Ak,Er c]
 rfl
end
theorem QO{b:Array MapEntry}{j:Nat}{e0:MapEntry}{f g:MapEntry->MapEntry}(hj:b[j]? =some e0)(h:f e0=g e0):b.modify j f=b.modify j g:=by
 apply Array.ext_getElem?
 intro i
 rw[BY,BY]
 split
 ·rename_i e;subst e;rw[hj];simp[h]
 ·rfl
theorem XB{b:Array MapEntry}{j:Nat}{e0:MapEntry}{f:MapEntry->MapEntry}(hj:b[j]? =some e0)(h:f e0=e0):b.modify j f=b:=by
 apply Array.ext_getElem?
 intro i
 rw[BY]
 split
 ·rename_i e;subst e;rw[hj];simp[h]
 ·rfl
theorem XG{K:Type}[DecidableEq K]{f:K->Option Value}{k:K}{v:Value}(h:f k=some v):EG f k (some v)=f:=by
 funext t;unfold EG
 split
 ·rename_i e;subst e;exact h.symm
 ·rfl
theorem UM{K:Type}[DecidableEq K]{f:K->Option Value}{k:K}{u v:Option Value}:EG (EG f k u) k v=EG f k v:=by
 funext t;unfold EG;split<;>rfl
theorem nodup_at{c:Array MapEntry}(hn:(c.toList.map (·.born)).Nodup){i j:Nat}{a b:MapEntry}(hi:c[i]? =some a)(hj:c[j]? =some b)(h:a.born=b.born):i=j:=by
 have h1:(c.toList.map (·.born))[i]? =some a.born:=by rw[Aq,Bi,hi];rfl
 have h2:(c.toList.map (·.born))[j]? =some b.born:=by rw[Aq,Bi,hj];rfl
 obtain⟨d,e1⟩:=Ab.1 h1
 obtain⟨e,e2⟩:=Ab.1 h2
 exact(List.getElem_inj hn).1 (by rw[e1,e2,h])
section
variable {P:Program}{n:Nat}{w0:World}{b_:N_}{l:Dh}{h hs:Mem}{o:Oper}{v:Value}{β:Type}
theorem LO.mEnt{m x:Operand}{T A e:TypeId}{b i:Nat}{g:β->Value}{al:List (Int×β)}{z:Value}{f:CW->Mem}(k:Int)(hr:Fm P A Fk)(C:P.underlying T=some (.map A e))(hx:ev l x=some (Fk k))(ho:o.op= .mapEntry T m x:=by rfl)(hm:ev l m=some (.map (some b)):=by rfl)
  (hi:∀r,Ep h i (Hy b g al) r (f r):=by intro r;first|exact s0|exact s1|exact s2|exact s3|exact s4|exact s5|exact s6|exact s7|exact s8|exact s9|exact s10|exact s11|exact s12) (hz:(P.info? e).bind (·.zero)=some z:=by rfl):
  LO P n w0 b_ h l o fun u h'=>∃c,u= .tuple [((alk k al).map g).getD z,.int .i64 (c:Nat)].toArray/\h'=f (mpE b g al k (((alk k al).map g).getD z) c):=by
 refine Zf (s:=Instr.mapEntry T (.map (some b)) (Fk k)) (fun a hf=>by unfold execOp;simp only[ho,hf.eval hm,hf.eval hx]) fun w hw=>?_
 obtain⟨q,c_,p,d,hst⟩:=hw.mine _ (Aj (hi (Hy b g al)).at.1)
 have hlt:=hf_lt p
 have key:∀(es':Array MapEntry) (c_' c:Nat) (B:Value),Mp Fk es'.toList (EG (fun k=>(alk k al).map g) k (some B))->MapKept.Stamped es' c_'->(∃e∈es'.toList,e.key=Fk k/\e.born=c)->CX w0 b_ (f (mpE b g al k B c)) {w with heap:=w.heap.setIfInBounds b (.map es' c_')}:=fun es' c_' c B h1 h2 h3=>by
  have hh:=Jc w b (.map es' c_') hlt
  rw[(hi _).at.2]
  refine hw.set (hi (Hy b g al)).at.1 rfl rfl rfl rfl (by simp) (fun k hk=>?_) ⟨es',c_',by rw[hh];simp,h1,h2,h3⟩
  have:=congrFun hh k
  simp only[hf]at this
  rw[this,Aa (fun e=>hk (by simp[Hy,Pi,e]))]
 have y:(zeroValue e).run P w= .ok z w:=Ip hz w
 unfold Instr.mapEntry
 rw[Ak,Cz C,Ai]
 show ∃v w' h',(getObj b >>= fun ob=>_:Sem Value).run P w=_/\_
 rw[Ak,EE p,Ai]
 show ∃v w' h',(Instr.checkKey false 10000 A (Fk k) >>= fun _=>_:Sem Value).run P w=_/\_
 rw[Ak,hr.check,Ai,Ak]
 rcases hr.find w k q.toList d.1 with ⟨h1,h2⟩|⟨j,x',h1,h2,h3⟩
 ·rw[h1,Ai]
  have hg:(alk k al).map g=none:=d.gone h2
  refine⟨_,{w with heap:=w.heap.setIfInBounds b (.map (q.push {key:=Fk k,val:=z,born:=c_}) (c_+1))},_,?_,⟨c_,rfl,rfl⟩,?_⟩
  rotate_left
  ·rw[hg]
   exact key (q.push {key:=Fk k,val:=z,born:=c_}) (c_+1) c_ z (by rw[Array.toList_push];exact d.push hr.inj h2 rfl) (MapKept.stamped_push hst h2) ⟨{key:=Fk k,val:=z,born:=c_},by simp,rfl,rfl⟩
  ·rw[hg]
   show(zeroValue e >>= fun zero=>_:Sem Value).run P w=_
   rw[Ak,y,Ai]
   show(setObj b _ >>= fun _=>_:Sem Value).run P w=_
   rw[Ak,Er p]
   rfl
 ·rw[h1,Ai]
  have t:q[j]? =some x':=by rw[<-Bi];exact h2
  have hg:(alk k al).map g=some x'.val:=d.here (Aj h2) h3
  refine⟨_,{w with heap:=w.heap.setIfInBounds b (.map q c_)},_,?_,⟨x'.born,rfl,rfl⟩,?_⟩
  rotate_left
  ·rw[hg]
   exact key q c_ x'.born x'.val (by rw[XG (f:=fun k=>(alk k al).map g) hg];exact d) hst ⟨x',Aj h2,h3,rfl⟩
  ·rw[hg]
   simp only[t,Option.map_some,Option.getD_some,h3]
   rw[Ak,hr.stays,Ai,XB t (f:=fun e=>{e with key:=Fk k}) (by rw[<-h3])]
   show(setObj b _ >>= fun _=>_:Sem Value).run P w=_
   rw[Ak,Er p]
   rfl
theorem LO.eSto{m x y:Operand}{T K:TypeId}{b i c:Nat}{g:β->Value}{al:List (Int×β)}{k:Int}{z:Value}{h':Mem}(u:β)(hr:Fm P K Fk)(hy:ev l y=some (g u))(ho:o.op= .entryStore T m x y:=by rfl)(hm:ev l m=some (.map (some b)):=by rfl)(hx:ev l x=some (.int .i64 (c:Nat)):=by rfl)
  (hi:Ep h i (mpE b g al k z c) (Hy b g (aset k u al)) h':=by first|exact s0|exact s1|exact s2|exact s3|exact s4|exact s5|exact s6|exact s7|exact s8|exact s9|exact s10|exact s11|exact s12):LO P n w0 b_ h l o fun u k=>u=undef/\k=h':=by
 intro a w s hw L Q hk
 obtain⟨d,c_,r,H,hst,e0,E,A,C⟩:=hw.mine _ (Aj hi.at.1)
 have hlt:=hf_lt r
 obtain⟨j,hj⟩:=List.getElem?_of_mem E
 have f:d[j]? =some e0:=by rw[<-Bi];exact hj
 have hfi:d.findIdx? (fun e=>(e.born:Int) == ((c:Nat):Int))=some j:=by
  rw[Array.findIdx?_eq_some_iff_getElem]
  obtain⟨F,G⟩:=Bb.1 f
  refine⟨F,by rw[G,C];simp,fun q hq=>?_⟩
  have I:d[q]? =some d[q]:=BS (by omega)
  simp only[beq_iff_eq]
  intro hc
  have:=nodup_at hst.2.1 I f (by rw[C];omega)
  omega
 have J:(alk k al).map g=(alk k al).map g:=rfl
 have p:d.modify j (fun e=>{e with val:=g u})=d.modify j fun e=>{e with key:=Fk k,val:=g u}:=QO f (by rw[<-A])
 have D:MapKept.Stamped (d.modify j fun e=>{e with val:=g u}) c_:=by
  rw[p]
  exact MapKept.stamped_modify hst j _ (fun _ _=>rfl) (fun e _ he=>by rw[f]at he;cases he;exact A.symm)
 have B:Mp Fk (d.modify j fun e=>{e with val:=g u}).toList (fun t=>(alk t (aset k u al)).map g):=by
  rw[p,Array.toList_modify,<-Rm,<-UM (u:=some z)]
  exact H.modify hr.inj hj A (g u) fun _=>⟨rfl,rfl⟩
 have hrun:(Instr.entryStore T (.map (some b)) (.int .i64 ((c:Nat):Int)) (g u)).run P w= .ok () {w with heap:=w.heap.setIfInBounds b (.map (d.modify j fun e=>{e with val:=g u}) c_)}:=by
  unfold Instr.entryStore
  show(getObj b >>= fun ob=>_:Sem Unit).run P w=_
  rw[Ak,EE r,Ai]
  show(asInt (.int .i64 ((c:Nat):Int)) >>= fun _=>_:Sem Unit).run P w=_
  rw[Ak]
  show((Sem.run P (Pure.pure ((c:Nat):Int)) w).andThen _)=_
  rw[BV,Ai,hfi]
  exact Er r _
 unfold Oper.wp
 have:(execOp a.eval o).run P w= .ok .skip {w with heap:=w.heap.setIfInBounds b (.map (d.modify j fun e=>{e with val:=g u}) c_)}:=by
  unfold execOp
  simp only[ho,s.eval hm,s.eval hx,s.eval hy]
  show((Instr.entryStore T (.map (some b)) (.int .i64 ((c:Nat):Int)) (g u) >>= fun _=>Pure.pure Next.skip):Sem Next).run P w=_
  rw[Ak,hrun]
  rfl
 rw[this]
 refine hk undef _ _ ⟨rfl,rfl⟩ ?_
 have hh:=Jc w b (.map (d.modify j fun e=>{e with val:=g u}) c_) hlt
 rw[hi.at.2]
 refine hw.set (r':=Hy b g (aset k u al)) hi.at.1 rfl rfl rfl rfl (by simp) (fun k hk=>?_) ⟨_,c_,by rw[hh];simp,B,D⟩
 have:=congrFun hh k
 simp only[hf]at this
 rw[this,Aa (fun e=>hk (by simp[mpE,e]))]
theorem LO.apO{x y:Operand}{t e:TypeId}{z:Value}{g m cap q k c i j T s d:Nat}{B:A_}{xs ys:V_}{r:CW}{h':Mem}(he:El P t e z s d)(hr:Reads r B ys)
  (ho:o.op= .call {callee:=.builtin .append,args:= #[x,y],argTypes:= #[t,t]}) (hx:ev l x=some (.slice (some ⟨g,0,none⟩) q cap)) (hy:ev l y=some (.slice B k c))
  (hi:Ep h i (sq (some ⟨g,0,none⟩) m cap T s xs) (sq (some ⟨g,0,none⟩) m cap T s (Oh xs ys (q*s))) h') (hj:FG h j r) (hl:ys.length=k*s) (hb:q+k<=m) (h1:∀u∈ys,EL u=true):
  LO P n w0 b_ h l o fun u p=>u= .slice (some ⟨g,0,none⟩) (q+k) cap/\p=h':=by
 obtain⟨e1,e2⟩:=hi.at
 subst e2
 obtain⟨I,A,L,H,M⟩:=he.row
 refine Zf (s:=Builtin.append_ #[t,t] o.type #[.slice (some ⟨g,0,none⟩) q cap,.slice B k c]) (fun a hf=>?_) fun w hw=>?_
 ·unfold execOp
  simp only[ho,resolve,List.map_toArray,List.map_cons,List.map_nil,hf.eval hx,hf.eval hy]
  rfl
 ·obtain⟨p1,p2⟩:=hw.mine _ (Aj e1)
  rcases p2 with ⟨hn,_⟩|⟨K,cur,D,hg,hmc,hcm,C,ht⟩
  ·cases hn
  ·cases D
   have E:m*s<=cap*s:=Bo _ hmc
   have F:q*s+k*s<=m*s:=by rw[<-Ck];exact Bo _ hb
   obtain⟨w',hrun,q1,q2,q3,q4,q5⟩:=Ej (P:=P) ys 0 w g (0+q*s) cur T h1 hg (by omega)
   have b:(Builtin.firstCells s k (.slice B k c)).run P w= .ok ys.toArray w:=by
    cases B with
    |none=>
     have:ys=[]:=by
      cases ys with
      |nil=>rfl
      |cons u us=>obtain⟨x,hx,_⟩:=hr _ (hw.mine _ (Aj hj.at)) 0 u rfl;cases hx
     rw[this]
     exact run_firstCells_none w s k k c
    |some ad=>
     refine run_firstCells_some w s k ad k c ys hl fun J u G=>?_
     obtain⟨x,hx,hcl⟩:=hr _ (hw.mine _ (Aj hj.at)) J u G
     cases hx;exact hcl
   have f:q+k<=cap:=by omega
   refine⟨_,w',_,?_,⟨rfl,rfl⟩,hw.set e1 rfl q1 q2 q3 q4 (fun z hz=>?_) ?_⟩
   ·rw[AE]at hrun
    simp[Builtin.append_,run_underlying he.sl,sizeOf,typeInfo,A,H,Builtin.lenOf,f,b,Addr.add_lit,hrun]
   ·have:=congrFun q5 z
    simp only[Go.Cru.hf]at this
    rw[this,Aa (fun e=>hz (by simp[sq,e]))]
   ·refine⟨by rw[Mx (by omega)];exact p1,.inr ⟨g,putCells cur (q*s) ys,rfl,?_,hmc,hcm,by rw[EZ];exact C,NL ht (by omega) (by omega)⟩⟩
    rw[q5]
    simp only[if_true]
    rw[show 0+q*s+0=q*s by omega]
theorem LO.clrS{x:Operand}{t e:TypeId}{z:Value}{g m cap q k c i T s b:Nat}{xs:V_}{f:CW->Mem}(he:El P t e z s b)(D:∀u∈z.cells,EL u=true)
  (ho:o.op= .call {callee:=.builtin .clear,args:= #[x],argTypes:= #[t]}) (hx:ev l x=some (.slice (some ⟨g,q,none⟩) k c))
  (hi:∀r,Ep h i (sq (some ⟨g,0,none⟩) m cap T s xs) r (f r)) (hb:q+k*s<=m*s):
  LO P n w0 b_ h l o fun u p=>∃ys:V_,u= .tuple #[]/\ys.length=k*s/\p=f (sq (some ⟨g,0,none⟩) m cap T s (Oh xs ys q)):=by
 obtain⟨I,y,H,K,L⟩:=he.row
 refine Zf (s:=Builtin.clear_ #[t] o.type #[.slice (some ⟨g,q,none⟩) k c]) (fun a hf=>?_) fun w hw=>?_
 ·unfold execOp
  simp only[ho,resolve,List.map_toArray,List.map_cons,List.map_nil,hf.eval hx]
  rfl
 ·have e1:=(hi (sq (some ⟨g,0,none⟩) m cap T s xs)).at.1
  obtain⟨p1,p2⟩:=hw.mine _ (Aj e1)
  rcases p2 with ⟨hn,_⟩|⟨J,cur,B,hg,hmc,hcm,A,ht⟩
  ·cases hn
  ·cases B
   have G:m*s<=cap*s:=Bo _ hmc
   have F:(Builtin.zeroCells z.cells k).toList.length=k*s:=by rw[Bg,size_zeroCells,he.zs]
   have E:∀u∈(Builtin.zeroCells z.cells k).toList,EL u=true:=fun u C=>by
    unfold Builtin.zeroCells at C
    rw[Array.toList_map]at C
    obtain⟨j,hj,rfl⟩:=AZ.1 C
    have hp:0<z.cells.size:=by rw[he.zs];exact he.pos
    rw[getElem!_pos z.cells _ (By _ hp)]
    exact D _ (Array.getElem_mem _)
   obtain⟨w',hrun,q1,q2,q3,q4,q5⟩:=Ej (P:=P) (Builtin.zeroCells z.cells k).toList 0 w g q cur T E hg (by omega)
   refine⟨_,w',_,?_,⟨_,rfl,F,rfl⟩,?_⟩
   ·unfold Builtin.clear_
    show(underlying t >>= fun d=>_:Sem Value).run P w=_
    rw[Ak,Cz he.sl,Ai]
    cases k with
    |zero=>
     have:Builtin.zeroCells z.cells 0= #[]:=by simp[Builtin.zeroCells]
     rw[this]at hrun
     have hw':w'=w:=by
      have:(storeCells ⟨g,q,none⟩ [] 0).run P w= .ok () w:=rfl
      rw[show(#[]:Array Value).toList=[] from rfl,this]at hrun
      cases hrun;rfl
     rw[hw'];rfl
    |succ k=>
     show(zeroValue e >>= fun zero=>_:Sem Value).run P w=_
     rw[Ak,Ip (by rw[y];exact H) w,Ai]
     show(storeCells ⟨g,q,none⟩ _ 0 >>= fun _=>_:Sem Value).run P w=_
     rw[Ak,hrun]
     rfl
   ·rw[(hi _).at.2]
    refine hw.set e1 rfl q1 q2 q3 q4 (fun z hz=>?_) ?_
    ·have:=congrFun q5 z
     simp only[Go.Cru.hf]at this
     rw[this,Aa (fun e=>hz (by simp[sq,e]))]
    ·refine⟨by rw[Mx (by omega)];exact p1,.inr ⟨g,putCells cur q (Builtin.zeroCells z.cells k).toList,rfl,?_,hmc,hcm,by rw[EZ];exact A,NL ht (by omega) (by omega)⟩⟩
     rw[q5]
     simp only[if_true]
     rfl
end
theorem Cv.nar{w0:World}{b_:N_}{h:Mem}{ao:A_}{m cap T sz i:Nat}{xs:V_}{f:CW->Mem}(k:Nat)(hk:k<=m)(hi:∀r,Ep h i (sq ao m cap T sz xs) r (f r)):
  Cv w0 b_ h fun h'=>h'=f (sq ao k cap T sz (xs.take (k*sz))):=fun w o=>by
 obtain⟨e1,e2⟩:=(hi (sq ao m cap T sz xs)).at
 obtain⟨p1,p2⟩:=o.mine _ (Aj e1)
 have h1:k*sz<=m*sz:=Bo _ hk
 refine⟨_,rfl,?_⟩
 rw[(hi _).at.2]
 refine o.set e1 rfl rfl rfl rfl rfl (fun _ _=>rfl) ⟨by rw[AF];omega,?_⟩
 rcases p2 with ⟨ha,hm,hc⟩|⟨g,cur,ha,hg,hmc,hcm,b,ht⟩
 ·exact .inl ⟨ha,by omega,hc⟩
 ·exact .inr ⟨g,cur,ha,hg,by omega,hcm,b,by rw[<-ht,List.take_take,BC h1]⟩
section
variable {P:Program}{n m:Nat}{w0:World}{b_:N_}{l:Dh}{h:Mem}{o:Oper}{ops:Array Oper}{rest:List Oper}{d:Nat}{Q:Exit->Act->World->Prop}{K:GE}{c:Code}
theorem WH{a:Act}{w:World}{N:Act->World->Prop}{Q:Exit->Act->World->Prop}(hd:∀c,o.op≠ .defer c)(h:o.wp P a w N Q):o.wpIn FW m P a w N Q:=by
 refine⟨fun f _=>trivial,?_⟩
 rw[Oper.semAt_eq _ _ _ hd]
 unfold Oper.wp at h
 cases hr:(execOp a.eval o).run P w with
 |ok b w'=>
  rw[hr]at h
  cases b with
  |value v=>exact h
  |skip=>exact h
  |defer d=>exact h
  |enter f args=>exact⟨fun hh=>(by cases hh),callsIn_wide.2 h⟩
  |row r args=>exact⟨fun hh=>(by cases hh),fun c cs _=>let ⟨v,w',r,s⟩:=h c cs;⟨v,w',r,stepsIn_wide.2 s⟩⟩
  |_=>exact h.elim
 |halt x w'=>
  rw[hr]at h
  cases x with
  |panic v=>exact h
  |_=>exact h.elim
theorem OW_lo{R:Value->Mem->Prop}(hg:o.guard=none)(hn:Gh o=true)(hd:o.dst=some d)(hlt:Nat.blt d n=true)(hs:LO P n w0 b_ h l o R)(hk:∀v h',R v h'->OW P n m ops Q rest ((d,v)::l) (CX w0 b_ h')):OW P n m ops Q (o::rest) l (CX w0 b_ h):=by
 intro a w hf hw
 unfold wpListIn
 rw[Ah (by unfold Region.wanted;rw[hg])]
 refine WH (Fp hn) (hs a w hf hw _ _ fun v w' h' b ho=>?_)
 rw[hd]
 exact hk v h' b _ _ (hf.put hlt v) ho
theorem OW_lo0{R:Value->Mem->Prop}(hg:o.guard=none)(hn:Gh o=true)(hd:o.dst=none)(hs:LO P n w0 b_ h l o R)(hk:∀v h',R v h'->OW P n m ops Q rest l (CX w0 b_ h')):OW P n m ops Q (o::rest) l (CX w0 b_ h):=by
 intro a w hf hw
 unfold wpListIn
 rw[Ah (by unfold Region.wanted;rw[hg])]
 refine WH (Fp hn) (hs a w hf hw _ _ fun v w' h' b ho=>?_)
 rw[hd]
 exact hk v h' b _ _ hf ho
theorem QH{Φ:World->Prop}{ι:Type}{s:Sem Value}{val:ι->Value}{R:ι->World->Prop}(hg:o.guard=none)(hn:Gh o=true)(hd:o.dst=some d)(hlt:Nat.blt d n=true)(he:∀a:Act,Fr n l a->execOp a.eval o=(do pure (.value (<-s))))(hr:∀w,Φ w->∃i w',s.run P w= .ok (val i) w'/\R i w')
  (hk:∀i,OW P n m ops Q rest ((d,val i)::l) (R i)):OW P n m ops Q (o::rest) l Φ:=by
 intro a w hf hw
 unfold wpListIn
 rw[Ah (by unfold Region.wanted;rw[hg])]
 refine⟨fun _ _=>trivial,?_⟩
 obtain⟨i,w',hrun,b⟩:=hr w hw
 rw[Oper.semAt_eq _ _ _ (Fp hn),he a hf,Ak,hrun]
 show wpListIn FW m P ops Q rest (a.put o.dst (val i)) w'
 rw[hd]
 exact hk i _ _ (hf.put hlt _) b
theorem OW_imp{Φ Ψ:World->Prop}(hi:∀w,Φ w->Ψ w)(hk:OW P n m ops Q rest l Ψ):OW P n m ops Q rest l Φ:=fun a w hf hw=>hk a w hf (hi w hw)
theorem OW_pr{Φ:World->Prop}{p:Prop}(hk:p->OW P n m ops Q rest l Φ):OW P n m ops Q rest l (fun w=>p/\Φ w):=fun a w hf hw=>hk hw.1 a w hf hw.2
end
theorem EY.all:∀(h:Mem) (r:CW),EY h r (h++[r])
 |[],_=>by repeat constructor
 |a::h,r=>by have:=EY.all h r;constructor;exact this
def IterU(P:Program)(c:FuncId)(lb:V_)(M:Mem)(keys:List Int):Prop:=
 ∀(w0:World) (b_:N_) (L:Nat) (σ:Type) (Inv:List Int->σ->Prop) (H:σ->Mem) (W:World),
  (∀R ss k x W,Inv ss x->k∈keys->k∉ss->CX w0 b_ (H x++R) W->YieldAt FW 4 P L #[Fk k] W fun e b=>e= .returned (.bool true)/\∃x',Inv (ss++[k]) x'/\CX w0 b_ (H x'++R) b)->
  (∃x,Inv [] x/\CX w0 b_ (H x++M) W)->
  CallsIn FW 5 P c (.func (.yield L) #[] #[]::lb).toArray W fun e w'=>(∃v,e= .returned v)/\∃ss x,ss.Perm keys/\Inv ss x/\CX w0 b_ (H x++M) w'
section
variable {P:Program}{n:Nat}{w0:World}{b_:N_}{l:Dh}{KD:Gg}
theorem Ui{g:Operand}{p:Nat}{assign body:Code}{o:FuncId}{lb:V_}{M:Mem}{keys:List Int}{σ Y:Type}{h:Mem}(Inv:List Int->σ->Prop)(H:σ->Mem)(J:σ->Int->Y->Dh)(I:σ->Int->Y->Mem)(m:σ)
  (E:IterU P o lb M keys) (hg:ev l g=some (.func (.func o) #[] lb.toArray)) (hent:Fc P o) (h0:Inv [] m) (hh:h=H m++M) (hps:Nat.blt p n=true)
  (S:∀R ss k x D L r,Inv ss x->k∈keys->k∉ss->VE P n w0 b_ L 4 assign (fun e l' h'=>e= .normal/\∃y,Ml (J x k y) l'/\(Js D::ES L r::(I x k y++R)).Sublist h') ((p,Fk k)::l) (Js D::ES L r::(H x++R)))
  (hB:∀R ss k x y D L r,Inv ss x->k∈keys->k∉ss->VE P n w0 b_ L 4 body (fun e _ h'=>e= .normal/\∃x',Inv (ss++[k]) x'/\(Js D::ES L r::(H x'++R)).Sublist h') (J x k y) (Js D::ES L r::(I x k y++R)))
  (hk1:∀D ss x,ss.Perm keys->Inv ss x->KD .normal l (Js D::(H x++M)) [YJ D]):
  We P n w0 b_ (.rangeFunc g #[p] assign body) KD l h []:=by
 intro act w hf ho
 subst hh
 refine(wpIn_wide (n:=6)).1 (wpIn_rangeFunc fun fn _=>?_)
 obtain⟨D,K⟩:∃D,D=w.heap.size:=⟨_,rfl⟩
 obtain⟨L,hL⟩:∃L,L=w.heap.size+1:=⟨_,rfl⟩
 obtain⟨b,hrec⟩:∃b:LoopState->Option Code->Loop,b=fun st U=>{state:=st,pending:=U,fn,tmps:=act.tmps,params:= #[p],assign:=assign,body:=body,defers:=D}:=⟨_,rfl⟩
 obtain⟨W1,q⟩:∃W1,(w.alloc (.deferred (some []))).alloc (.loop (b .ready none))=W1:=⟨_,rfl⟩
 have ho1:CX w0 b_ (((H m++M)++[Js D])++[ES L (b .ready none)]) W1:=by
  have:=Gt (Gt ho (.deferred (some []))) (.loop (b .ready none))
  rwa [q,show(w.alloc (.deferred (some []))).heap.size=L from by rw[hL];simp,<-K]at this
 have ho2:CX w0 b_ ((Js D::ES L (b .ready none)::H m)++M) W1:=ho1.perm (by
  rw[Ao (H m++M)]
  exact Av (l₁:=[Js D,ES L (b .ready none)]))
 refine⟨L,[YJ D],W1,{target:=.fn (.func o) lb.toArray,args:= #[.func (.yield L) #[] #[]]},W1,o, #[.func (.yield L) #[] #[]]++lb.toArray,W1,?_,?_,fun _ _=>trivial,?_,fun hh=>(by cases hh),?_⟩
 ·rw[<-q,hrec,hL,K];exact run_enterLoop_outer _ _ _ _ _
 ·have:act.eval g=_:=hf.eval hg
  simp only[resolve,this]
  simp[go_sem]
 ·have:=hent (#[.func (.yield L) #[] #[]]++lb.toArray) W1
  exact this
 ·have j:(#[.func (.yield L) #[] #[]]++lb.toArray:Array Value)=(.func (.yield L) #[] #[]::lb).toArray:=by simp
  rw[j]
  refine(E w0 b_ L σ Inv (fun x=>Js D::ES L (b .ready none)::H x) W1 ?_ ⟨m,h0,ho2⟩).mono ?_
  ·intro R ss k x W hx u hkn d
   have C:W.heap[L]? =some (.loop (b .ready none)):=EC d (i:=1) rfl
   have hy:=run_yield (P:=P) (args:= #[Fk k]) C (by rw[hrec];rfl)
   rw[hrec]at hy
   have hz:(#[p].zip #[Fk k]).foldl (fun tmps (t,a)=>tmps.setIfInBounds t a) act.tmps=act.tmps.setIfInBounds p (Fk k):=by simp
   have hy:(Instr.yield L #[Fk k]).run P W= .ok (.round L fn (act.tmps.setIfInBounds p (Fk k)) assign body) W:=hz▸hy
   refine⟨fn,_,_,_,hy,roundIn_of_wpIn trivial ?_⟩
   refine wpIn_mono (S R ss k x D L (b .ready none) hx u hkn _ W (hf.fr.put hps (Fk k)) d) ?_
   rintro e a1 w1 hq
   cases e with
   |normal=>
    obtain⟨V,h1,hf1,ho1',_,y,A,hmem⟩:=hq
    have ho1':=ho1'.drop hmem
    have B:w1.heap[L]? =some (.loop (b .ready none)):=EC ho1' (i:=1) rfl
    have hob:=GW ho1' (i:=1) (L:=L) rfl (.loop {b .ready none with state:=.busy})
    refine⟨_,run_beginRound B (by rw[hrec]),?_⟩
    obtain⟨busy,c⟩:∃busy,busy=({b .ready none with state:=.busy}:Loop):=⟨_,rfl⟩
    rw[<-c]at hob ⊢
    refine wpIn_mono (hB R ss k x y D L busy hx u hkn _ _ (hf1.weak A) hob) ?_
    rintro e a2 N hq2
    cases e with
    |normal=>
     obtain⟨X,h2,T,ho2,_,x',G,hm2⟩:=hq2
     have ho2:=ho2.drop hm2
     have f:N.heap[L]? =some (.loop busy):=EC ho2 (i:=1) rfl
     have ho3:=GW ho2 (i:=1) (L:=L) rfl (.loop {busy with state:=.ready,pending:=none})
     have he:=run_endRound (P:=P) none f
     refine⟨_,_,he,rfl,x',G,?_⟩
     have s:({busy with state:=.ready,pending:=none}:Loop)=b .ready none:=by rw[c,hrec]
     rw[s]at ho3
     show CX w0 b_ _ (N.putObj L (.loop ({busy with state:=.ready,pending:=none}:Loop)))
     rw[s]
     exact ho3
    |ret=>obtain⟨_,_,_,_,hc,_⟩:=hq2;cases hc
    |exit id=>obtain⟨_,_,_,_,hc,_⟩:=hq2;cases hc
    |goto t=>obtain⟨_,_,_,_,hc,_⟩:=hq2;cases hc
    |panic Q=>exact hq2.elim
    |outgrown=>exact hq2.elim
   |ret=>obtain⟨_,_,_,_,hc,_⟩:=hq;cases hc
   |exit id=>obtain⟨_,_,_,_,hc,_⟩:=hq;cases hc
   |goto id=>obtain⟨_,_,_,_,hc,_⟩:=hq;cases hc
   |panic Q=>exact hq.elim
   |outgrown=>exact hq.elim
  ·rintro e O ⟨⟨v,rfl⟩,ss,x,hp,hx,d⟩
   have f:O.heap[L]? =some (.loop (b .ready none)):=EC d (i:=1) rfl
   have he:=run_endLoop (P:=P) f (by rw[hrec];simp)
   have F:(b .ready none).pending=none:=by rw[hrec]
   rw[F]at he
   refine⟨none,_,he,?_⟩
   exact⟨l,_,[YJ D],⟨hf.fr,by show YJ D::act.defers=_;rw[hf.ds]⟩,(GW d (i:=1) (L:=L) rfl _).drop (.cons_cons _ (.cons _ (.refl _))),hk1 D ss x hp hx⟩
end
def SW(x:Nat):Nat:=(x^^^x/2 ^ 30)*13787848793156543929%18446744073709551616
def stir2(a:Nat):Nat:=(a^^^a/2 ^ 27)*10723151780598845931%18446744073709551616
def QD(x:Nat):Nat:=stir2 (SW x)^^^stir2 (SW x)/2 ^ 31
theorem RL{x y:Nat}(hx:x<18446744073709551616)(hy:y<18446744073709551616):x^^^y<18446744073709551616:=Nat.xor_lt_two_pow (n:=64) hx hy
theorem JT{a m:Nat}(ha:a<18446744073709551616):a/m<18446744073709551616:=BA (Nat.div_le_self _ _) ha
theorem TI(x:Nat):SW x<18446744073709551616:=By _ (by decide)
theorem Ki(x:Nat):stir2 x<18446744073709551616:=By _ (by decide)
theorem Kb(x:Nat):QD x<18446744073709551616:=RL (Ki _) (JT (Ki _))
def Ig(s:Nat):Nat:=(s+11400714819323198485)%18446744073709551616
theorem nxt_lt(s:Nat):Ig s<18446744073709551616:=By _ (by decide)
def bel(s:Nat)(n:Int):Nat:=if n<=1 then 0 else QD (Ig s)*n.toNat/18446744073709551616
theorem Nm{a m:Nat}(h:a<18446744073709551616)(h0:0<m):a*m/18446744073709551616<m:=
 Nat.div_lt_of_lt_mul (Nat.mul_lt_mul_of_pos_right h h0)
theorem KC(s:Nat)(n:Int)(hn:1<=n):(bel s n:Int)<n:=by
 unfold bel
 split
 ·omega
 ·have:=Nm (Kb (Ig s)) (m:=n.toNat) (by omega)
  omega
theorem bel_wrap(s:Nat)(m:Nat)(hm:m<9223372036854775808)(h1:1<m):QD (Ig s)*m/18446744073709551616<9223372036854775808:=Nat.lt_trans (Nm (Kb (Ig s)) (by omega)) hm
def frk(s x:Nat):Nat:=QD (s^^^QD ((x+1)%18446744073709551616))
theorem Wx{a b:Nat}(ha:a<4294967296)(hb:b<4294967296):a*b<=18446744065119617025:=
 Nat.mul_le_mul (Nat.le_of_lt_succ ha) (Nat.le_of_lt_succ hb)
theorem and32(x:Nat):x&&&4294967295=x%4294967296:=BQ x 32
theorem parts32(b c y1 d:Nat):(b*4294967296+c)*(y1*4294967296+d)=b*y1*18446744073709551616+b*d*4294967296+c*y1*4294967296+c*d:=by
 have e1:b*4294967296*(y1*4294967296)=b*y1*18446744073709551616:=by rw[Nat.mul_mul_mul_comm]
 have e2:b*4294967296*d=b*d*4294967296:=Nat.mul_right_comm _ _ _
 have e3:c*(y1*4294967296)=c*y1*4294967296:=(Nat.mul_assoc _ _ _).symm
 rw[Ck,Nat.mul_add,Nat.mul_add,e1,e2,e3]
 omega
def VU(w:Int):Int:=min (max w 0) 1048576
def FY(ws:List Int):Int:=ws.foldl (fun a w=>a+VU w) 0
def NH:Int->Int->List Int->Int
 |_,_,[]=>0
 |x,i,w::ws=>if x-VU w<0 then i else NH (x-VU w) (i+1) ws
theorem Ud(ws:List Int)(w:Int):FY (ws++[w])=FY ws+VU w:=by unfold FY;rw[BP];rfl
theorem clW_bd(w:Int):0<=VU w/\VU w<=1048576:=by unfold VU;omega
theorem NE{ws:List Int}{i:Nat}{w:Int}(h:ws[i]? =some w):FY (ws.take (i+1))=FY (ws.take i)+VU w:=by rw[List.take_add_one,h];exact Ud _ _
theorem MU(ws:List Int):∀i:Nat,0<=FY (ws.take i)/\FY (ws.take i)<=1048576*i
 |0=>by simp[FY]
 |i+1=>by
  have ih:=MU ws i
  cases h:ws[i]? with
  |none=>rw[AU (l:=ws) (AY (List.getElem?_eq_none_iff.1 h))];rw[AU (List.getElem?_eq_none_iff.1 h)]at ih;omega
  |some w=>rw[NE h];have:=clW_bd w;omega
theorem VD{x i:Int}{ws:List Int}{j:Nat}{w:Int}(h:ws[j]? =some w):NH x i (ws.drop j)=if x-VU w<0 then i else NH (x-VU w) (i+1) (ws.drop (j+1)):=by
 have hl:=(Ab.1 h).1
 rw[Ay hl,(Ab.1 h).2];rfl
theorem KX(x:Nat)(hx:x<18446744073709551616):Sp P0 190 [.int .u64 x] [] fun v h=>v= .int .u64 (QD x)/\h=[]:=by
 refine Sq Tryz.func190 fun w0 b_=>?_
 refine OA 8 ?_
 refine O1 (Ct.shr (m:=30) rfl rfl rfl (by decide)) ?_
 refine O1 (Qbc rfl rfl rfl hx (JT hx)) ?_
 refine OA 5 ?_
 refine O1 (Qba (j:=13787848793156543929) rfl rfl rfl) ?_
 refine OA 6 ?_
 refine O1 (Ct.shr (m:=27) rfl rfl rfl (by decide)) ?_
 refine O1 (Qbc rfl rfl rfl (TI x) (JT (TI x))) ?_
 refine OA 5 ?_
 refine O1 (Qba (j:=10723151780598845931) rfl rfl rfl) ?_
 refine OA 6 ?_
 refine O1 (Ct.shr (m:=31) rfl rfl rfl (by decide)) ?_
 refine O1 (Qbc rfl rfl rfl (Ki (SW x)) (JT (Ki (SW x)))) ?_
 refine OA 2 ?_
 exact Cu (Rr ⟨rfl,rfl⟩)
theorem Un(x y:Nat)(hx:x<18446744073709551616)(hy:y<18446744073709551616):Sp P0 174 [.int .u64 x,.int .u64 y] [] fun v h=>v= .tuple #[.int .u64 ((x*y/18446744073709551616:Nat):Int),.int .u64 ((x*y%18446744073709551616:Nat):Int)]/\h=[]:=by
 obtain⟨c,k⟩:∃a,a=x%4294967296:=⟨_,rfl⟩
 obtain⟨d,l⟩:∃a,a=x/2 ^ 32:=⟨_,rfl⟩
 obtain⟨b,n⟩:∃a,a=y%4294967296:=⟨_,rfl⟩
 obtain⟨y1,o⟩:∃a,a=y/2 ^ 32:=⟨_,rfl⟩
 have e:c<4294967296:=by omega
 have f:d<4294967296:=by omega
 have g:b<4294967296:=by omega
 have i:y1<4294967296:=by omega
 have p00:=Wx e g
 have p01:=Wx e i
 have p10:=Wx f g
 have p11:=Wx f i
 have p:x*y=d*y1*18446744073709551616+d*b*4294967296+c*y1*4294967296+c*b:=by
  rw[<-parts32,show d*4294967296+c=x from by omega,show y1*4294967296+b=y from by omega]
 refine Sq Tryz.func174 fun w0 b_=>?_
 refine OA 8 ?_
 refine O1 (Ct.andu (j:=4294967295) rfl rfl rfl hx (by decide)) ?_
 refine OA 5 ?_
 refine O1 (Ct.shr (m:=32) rfl rfl rfl (by decide)) ?_
 refine OA 5 ?_
 refine O1 (Ct.andu (j:=4294967295) rfl rfl rfl hy (by decide)) ?_
 refine OA 5 ?_
 refine O1 (Ct.shr (m:=32) rfl rfl rfl (by decide)) ?_
 refine OA 2 ?_
 refine Fb 6 (v:=.int .u64 (c:Int)) rfl (by rw[and32,k]) ?_
 refine Fb 7 (v:=.int .u64 (d:Int)) rfl (by rw[l]) ?_
 refine Fb 8 (v:=.int .u64 (b:Int)) rfl (by rw[and32,n]) ?_
 refine Fb 9 (v:=.int .u64 (y1:Int)) rfl (by rw[o]) ?_
 refine OA 4 ?_
 refine O1 (QaZ rfl rfl rfl (by omega)) ?_
 refine OA 6 ?_
 refine O1 (QaZ rfl rfl rfl (by omega)) ?_
 refine O1 DC ?_
 refine O1 (Ct.shr (m:=32) rfl rfl rfl (by decide)) ?_
 refine O1 (Qa1 rfl rfl rfl (by omega)) ?_
 refine OA 5 ?_
 refine O1 (Ct.andu (j:=4294967295) rfl rfl rfl (by omega) (by decide)) ?_
 refine OA 5 ?_
 refine O1 (Ct.shr (m:=32) rfl rfl rfl (by decide)) ?_
 refine OA 2 ?_
 refine Fb 12 (v:=.int .u64 (((d*b+c*b/4294967296)%4294967296:Nat):Int)) rfl (by rw[and32]) ?_
 refine OA 5 ?_
 refine O1 (QaZ rfl rfl rfl (by omega)) ?_
 refine O1 (Qa1 rfl rfl rfl (by omega)) ?_
 refine OA 6 ?_
 refine O1 (QaZ rfl rfl rfl (by omega)) ?_
 refine O1 DC ?_
 refine O1 (Qa1 rfl rfl rfl (by omega)) ?_
 refine O1 DC ?_
 refine O1 (Ct.shr (m:=32) rfl rfl rfl (by decide)) ?_
 refine O1 (Qa1 rfl rfl rfl (by omega)) ?_
 refine OA 6 ?_
 refine O1 (Qba rfl rfl rfl) ?_
 refine OA 2 ?_
 refine Fb 4 (v:=.int .u64 ((x*y/18446744073709551616:Nat):Int)) rfl (congrArg (fun z:Nat=>Value.int .u64 (z:Int)) (by omega)) ?_
 exact Cu (Dq rfl rfl rfl (.refl _) ⟨rfl,rfl⟩)
theorem PD(s:Nat):Sp P0 149 [.int .u64 s] [] fun v h=>∃sp,v= .pointer (some ⟨sp,0,none⟩)/\h=[blk sp (.cells #[.int .u64 s] 298 (0,0))]:=by
 refine Sq Tryz.func149 fun w0 b_=>?_
 refine OA 8 ?_
 refine O6 YR fun b=>?_
 refine OA 2 ?_
 exact Cu (CB rfl rfl (.refl _) ⟨b,rfl,rfl⟩)
theorem Nk(sp s:Nat):Sp P0 173 [Cr sp] [blk sp (.cells #[.int .u64 s] 298 (0,0))] fun v h=>v= .int .u64 (QD (Ig s))/\h=[blk sp (.cells #[.int .u64 (Ig s)] 298 (0,0))]:=by
 refine Sq Tryz.func173 fun w0 b_=>?_
 refine OA 18 ?_
 refine O1 (Ct.addu (j:=11400714819323198485) rfl rfl rfl) ?_
 refine OA 10 ?_
 refine O5 (Zc rfl (en 190) rfl (KX (Ig s) (nxt_lt s))) ?_
 refine OA 2 ?_
 exact Cu (Rr ⟨rfl,rfl⟩)
theorem Yx(sp s x:Nat)(hs:s<18446744073709551616):Sp P0 150 [Cr sp,.int .u64 x] [blk sp (.cells #[.int .u64 s] 298 (0,0))] fun v h=>∃sq,v= .pointer (some ⟨sq,0,none⟩)/\h=[blk sp (.cells #[.int .u64 s] 298 (0,0)),blk sq (.cells #[.int .u64 (frk s x)] 298 (0,0))]:=by
 refine Sq Tryz.func150 fun w0 b_=>?_
 refine OA 13 ?_
 refine Cw (.t .d) rfl (fun j=>false) ?_
 intro b
 refine DA [0,1,2,3,4] ?_
 refine D1 5 rfl (Ct.addu (j:=1) rfl rfl rfl) ?_
 refine Da 6 ?_
 refine Gz rfl (Zc rfl (en 190) rfl (KX _ (By _ (by decide)))) ?_
 refine D1 7 rfl (Qbc rfl rfl rfl hs (Kb _)) ?_
 refine Da 8 ?_
 refine Gz rfl (Zc rfl (en 190) rfl (KX _ (RL hs (Kb _)))) ?_
 refine Da 9 ?_
 refine D6 rfl (YP rfl (en 149) rfl (.d) (PD _)) ?_
 rintro _ _ ⟨_,⟨sq,rfl,rfl⟩,rfl⟩
 refine ys (D1 10 rfl FC ?_)
 refine D0 ?_
 exact Cu (CB rfl rfl (.refl _) ⟨sq,rfl,rfl⟩)
theorem HE(sp s:Nat)(n:Int)(hn:n<=9223372036854775807):Sp P0 124 [Cr sp,Cs n] [blk sp (.cells #[.int .u64 s] 298 (0,0))] fun v h=>v= Cs (bel s n)/\h=[blk sp (.cells #[.int .u64 (Ig s)] 298 (0,0))]:=by
 refine Sq Tryz.func124 fun w0 b_=>?_
 refine OA 10 ?_
 refine Cy rfl (fun b=>?_) (fun b=>?_)
 ·refine OA 3 ?_
  refine O8 (Zd rfl (en 173) rfl (.p0 .d) (Nk sp s)) ?_
  refine OA 5 ?_
  exact Cu (CB rfl rfl (.refl _) ⟨by unfold bel;rw[Ah b];rfl,rfl⟩)
 obtain⟨m,rfl⟩:=Cg (show 0<=n by omega)
 have hb:bel s m=QD (Ig s)*m/18446744073709551616:=by unfold bel;rw[Aa b,Bf]
 have hw:=bel_wrap s m (by omega) (by omega)
 have hnx:=Nk sp s
 have hxl:=Kb (Ig s)
 generalize QD (Ig s)=x at hb hw hnx hxl
 refine OA 4 ?_
 refine O8 (Zd rfl (en 173) rfl (.p0 .d) (hnx)) ?_
 refine O1 DC ?_
 refine O1 (Zw rfl rfl u3 u22 (Eh (a:=m) (by omega))) ?_
 refine O5 (Zc rfl (en 174) rfl (Un x m hxl (by omega))) ?_
 refine OA 9 ?_
 refine O1 (Zw rfl rfl u22 u3 (DU hw)) ?_
 refine OA 2 ?_
 exact Cu (CB rfl rfl (.refl _) ⟨by rw[hb],rfl⟩)
theorem TV(sp s:Nat)(a:A_)(c:Nat)(ws:List Int)(r:CW)(hr:Reads r a (ws.map (Value.int .i64)))(hl:ws.length<=1000):
  Sp P0 125 [Cr sp,.slice a ws.length c] [blk sp (.cells #[.int .u64 s] 298 (0,0)),r] fun v h=>v= Cs (NH (bel s (FY ws)) 0 ws)/\h=[r,blk sp (.cells #[.int .u64 (Ig s)] 298 (0,0))]:=by
 have hall:=MU ws ws.length
 rw[BJ]at hall
 refine Sq Tryz.func125 fun w0 b_=>?_
 refine OA 16 ?_
 refine CD (fun i:Nat=>[(0,Cr sp),(1,.slice a ws.length c),(5,Cs (FY (ws.take i))),(11,.slice a ws.length c),(12,Cs ws.length),(13,Cs i)]) (fun _=>[blk sp (.cells #[.int .u64 s] 298 (0,0)),r]) (fun i=>i<=ws.length) (fun i=>ws.length-i) 0 ?_ ?_
 ·exact⟨Af _,Sb6,.refl _⟩
 intro i hi
 refine OA 5 ?_
 refine Cy rfl (fun f=>?_) (fun f=>?_)
 ·obtain⟨x,hx⟩:∃x,ws[i]? =some x:=⟨_,Ae (by omega)⟩
  have b:(ws.map (Value.int .i64))[i]? =some (Value.int .i64 x):=by rw[Aq,hx];rfl
  have hb:=MU ws i
  refine CM at1 hr b fun ad e=>?_
  subst e
  refine OA 5 ?_
  refine O1 (GO (i) u28) ?_
  refine O1 (Ct.reads (j:=i) rfl rfl at1 hr u3 rfl b) ?_
  refine OA 5 ?_
  refine O1 (Zq rfl rfl rfl) ?_
  refine O1 (Zo rfl rfl rfl) ?_
  refine OA 7 ?_
  exact⟨i+1,⟨by omega,⟨rfl,rfl,Dd rfl (NE hx).symm,rfl,rfl,rfl,trivial⟩,.refl _⟩,by omega⟩
 obtain rfl:i=ws.length:=by omega
 refine Fb 5 (v:=Cs (FY ws)) rfl (by rw[BJ]) ?_
 have hbl:(bel s (FY ws):Int)<=1048576000:=by
  by_cases h:1<=FY ws
  ·have:=KC s _ h;omega
  ·unfold bel;rw[Ah (by omega)];decide
 refine OA 5 ?_
 refine O8 (Zd rfl (en 124) rfl (.p0 .d) (HE sp s (FY ws) (by omega))) ?_
 refine OA 10 ?_
 refine CD (fun((i,x):Nat×Int)=>[(8,Cs x),(26,.slice a ws.length c),(27,Cs ws.length),(28,Cs i)]) (fun _=>[r,blk sp (.cells #[.int .u64 (Ig s)] 298 (0,0))]) (fun(i,x)=>i<=ws.length/\0<=x/\x<=1048576000/\NH x i (ws.drop i)=NH (bel s (FY ws)) 0 ws) (fun(i,_)=>ws.length-i) (0,((bel s (FY ws):Nat):Int)) ?_ ?_
 ·exact⟨⟨Af _,Int.natCast_nonneg _,hbl,rfl⟩,Sb4,.refl _⟩
 rintro⟨i,x⟩ ⟨hi,l,m,he⟩
 conv=>arg 7;dsimp only
 conv=>arg 8;dsimp only
 refine OA 5 ?_
 refine Cy rfl (fun g=>?_) (fun g=>?_)
 ·obtain⟨w,hw⟩:∃x,ws[i]? =some x:=⟨_,Ae (by omega)⟩
  have b:(ws.map (Value.int .i64))[i]? =some (Value.int .i64 w):=by rw[Aq,hw];rfl
  have hcw:=clW_bd w
  rw[VD hw]at he
  have k:min (max w 0) 1048576=VU w:=rfl
  refine CM at0 hr b fun ad e=>?_
  subst e
  refine OA 6 ?_
  refine O1 (GO (i) u28) ?_
  refine O1 (Ct.reads (j:=i) rfl rfl at0 hr u3 rfl b) ?_
  refine OA 7 ?_
  refine O1 (Zq rfl rfl rfl) ?_
  refine O1 (Zo rfl rfl rfl) ?_
  refine OA 8 ?_
  refine Cy rfl (fun d=>?_) (fun d=>?_)
  ·rw[Ah (show x-VU w<0 from d)]at he
   refine OA 5 ?_
   exact Cu (CB rfl (CT rfl (congrArg (Value.int .i64) he)) (.refl _) ⟨rfl,rfl⟩)
  rw[Aa (show ¬x-VU w<0 from d)]at he
  refine OA 5 ?_
  exact⟨(i+1,x-VU w),⟨⟨by omega,by omega,by omega,he⟩,Sb4,.refl _⟩,by simp only;omega⟩
 rw[AM (by omega)]at he
 refine OA 5 ?_
 exact Cu (CB rfl (CT rfl (congrArg (Value.int .i64) he)) (.refl _) ⟨rfl,rfl⟩)
structure PlM where
 keys:Int
 most:Int
 reads:Int
 writes:Int
 both:Int
 scans:Int
abbrev plv(p:PlM):V_:=[Cs p.keys,Cs p.most,Cs p.reads,Cs p.writes,Cs p.both,Cs p.scans]
structure PlM.Ok(p:PlM):Prop where
 keys:1<=p.keys/\p.keys<=16
 most:1<=p.most/\p.most<=12
 reads:0<=p.reads/\p.reads<=1000
 writes:0<=p.writes/\p.writes<=1000
 both:0<=p.both/\p.both<=1000
 scans:0<=p.scans/\p.scans<=1000
 some:1<=p.reads+p.writes+p.both+p.scans
def PlM.ws(p:PlM):List Int:=[p.reads,p.writes,p.both,p.scans]
structure EJ where
 p:PlM
 client:Nat
 n:Nat
 s:Nat
abbrev gnc(g:EJ)(sp:Nat):V_:=[Cs g.p.keys,Cs g.p.most,Cs g.p.reads,Cs g.p.writes,Cs g.p.both,Cs g.p.scans,Cs g.client,Cs g.n,Cr sp]
def QB(q:Nat)(g:EJ)(rs:Mem):Prop:=∃sp,rs=[blk q (.cells (gnc g sp).toArray 225 (0,0)),blk sp (.cells #[.int .u64 g.s] 298 (0,0))]
def EJ.setS(g:EJ)(s:Nat):EJ:=⟨g.p,g.client,g.n,s⟩
def EJ.val(g:EJ):Int:=((16*(g.n+1)+(g.client-1):Nat):Int)
def Gb(CK keys:Int):Nat->Int->List Es->List Es
 |0,_,out=>out
 |n+1,key,out=>if(out.length:Int)<CK/\key<keys then Gb CK keys n (key+1) (out++[⟨1,key,0⟩])else out
def EJ.stepX(g:EJ)(CK:Int)(out:List Es)(key x:Int):EJ×List Es:=
 if x=0 then (g,out++[⟨1,key,0⟩])
 else if x=1 then ({g with n:=g.n+1},out++[⟨2,key,g.val⟩])
 else if x=2 then if((out++[(⟨1,key,0⟩:Es)]).length:Int)<CK then ({g with n:=g.n+1},(out++[⟨1,key,0⟩])++[⟨2,key,g.val⟩])else (g,out++[⟨1,key,0⟩])
 else (g.setS (Ig g.s),Gb CK g.p.keys (1+bel g.s 3) key out)
def EJ.pick(g:EJ):Int:=NH (bel (Ig g.s) (FY g.p.ws)) 0 g.p.ws
def EJ.step(g:EJ)(CK:Int)(out:List Es):EJ×List Es:=(g.setS (Ig (Ig g.s))).stepX CK out (bel g.s g.p.keys) g.pick
def ZJ(CK:Int):Nat->EJ->List Es->EJ×List Es
 |0,g,out=>(g,out)
 |k+1,g,out=>if(out.length:Int)<CK then ZJ CK k (g.step CK out).1 (g.step CK out).2 else (g,out)
def EJ.next(g:EJ):EJ×List Es:=ZJ (1+(bel g.s g.p.most:Nat)) 13 (g.setS (Ig g.s)) []
def Es.In(keys b:Int)(o:Es):Prop:=(o.kind=1∨o.kind=2)/\0<=o.key/\o.key<keys/\0<=o.val/\o.val<=b
theorem Pm(CK keys:Int):∀(n:Nat) (key:Int) (out:List Es),(out.length:Int)<=CK->out.length<=(Gb CK keys n key out).length/\((Gb CK keys n key out).length:Int)<=CK
 |0,key,out,h=>⟨Al _,h⟩
 |n+1,key,out,h=>by
  unfold Gb
  split
  ·rename_i hc
   have:=Pm CK keys n (key+1) (out++[⟨1,key,0⟩]) (by rw[Ac,Be];omega)
   rw[Ac,Be]at this
   omega
  ·omega
theorem Sb(CK keys b:Int)(hb:0<=b):∀(n:Nat) (key:Int) (out:List Es),0<=key->(∀o∈out,o.In keys b)->∀o∈Gb CK keys n key out,o.In keys b
 |0,key,out,_,h=>h
 |n+1,key,out,hk,h=>by
  unfold Gb
  split
  ·rename_i hc
   refine Sb CK keys b hb n (key+1) _ (by omega) fun o ho=>?_
   rcases AC.1 ho with ho|ho
   ·exact h o ho
   ·rw[Ap.1 ho];exact⟨.inl rfl,hk,hc.2,AK 0,hb⟩
  ·exact h
structure EJ.Ok(g:EJ)(b:Nat):Prop where
 p:g.p.Ok
 client:1<=g.client/\g.client<=16
 n:g.n<=b
theorem Qa5(g:EJ)(s:Nat):(g.setS s).p=g.p:=rfl
theorem Qa3(g:EJ)(s:Nat):(g.setS s).client=g.client:=rfl
theorem EJ.Ok.setS{g:EJ}{b:Nat}(h:g.Ok b)(s:Nat):(g.setS s).Ok b:=⟨h.p,h.client,h.n⟩
theorem stepX_ok{g:EJ}{b:Nat}(h:g.Ok b){CK:Int}{out:List Es}(hw:(out.length:Int)<CK){key x:Int}(h0:0<=key)(hk:key<g.p.keys){c:Int}(hc:16*(b:Int)+31<=c)(ho:∀o∈out,o.In g.p.keys c):
  (g.stepX CK out key x).1.Ok (b+1)/\(g.stepX CK out key x).1.p=g.p/\(g.stepX CK out key x).1.client=g.client/\out.length<(g.stepX CK out key x).2.length/\((g.stepX CK out key x).2.length:Int)<=CK/\∀o∈(g.stepX CK out key x).2,o.In g.p.keys c:=by
 have hn:=h.n;have hcl:=h.client
 have k0:g.Ok (b+1):=⟨h.p,h.client,by omega⟩
 have k1:({g with n:=g.n+1}:EJ).Ok (b+1):=⟨h.p,h.client,Ci hn⟩
 have k2:(g.setS (Ig g.s)).Ok (b+1):=k0.setS _
 have f:∀o∈out++[(⟨1,key,0⟩:Es)],o.In g.p.keys c:=fun o h=>by
  rcases AC.1 h with h|h
  ·exact ho o h
  ·rw[Ap.1 h];exact⟨.inl rfl,h0,hk,AK 0,by show 0<=c;omega⟩
 have i:(⟨2,key,g.val⟩:Es).In g.p.keys c:=⟨.inr rfl,h0,hk,by show 0<=g.val;unfold EJ.val;omega,by show g.val<=c;unfold EJ.val;omega⟩
 have d:(out++[(⟨1,key,0⟩:Es)]).length=out.length+1:=by rw[Ac,Be]
 unfold EJ.stepX
 split
 ·exact⟨k0,rfl,rfl,by rw[d];omega,by rw[d];omega,f⟩
 split
 ·refine⟨k1,rfl,rfl,by simp,by simp;omega,fun o h=>?_⟩
  rcases AC.1 h with h|h
  ·exact ho o h
  ·rw[Ap.1 h];exact i
 split
 ·split
  ·rename_i hq
   refine⟨k1,rfl,rfl,by rw[Ac,d];omega,by rw[d]at hq;rw[Ac,d,Be];omega,fun o h=>?_⟩
   rcases AC.1 h with h|h
   ·exact f o h
   ·rw[Ap.1 h];exact i
  ·exact⟨k0,rfl,rfl,by rw[d];omega,by rw[d];omega,f⟩
 ·obtain⟨t,ht⟩:∃t,t=bel g.s 3:=⟨_,rfl⟩
  rw[<-ht]
  have e:Gb CK g.p.keys (1+t) key out=Gb CK g.p.keys t (key+1) (out++[⟨1,key,0⟩]):=by
   rw[Nat.add_comm];show(if _ then _ else _)=_;rw[Ah ⟨hw,hk⟩]
  have:=Pm CK g.p.keys t (key+1) (out++[⟨1,key,0⟩]) (by rw[d];omega)
  rw[d]at this
  refine⟨k2,Qa5 _ _,Qa3 _ _,by show _<(Gb _ _ _ _ _).length;rw[e];omega,by show((Gb _ _ _ _ _).length:Int)<=_;rw[e];omega,?_⟩
  exact Sb CK g.p.keys c (by omega) _ _ _ h0 ho
theorem VJ{g:EJ}{b:Nat}(h:g.Ok b){CK:Int}{out:List Es}(hw:(out.length:Int)<CK){c:Int}(hc:16*(b:Int)+31<=c)(ho:∀o∈out,o.In g.p.keys c):
  (g.step CK out).1.Ok (b+1)/\(g.step CK out).1.p=g.p/\(g.step CK out).1.client=g.client/\out.length<(g.step CK out).2.length/\((g.step CK out).2.length:Int)<=CK/\∀o∈(g.step CK out).2,o.In g.p.keys c:=by
 have hp:(g.setS (Ig (Ig g.s))).p=g.p:=Qa5 _ _
 have hcl:(g.setS (Ig (Ig g.s))).client=g.client:=Qa3 _ _
 have hk:((bel g.s g.p.keys:Nat):Int)<(g.setS (Ig (Ig g.s))).p.keys:=by rw[hp];exact KC _ _ h.p.keys.1
 have:=stepX_ok (h.setS (Ig (Ig g.s))) hw (x:=g.pick) (Int.natCast_nonneg _) hk hc (by rw[hp];exact ho)
 rw[hp,hcl]at this
 exact this
theorem WJ{CK:Int}{c:Int}:∀(k:Nat) {g:EJ} {b:Nat} {out:List Es},g.Ok b->(out.length:Int)<=CK->CK<=out.length+k->16*((b+k:Nat):Int)+31<=c->(∀o∈out,o.In g.p.keys c)->
  (ZJ CK k g out).1.Ok (b+k)/\(ZJ CK k g out).1.p=g.p/\(ZJ CK k g out).1.client=g.client/\((ZJ CK k g out).2.length:Int)=CK/\∀o∈(ZJ CK k g out).2,o.In g.p.keys c
 |0,g,b,out,h,h1,h2,_,ho=>⟨h,rfl,rfl,by show(out.length:Int)=CK;omega,ho⟩
 |k+1,g,b,out,h,h1,h2,hc,ho=>by
  unfold ZJ
  split
  ·rename_i hw
   obtain⟨a1,a2,a3,a4,a5,a6⟩:=VJ h hw (c:=c) (by omega) ho
   obtain⟨b1,b2,b3,b4,d⟩:=WJ k (g:=(g.step CK out).1) (b:=b+1) a1 a5 (by omega) (c:=c) (by omega) (by rw[a2];exact a6)
   refine⟨?_,b2.trans a2,b3.trans a3,b4,by rw[a2]at d;exact d⟩
   rw[show b+(k+1)=b+1+k by omega];exact b1
  ·exact⟨⟨h.p,h.client,by have:=h.n;show g.n<=_;omega⟩,rfl,rfl,by show(out.length:Int)=CK;omega,ho⟩
theorem Qq{g:EJ}{b:Nat}(h:g.Ok b){c:Int}(hc:16*(b:Int)+255<=c):g.next.1.Ok (b+13)/\g.next.1.p=g.p/\g.next.1.client=g.client/\1<=g.next.2.length/\(g.next.2.length:Int)<=g.p.most/\∀o∈g.next.2,o.In g.p.keys c:=by
 have h1:=KC g.s g.p.most h.p.most.1
 have h2:=h.p.most
 have hp:(g.setS (Ig g.s)).p=g.p:=Qa5 _ _
 have hcl:(g.setS (Ig g.s)).client=g.client:=Qa3 _ _
 obtain⟨b1,b2,b3,b4,d⟩:=WJ (CK:=1+(bel g.s g.p.most:Nat)) 13 (b:=b) (out:=[]) (h.setS (Ig g.s)) (by simp;omega) (by simp;omega) (c:=c) (by omega) (fun _ h=>by cases h)
 rw[hp]at b2 d
 rw[hcl]at b3
 have e:g.next=ZJ (1+(bel g.s g.p.most:Nat)) 13 (g.setS (Ig g.s)) []:=rfl
 rw[e]
 exact⟨b1,b2,b3,by omega,by omega,d⟩
theorem or15(n c:Nat)(hc:1<=c/\c<=16):(n*2 ^ 4)|||(c-1)=16*n+(c-1):=by
 rw[Nat.mul_comm,<-Nat.two_pow_add_eq_or_of_lt (by omega)]
theorem Lv(p:PlM)(hp:p.Ok):Sp P0 97 [.agg (plv p).toArray] [] fun v h=>v= Cs 0/\h=[]:=by
 have h1:=hp.keys;have h2:=hp.most;have h3:=hp.reads;have h4:=hp.writes;have h5:=hp.both;have h6:=hp.scans;have h7:=hp.some
 refine Sq Tryz.func97 fun w0 b_=>?_
 refine OA 2 ?_
 refine O6 YR fun b1=>?_
 refine OA 13 ?_
 refine O6 (Lbs [Cs 0,Cs 0,Cs 0,Cs 0] u28) fun e=>?_
 refine OA 4 ?_
 refine CD (fun i:Nat=>[(1,Cr b1),(13,.slice (some ⟨e,0,none⟩) 4 4),(14,Cs (4:Nat)),(15,Cs i)]) (fun _=>[blk b1 (.cells (plv p).toArray 24 (0,0)),blk e (.cells (p.ws.map (Value.int .i64)).toArray 3 (0,0))]) (fun i=>i<=4) (fun i=>4-i) 0 ?_ ?_
 ·exact⟨Af _,Sb4,.refl _⟩
 intro i hi
 refine OA 5 ?_
 refine Cy rfl (fun b=>?_) (fun b=>?_)
 ·obtain⟨w,hw,q⟩:∃w,p.ws[i]? =some w/\0<=w/\w<=1000:=by
   match i,b with
   |0,_=>exact⟨_,rfl,h3⟩
   |1,_=>exact⟨_,rfl,h4⟩
   |2,_=>exact⟨_,rfl,h5⟩
   |3,_=>exact⟨_,rfl,h6⟩
   |n+4,h=>omega
  have o:(p.ws.map (Value.int .i64))[i]? =some (Cs w):=by rw[Aq,hw];rfl
  refine OA 5 ?_
  refine O1 (GO (i) u28) ?_
  refine O1 (Ct.reads (j:=i) rfl rfl at1 Reads.blk u3 rfl o) ?_
  refine OA 3 ?_
  refine CQ 24 (w<0∨1000<w) ?_ ?_
  ·refine OA 4 ?_
   refine CJ 21 rfl (fun f=>?_) (fun f=>?_)
   ·refine OA 4 ?_
    exact Ex
   refine OA 4 ?_
   exact Ex
  refine Cy rfl (fun c=>absurd c (by omega)) fun c=>?_
  refine OA 5 ?_
  exact⟨i+1,⟨by omega,Sb4,.refl _⟩,by omega⟩
 refine OA 3 ?_
 refine CQ 57 (p.keys<1∨16<p.keys∨p.most<1∨12<p.most∨p.reads+p.writes+p.both+p.scans=0) ?_ ?_
 ·refine OA 5 ?_
  refine CJ 29 rfl (fun g=>?_) (fun g=>?_)
  ·refine OA 29 ?_
   exact Ex
  refine OA 5 ?_
  refine CJ 34 rfl (fun k=>?_) (fun k=>?_)
  ·refine OA 24 ?_
   exact Ex
  refine OA 5 ?_
  refine CJ 39 rfl (fun l=>?_) (fun l=>?_)
  ·refine OA 19 ?_
   exact Ex
  refine OA 5 ?_
  refine CJ 44 rfl (fun m=>?_) (fun m=>?_)
  ·refine OA 14 ?_
   exact Ex
  refine OA 14 ?_
  exact Ex
 refine Cy rfl (fun d=>absurd d (by omega)) fun d=>?_
 refine OA 5 ?_
 exact Cu (CB rfl rfl (An _) ⟨rfl,rfl⟩)
theorem Yt(p:PlM)(hp:p.Ok)(cl:Nat)(hc:1<=cl/\cl<=16)(s:Nat)(hs:s<18446744073709551616):Sp P0 99 [.agg (plv p).toArray,Cs cl,.int .u64 s] [] fun v h=>∃q S,v= .tuple #[Cr q,Cs 0]/\h=[cm S (QB q ⟨p,cl,0,frk s cl⟩)]:=by
 refine Sq Tryz.func99 fun w0 b_=>?_
 refine OA 2 ?_
 refine O6 YR fun b3=>?_
 refine OA 7 ?_
 refine O5 (Zc rfl (en 97) rfl (Lv p hp)) ?_
 refine OA 7 ?_
 refine CH rfl (fun b=>absurd rfl b) fun b=>?_
 refine OA 3 ?_
 refine CQ 19 ((cl:Int)<1∨16<(cl:Int)) ?_ ?_
 ·refine OA 4 ?_
  refine CJ 16 rfl (fun e=>?_) (fun e=>?_)
  ·refine OA 4 ?_
   exact Ex
  refine OA 4 ?_
  exact Ex
 refine Cy rfl (fun c=>absurd c (by omega)) fun c=>?_
 refine OA 2 ?_
 refine Cw (.t .d) rfl (fun j=>false) ?_
 intro f
 refine DA [0,1,2,4] ?_
 refine D1 5 rfl (Zw rfl rfl u3 u22 (Eh (a:=cl) (by omega))) ?_
 refine Da 3 ?_
 refine D6 rfl (YP rfl (en 149) rfl (.d) (PD s)) ?_
 rintro _ _ ⟨_,⟨sp,rfl,rfl⟩,rfl⟩
 refine ys (Da 6 ?_)
 refine DB rfl rfl (en 150) rfl (.p1 .d) (Yx sp s cl hs) ?_
 rintro _ _ ⟨sq,rfl,rfl⟩
 refine ys (D1 7 rfl (Xb bt225.h) ?_)
 refine Da 8 ?_
 refine D6 rfl YR ?_
 rintro _ _ ⟨d,rfl,rfl⟩
 refine ys (DA [9,10] ?_)
 refine D0 (Tx (YL (.p3 (.p2 .d)) (A:=QB d ⟨p,cl,0,frk s cl⟩) ⟨sq,rfl⟩) fun S=>Tp (.t2 .e) ?_)
 exact Cu (Dq rfl rfl rfl (.refl _) ⟨d,S,rfl,rfl⟩)
theorem NJ(q sp:Nat)(g:EJ)(hc:1<=g.client/\g.client<=16)(hn:g.n<=1000000):Sp P0 126 [Cr q] [blk q (.cells (gnc g sp).toArray 225 (0,0))] fun v h=>v= Cs g.val/\h=[blk q (.cells (gnc {g with n:=g.n+1} sp).toArray 225 (0,0))]:=by
 refine Sq Tryz.func126 fun w0 b_=>?_
 refine OA 16 ?_
 refine Cw (.t .d) rfl (fun j=>false) ?_
 intro b
 refine DA [0,1,2,3] ?_
 refine D1 4 rfl (Ct.shl (i:=g.n+1) (m:=4) rfl rfl rfl (by decide) (DU (by omega))) ?_
 refine DA [5,6,7,8,9] ?_
 refine D1 10 rfl (Ct.or (i:=(g.n+1)*2 ^ 4) (j:=g.client-1) rfl rfl (Dd rfl (by omega)) (by omega) (by omega)) ?_
 refine D1 11 rfl FC ?_
 refine D0 ?_
 exact Cu (CB rfl (CT rfl (by unfold EJ.val;rw[or15 _ _ hc])) (.refl _) ⟨rfl,rfl⟩)
theorem Ni(q:Nat)(S:N_)(g:EJ)(b:Nat)(hg:g.Ok b)(hb:b<=900000):Sp P0 63 [Cr q] [cm S (QB q g)] fun v h=>∃a c S',v= .slice a g.next.2.length c/\h=[cm S' (QB q g.next.1),sq a g.next.2.length c 64 3 (g.next.2.flatMap Et)]:=by
 have q1:=hg.p.keys;have q2:=hg.p.most;have q3:=KC g.s g.p.most q2.1
 obtain⟨CK,E⟩:∃w:Int,w=1+(bel g.s g.p.most:Nat):=⟨_,rfl⟩
 obtain⟨V,M⟩:∃s,s=Ig g.s:=⟨_,rfl⟩
 have hnx:g.next=ZJ CK 13 (g.setS V) []:=by rw[E,M];rfl
 refine Sq Tryz.func63 fun w0 b_=>?_
 refine Cx (Cv.op (.p0 .d)) ?_
 rintro _ ⟨_,⟨sp,rfl⟩,rfl⟩
 refine OA 13 ?_
 refine Cw (.t (.s .d)) rfl (fun j=>false) ?_
 intro J
 refine DA [0,1,2,3,4,5,6,7,8] ?_
 refine Da 9 ?_
 refine DB rfl rfl (en 124) rfl (.p1 .d) (HE sp g.s g.p.most (by omega)) ?_
 rintro _ _ ⟨rfl,rfl⟩
 refine ys (DA [10,11] ?_)
 refine OA 5 ?_
 refine Fb 3 (v:=Cs CK) rfl (by rw[E]) ?_
 rw[<-M]
 refine Ti (Cv.nil 64 3) (OA 2 ?_)
 refine CD (fun((k,d,out,e,l):Nat×EJ×List Es×A_×Nat)=>[(0,Cr q),(3,Cs CK),(4,.slice e out.length l)]) (fun(k,d,out,e,l)=>[blk q (.cells (gnc d sp).toArray 225 (0,0)),blk sp (.cells #[.int .u64 ((d).s)] 298 (0,0)),sq e out.length l 64 3 (out.flatMap Et)]) (fun(k,d,out,_)=>d.Ok (b+(13-k))/\d.p=g.p/\k<=13/\(out.length:Int)<=CK/\CK<=out.length+k/\(∀o∈out,o.In d.p.keys 16777216)/\ZJ CK k d out=g.next) (fun(k,_)=>k) (13,g.setS V,[],none,0) ?_ ?_
 ·exact⟨⟨hg.setS V,rfl,Al _,by simp;omega,by simp;omega,(fun _ h=>by cases h),hnx.symm⟩,Sb3,.refl _⟩
 rintro⟨k,d,out,e,l⟩ ⟨hd,R,hk,h1,h2,T,he⟩
 conv=>arg 7;dsimp only
 conv=>arg 8;dsimp only
 refine OA 8 ?_
 refine Cy rfl (fun C=>?_) (fun C=>?_)
 ·obtain⟨k,rfl⟩:∃j,k=j+1:=⟨k-1,by omega⟩
  have G:ZJ CK (k+1) d out=if(out.length:Int)<CK then ZJ CK k (d.step CK out).1 (d.step CK out).2 else (d,out):=rfl
  rw[G,Ah C]at he
  have hstep:=VJ hd C (c:=16777216) (by omega) T
  have hdk:=hd.p.keys
  have hdn:=hd.n
  obtain⟨key,B⟩:∃z:Int,z=(bel d.s d.p.keys:Nat):=⟨_,rfl⟩
  have hkb:=KC d.s d.p.keys hdk.1
  rw[<-B]at hkb
  have U:0<=key:=by rw[B];exact Int.natCast_nonneg _
  obtain⟨x,hx⟩:∃z:Int,z=d.pick:=⟨_,rfl⟩
  obtain⟨sA,H⟩:∃s,s=Ig d.s:=⟨_,rfl⟩
  obtain⟨sB,K⟩:∃s,s=Ig sA:=⟨_,rfl⟩
  obtain⟨sC,L⟩:∃s,s=Ig sB:=⟨_,rfl⟩
  have hst:d.step CK out=(d.setS sB).stepX CK out key x:=by rw[B,hx,K,H];rfl
  have P:(d.setS sB).val=d.val:=rfl
  refine OA 3 ?_
  refine Cw (.t (.s (.s .d))) rfl (fun j=>false) ?_
  intro J
  refine DA [0,1,2,3,4,5,6,7,8] ?_
  refine Da 9 ?_
  refine DB rfl rfl (en 124) rfl (.p1 .d) (HE sp d.s d.p.keys (by omega)) ?_
  rintro _ _ ⟨rfl,rfl⟩
  refine ys (D1 10 rfl FC ?_)
  refine D0 (Fb 5 (v:=Cs key) rfl (by rw[B]) ?_)
  rw[<-H]
  refine Tp (.t0 (.t1 (.t0 .e))) (Ts (Cw (.t (.s (.s .d))) rfl (fun j=>false) ?_))
  intro J
  refine DA [0,1,2,3,4,5,6,7,8,9,10,11,12,13,14,15,16,17,18,19,20,21,22,23] ?_
  refine Da 24 ?_
  refine D6 rfl (Lbs [Cs 0,Cs 0,Cs 0,Cs 0] u28) ?_
  rintro _ _ ⟨Q,rfl,rfl⟩
  refine ys (Da 25 ?_)
  refine DB rfl rfl (en 125) rfl (.p1 (.p2 .d)) (TV sp sA (some ⟨Q,0,none⟩) 4 d.p.ws _ Reads.blk (by show 4<=1000;decide)) ?_
  rintro _ _ ⟨rfl,rfl⟩
  refine ys (D0 ?_)
  refine Fb 59 (v:=Cs x) rfl (by rw[hx,H];rfl) ?_
  rw[<-K]
  refine Tp (.t0 (.t2 (.t0 .e))) (CP (fun((e,l):A_×Nat)=>[(0,Cr q),(3,Cs CK),(4,.slice e (d.step CK out).2.length l)]) (fun(e,l)=>[blk q (.cells (gnc (d.step CK out).1 sp).toArray 225 (0,0)),blk sp (.cells #[.int .u64 (((d.step CK out).1).s)] 298 (0,0)),sq e (d.step CK out).2.length l 64 3 ((d.step CK out).2.flatMap Et)]) (fun _=>True) ?_ ?_)
  ·refine OA 6 ?_
   refine Cy rfl (fun f=>?_) (fun f=>?_)
   ·rw[show d.step CK out=(d.setS sB,out++[⟨1,key,0⟩]) by rw[hst];unfold EJ.stepX;rw[Ah f]]
    refine OA 4 ?_
    refine O6 (YY u60) fun a2=>?_
    refine O2 (LO.app (ao:=e) Qn) ?_
    rintro _ _ ⟨r,y,rfl,rfl⟩
    refine OA 2 ?_
    exact⟨(r,y),trivial,⟨rfl,rfl,by simp only[List.length_append,List.length_cons,List.length_nil];exact rfl,trivial⟩,by simp only[List.length_append,List.length_cons,List.length_nil,List.flatMap_append,List.flatMap_cons,List.flatMap_nil];exact .cons_cons _ (.cons_cons _ (.cons_cons _ (List.nil_sublist _)))⟩
   refine OA 5 ?_
   refine Cy rfl (fun p=>?_) (fun p=>?_)
   ·rw[show d.step CK out=({d.setS sB with n:=d.n+1},out++[⟨2,key,d.val⟩]) by rw[hst];unfold EJ.stepX;rw[Aa f,Ah p,P];rfl]
    refine OA 4 ?_
    refine O8 (Zd rfl (en 126) rfl (.p0 .d) (NJ q sp d hd.client (by omega))) ?_
    refine Oi (YN (.t2 (.t0 (.t0 .e)))) ?_
    refine O1 (Xb bt64.h) ?_
    refine O6 (YY u60) fun Y=>?_
    refine O2 (LO.app (ao:=e) Qn) ?_
    rintro _ _ ⟨r,y,rfl,rfl⟩
    refine OA 2 ?_
    exact⟨(r,y),trivial,⟨rfl,rfl,by simp only[List.length_append,List.length_cons,List.length_nil];exact rfl,trivial⟩,by simp only[List.length_append,List.length_cons,List.length_nil,List.flatMap_append,List.flatMap_cons,List.flatMap_nil];exact .cons_cons _ (.cons_cons _ (.cons_cons _ (List.nil_sublist _)))⟩
   refine OA 5 ?_
   refine Cy rfl (fun i=>?_) (fun i=>?_)
   ·refine OA 5 ?_
    refine O6 (YY u60) fun Z=>?_
    refine O2 (LO.app (ao:=e) Qn) ?_
    rintro _ _ ⟨r,y,rfl,rfl⟩
    refine OA 9 ?_
    refine Cy rfl (fun t=>?_) (fun t=>?_)
    ·rw[show d.step CK out=({d.setS sB with n:=d.n+1},(out++[⟨1,key,0⟩])++[⟨2,key,d.val⟩]) by rw[hst];unfold EJ.stepX;rw[Aa f,Aa p,Ah i,Ah (by simpa using t),P];rfl]
     refine OA 4 ?_
     refine O8 (Zd rfl (en 126) rfl (.p0 .d) (NJ q sp d hd.client (by omega))) ?_
     refine Oi (YN (.t3 (.t0 (.t0 .e)))) ?_
     refine O1 (Xb bt64.h) ?_
     refine O6 (YY u60) fun a0=>?_
     refine O2 (LO.app (ao:=r) Qn) ?_
     rintro _ _ ⟨W,X,rfl,rfl⟩
     refine OA 2 ?_
     exact⟨(W,X),trivial,⟨rfl,rfl,by simp only[List.length_append,List.length_cons,List.length_nil];exact rfl,trivial⟩,by simp only[List.length_append,List.length_cons,List.length_nil,List.flatMap_append,List.flatMap_cons,List.flatMap_nil];exact .cons_cons _ (.cons_cons _ (.cons_cons _ (List.nil_sublist _)))⟩
    rw[show d.step CK out=(d.setS sB,out++[⟨1,key,0⟩]) by rw[hst];unfold EJ.stepX;rw[Aa f,Aa p,Ah i,Aa (by simpa using t)]]
    refine Tk ?_
    exact⟨(r,y),trivial,⟨rfl,rfl,by simp only[List.length_append,List.length_cons,List.length_nil];exact rfl,trivial⟩,by simp only[List.length_append,List.length_cons,List.length_nil,List.flatMap_append,List.flatMap_cons,List.flatMap_nil];exact .cons_cons _ (.cons_cons _ (.cons_cons _ (List.nil_sublist _)))⟩
   rw[show d.step CK out=(d.setS sC,Gb CK d.p.keys (1+bel (sB) 3) key out) by rw[hst];unfold EJ.stepX;rw[Aa f,Aa p,Aa i,L];rfl]
   have hb3:=KC (sB) 3 (by decide)
   refine OA 6 ?_
   refine O8 (Zd rfl (en 124) rfl (.p1 .d) (HE sp (sB) 3 (by decide))) ?_
   refine OA 3 ?_
   rw[<-L]
   refine Tp (.t0 (.t1 (.t0 .e))) (Tb (CD (fun((m,u,o2,e,l):Nat×Int×List Es×A_×Nat)=>[(0,Cr q),(3,Cs CK),(4,.slice e o2.length l),(5,Cs u),(6,Cs m)]) (fun(m,u,o2,e,l)=>[blk q (.cells (gnc d sp).toArray 225 (0,0)),blk sp (.cells #[.int .u64 (sC)] 298 (0,0)),sq e o2.length l 64 3 (o2.flatMap Et)]) (fun(m,u,o2,_)=>m<=3/\u<=1000/\0<=u/\o2.length<=out.length+(3-m)/\Gb CK d.p.keys m u o2=Gb CK d.p.keys (1+bel (sB) 3) key out) (fun(m,_)=>m) (1+bel (sB) 3,key,out,e,l) ?_ ?_))
   ·exact⟨⟨by omega,by omega,U,BF _ _,rfl⟩,⟨rfl,rfl,rfl,rfl,Dd rfl (by omega),trivial⟩,.refl _⟩
   rintro⟨m,u,o2,e,l⟩ ⟨hm,a3,hk1,hol,F⟩
   conv=>arg 7;dsimp only
   conv=>arg 8;dsimp only
   refine OA 2 ?_
   refine CQ 82 (0<(m:Int)/\(o2.length:Int)<CK/\u<d.p.keys) ?_ ?_
   ·refine OA 4 ?_
    refine CJ 68 rfl (fun N=>?_) (fun N=>?_)
    ·refine OA 6 ?_
     refine CJ 74 rfl (fun O=>?_) (fun O=>?_)
     ·refine OA 9 ?_
      exact Ex
     refine OA 9 ?_
     exact Ex
    refine OA 15 ?_
    exact Ex
   refine Cy rfl (fun D=>?_) (fun D=>?_)
   ·obtain⟨m,rfl⟩:∃j,m=j+1:=⟨m-1,by omega⟩
    have I:Gb CK d.p.keys (m+1) u o2=if(o2.length:Int)<CK/\u<d.p.keys then Gb CK d.p.keys m (u+1) (o2++[⟨1,u,0⟩])else o2:=rfl
    rw[I,Ah D.2]at F
    refine OA 7 ?_
    refine O6 (YY u60) fun a1=>?_
    refine O2 (LO.app (ao:=e) Qn) ?_
    rintro _ _ ⟨r,y,rfl,rfl⟩
    refine OA 10 ?_
    exact⟨(m,u+1,o2++[⟨1,u,0⟩],r,y),⟨⟨by omega,by omega,by omega,by simp only[List.length_append,List.length_cons,List.length_nil];omega,F⟩,⟨rfl,rfl,by simp only[List.length_append,List.length_cons,List.length_nil];exact rfl,rfl,Dd rfl (by omega),trivial⟩,by simp only[List.length_append,List.length_cons,List.length_nil,List.flatMap_append,List.flatMap_cons,List.flatMap_nil];exact .cons_cons _ (.cons_cons _ (.cons_cons _ (List.nil_sublist _)))⟩,by simp only;omega⟩
   have I:Gb CK d.p.keys m u o2=o2:=by
    cases m with
    |zero=>rfl
    |succ m=>show(if _ then _ else _)=_;rw[Aa (fun h=>D ⟨by omega,h⟩)]
   rw[I]at F
   rw[<-F]
   refine Te ?_
   exact⟨(e,l),trivial,Sb3,.refl _⟩
  rintro⟨e,l⟩ -
  exact⟨(k,(d.step CK out).1,(d.step CK out).2,e,l),⟨⟨by rw[show b+(13-k)=b+(13-(k+1))+1 by omega];exact hstep.1,hstep.2.1.trans R,by omega,hstep.2.2.2.2.1,by have:=hstep.2.2.2.1;omega,by rw[hstep.2.1];exact hstep.2.2.2.2.2,he⟩,Sb3,.refl _⟩,by simp only;omega⟩
 have G:ZJ CK k d out=(d,out):=by
  cases k with
  |zero=>rfl
  |succ k=>show(if _ then _ else _)=_;rw[Aa C]
 rw[G]at he
 rw[<-he]
 refine OA 6 ?_
 refine Tx (YL (.p0 (.p0 .d)) (A:=QB q d) ⟨sp,rfl⟩) fun S2=>Tp (.t1 (.t0 .e)) ?_
 exact Cu (CB rfl rfl (.refl _) ⟨e,l,S2,rfl,rfl⟩)
structure CfM where
 nodes:Int
 shards:Int
 clients:Int
 level:Int
 txns:Int
 patience:Int
 room:Int
 stamps:Int
 bugs:Int
 seed:Nat
 plan:PlM
abbrev cfv(c:CfM):V_:=[Cs c.nodes,Cs c.shards,Cs c.clients,Cs c.level,Cs c.txns,Cs c.patience,Cs c.room,Cs c.stamps,Cs c.bugs,.int .u64 c.seed,Cs c.plan.keys,Cs c.plan.most,Cs c.plan.reads,Cs c.plan.writes,Cs c.plan.both,Cs c.plan.scans]
structure CfM.Ok(c:CfM):Prop where
 nodes:1<=c.nodes/\c.nodes<=7
 shards:1<=c.shards/\c.shards<=4
 clients:1<=c.clients/\c.clients<=16
 level:1<=c.level/\c.level<=2
 txns:0<=c.txns/\c.txns<=100
 patience:1<=c.patience/\c.patience<=1000
 room:0<=c.room/\c.room<=4194304
 stamps:0<=c.stamps/\c.stamps<=1048576
 bugs:c.bugs=0
 seed:c.seed<18446744073709551616
 plan:c.plan.Ok
 many:2*c.clients*c.txns<=400
def bndL:List Int:=[1,7,1,4,1,16,1,2,0,100,1,1000,0,4194304,0,1073741824,0,63]
def GLB(L:PL):Prop:=∀i u,(bndL.map (Value.int .i64))[i]? =some u->PAt L ⟨0,i,none⟩ u
theorem GLB.le{L L':PL}(k:Le L L')(h:GLB L):GLB L':=fun i u b=>(h i u b).le k
theorem GLB.rd{L:PL}(h:GLB L):Reads (pool L) (some ⟨0,0,none⟩) (bndL.map (Value.int .i64)):=fun H b i u c=>⟨_,rfl,by rw[add_lit,AE];exact(h i u c).cell b⟩
section
variable {P:Program}{n:Nat}{w0:World}{b_:N_}{l:Dh}{hs:Mem}{o:Oper}
theorem ZP{x y:Operand}{T e:TypeId}{len s:Nat}{cs:Array Value}{k:IntKind}{d:TypeDesc}{i:Int}(j:Nat)(b:P.underlying T=some (.array len e))(he:P.underlying e=some d)(ho:o.op= .index T x y:=by rfl)(hx:ev l x=some (.agg cs):=by rfl)(hy:ev l y=some (.int k i):=by rfl)
  (hd:ET d=true:=by rfl) (hsz:(P.info? e).map (·.size)=some s:=by rfl) (hi:i=(j:Int):=by rfl) (hj:j<len:=by decide):Ct P n w0 b_ hs l o (.agg (cs.extract (j*s) (j*s+s))):=
 Ct.of (s:=Instr.index T (.agg cs) (.int k i)) (fun c hf=>by unfold execOp;simp only[ho,hf.eval hx,hf.eval hy]) (fun w _=>by
  unfold Instr.index
  subst hi
  simp only[asIntOf]
  show(((underlying T >>= fun d=>_):Sem Value)).run P w=_
  rw[Ak,Cz b,Ai]
  have h0:(0:Int)<=(j:Int)/\(j:Int)<(len:Int):=by omega
  simp only[h0,and_self,if_true]
  show((sizeOf e >>= fun s=>part e cs ((j:Int).toNat*s)):Sem Value).run P w=_
  rw[Ak,run_sizeOf hsz,Ai,Bf]
  unfold part
  rw[Ak,Gs he,Ai,hd,Ah rfl,Ak,run_sizeOf hsz,Ai]
  rfl)
end
def cptrs(p:Nat):V_:=[0,1,2,3,4,5,6,7,8,10,11,12,13,14,15].map fun i=>.pointer (some ⟨p,i,none⟩)
theorem DK(p:Nat):Sp P0 98 [Cr p] [] fun v h=>∃g,v= .slice (some ⟨g,0,none⟩) 15 15/\h=[blk g (.cells (cptrs p).toArray 183 (0,0))]:=by
 refine Sq Tryz.func98 fun w0 b_=>?_
 refine OA 5 ?_
 refine CS rfl (fun j=>false) ?_
 refine DA [0,1,2,3,4,5,6,7,8,9,10,11,12,13,14,15,16,17,18,19,20,21,22,23,24,25,26,27,28,29,30,31,32,33,34,35,36,37,38,39] ?_
 refine DA [40,41,42,43,44,45,46,47,48,49,50] ?_
 refine Da 51 ?_
 refine D6 rfl (Lbs [.pointer none,.pointer none,.pointer none,.pointer none,.pointer none,.pointer none,.pointer none,.pointer none,.pointer none,.pointer none,.pointer none,.pointer none,.pointer none,.pointer none,.pointer none] u184) ?_
 rintro _ _ ⟨b,rfl,rfl⟩
 refine ys (D1 52 rfl FC ?_)
 refine D0 ?_
 exact Cu (CB rfl rfl (.refl _) ⟨b,rfl,rfl⟩)
theorem Iv(c:CfM)(hc:c.Ok)(L:PL)(l:GLB L):Sp P0 45 [.agg (cfv c).toArray] [pool L] fun v h=>v= Cs 0/\h=[pool L]:=by
 have h1:=hc.nodes;have h2:=hc.shards;have h3:=hc.clients;have h4:=hc.level;have h5:=hc.txns;have h6:=hc.patience;have h7:=hc.room;have h8:=hc.stamps;have h9:=hc.bugs;have hm:=hc.many
 have hm0:0<=2*c.clients*c.txns:=Int.mul_nonneg (by omega) h5.1
 refine Sq Tryz.func45 fun w0 b_=>?_
 refine OA 2 ?_
 refine O6 YR fun b1=>?_
 refine OA 7 ?_
 refine O5 (Zc rfl (en 97) rfl (Lv c.plan hc.plan)) ?_
 refine OA 7 ?_
 refine CH rfl (fun f=>absurd rfl f) fun f=>?_
 refine OA 4 ?_
 refine O1 (YK (v':=.agg (bndL.map (Value.int .i64)).toArray) (YW (j:=0) (cs:=bndL.map (Value.int .i64)) u182 l.rd (fun k u h=>by rw[AE];exact h) rfl) rfl) ?_
 refine OA 3 ?_
 refine Ho 10 ?_
 refine Dv ?_
 refine OA 12 ?_
 refine O1 (ZP 0 u182 u181) ?_
 refine O6 (YQ Kq) fun e=>?_
 refine OA 5 ?_
 refine O2 (YP rfl (en 98) rfl (.d) (DK b1)) ?_
 rintro _ _ ⟨_,⟨g,rfl,rfl⟩,rfl⟩
 refine O1 DC ?_
 refine O1 (GO (0) u184) ?_
 refine O1 (Ct.reads (j:=0) rfl rfl at3 Reads.blk u183 rfl rfl) ?_
 refine OA 5 ?_
 refine DX [24,25,26,27,28,29,30,31,32,33] 33 (c.nodes<1∨7<c.nodes) ?_ ?_
 ·refine OA 2 ?_
  refine O1 (Zm 0 0 u181) ?_
  refine OA 3 ?_
  refine CJ 28 rfl (fun d=>?_) (fun d=>?_)
  ·refine OA 6 ?_
   exact Ku
  refine O1 DC ?_
  refine O1 (Zm 1 1 u181) ?_
  refine OA 4 ?_
  exact Ku
 refine Cy rfl (fun b=>absurd b (by omega)) fun b=>?_
 refine OA 5 ?_
 refine Tp (.t0 (.t0 .e)) (Dv ?_)
 refine OA 12 ?_
 refine O1 (ZP 1 u182 u181) ?_
 refine O6 (YQ Kq) fun e=>?_
 refine OA 5 ?_
 refine O2 (YP rfl (en 98) rfl (.d) (DK b1)) ?_
 rintro _ _ ⟨_,⟨g,rfl,rfl⟩,rfl⟩
 refine O1 DC ?_
 refine O1 (GO (1) u184) ?_
 refine O1 (Ct.reads (j:=1) rfl rfl at3 Reads.blk u183 rfl rfl) ?_
 refine OA 5 ?_
 refine DX [24,25,26,27,28,29,30,31,32,33] 33 (c.shards<1∨4<c.shards) ?_ ?_
 ·refine OA 2 ?_
  refine O1 (Zm 0 0 u181) ?_
  refine OA 3 ?_
  refine CJ 28 rfl (fun d=>?_) (fun d=>?_)
  ·refine OA 6 ?_
   exact Ku
  refine O1 DC ?_
  refine O1 (Zm 1 1 u181) ?_
  refine OA 4 ?_
  exact Ku
 refine Cy rfl (fun b=>absurd b (by omega)) fun b=>?_
 refine OA 5 ?_
 refine Tp (.t0 (.t0 .e)) (Dv ?_)
 refine OA 12 ?_
 refine O1 (ZP 2 u182 u181) ?_
 refine O6 (YQ Kq) fun e=>?_
 refine OA 5 ?_
 refine O2 (YP rfl (en 98) rfl (.d) (DK b1)) ?_
 rintro _ _ ⟨_,⟨g,rfl,rfl⟩,rfl⟩
 refine O1 DC ?_
 refine O1 (GO (2) u184) ?_
 refine O1 (Ct.reads (j:=2) rfl rfl at3 Reads.blk u183 rfl rfl) ?_
 refine OA 5 ?_
 refine DX [24,25,26,27,28,29,30,31,32,33] 33 (c.clients<1∨16<c.clients) ?_ ?_
 ·refine OA 2 ?_
  refine O1 (Zm 0 0 u181) ?_
  refine OA 3 ?_
  refine CJ 28 rfl (fun d=>?_) (fun d=>?_)
  ·refine OA 6 ?_
   exact Ku
  refine O1 DC ?_
  refine O1 (Zm 1 1 u181) ?_
  refine OA 4 ?_
  exact Ku
 refine Cy rfl (fun b=>absurd b (by omega)) fun b=>?_
 refine OA 5 ?_
 refine Tp (.t0 (.t0 .e)) (Dv ?_)
 refine OA 12 ?_
 refine O1 (ZP 3 u182 u181) ?_
 refine O6 (YQ Kq) fun e=>?_
 refine OA 5 ?_
 refine O2 (YP rfl (en 98) rfl (.d) (DK b1)) ?_
 rintro _ _ ⟨_,⟨g,rfl,rfl⟩,rfl⟩
 refine O1 DC ?_
 refine O1 (GO (3) u184) ?_
 refine O1 (Ct.reads (j:=3) rfl rfl at3 Reads.blk u183 rfl rfl) ?_
 refine OA 5 ?_
 refine DX [24,25,26,27,28,29,30,31,32,33] 33 (c.level<1∨2<c.level) ?_ ?_
 ·refine OA 2 ?_
  refine O1 (Zm 0 0 u181) ?_
  refine OA 3 ?_
  refine CJ 28 rfl (fun d=>?_) (fun d=>?_)
  ·refine OA 6 ?_
   exact Ku
  refine O1 DC ?_
  refine O1 (Zm 1 1 u181) ?_
  refine OA 4 ?_
  exact Ku
 refine Cy rfl (fun b=>absurd b (by omega)) fun b=>?_
 refine OA 5 ?_
 refine Tp (.t0 (.t0 .e)) (Dv ?_)
 refine OA 12 ?_
 refine O1 (ZP 4 u182 u181) ?_
 refine O6 (YQ Kq) fun e=>?_
 refine OA 5 ?_
 refine O2 (YP rfl (en 98) rfl (.d) (DK b1)) ?_
 rintro _ _ ⟨_,⟨g,rfl,rfl⟩,rfl⟩
 refine O1 DC ?_
 refine O1 (GO (4) u184) ?_
 refine O1 (Ct.reads (j:=4) rfl rfl at3 Reads.blk u183 rfl rfl) ?_
 refine OA 5 ?_
 refine DX [24,25,26,27,28,29,30,31,32,33] 33 (c.txns<0∨100<c.txns) ?_ ?_
 ·refine OA 2 ?_
  refine O1 (Zm 0 0 u181) ?_
  refine OA 3 ?_
  refine CJ 28 rfl (fun d=>?_) (fun d=>?_)
  ·refine OA 6 ?_
   exact Ku
  refine O1 DC ?_
  refine O1 (Zm 1 1 u181) ?_
  refine OA 4 ?_
  exact Ku
 refine Cy rfl (fun b=>absurd b (by omega)) fun b=>?_
 refine OA 5 ?_
 refine Tp (.t0 (.t0 .e)) (Dv ?_)
 refine OA 12 ?_
 refine O1 (ZP 5 u182 u181) ?_
 refine O6 (YQ Kq) fun e=>?_
 refine OA 5 ?_
 refine O2 (YP rfl (en 98) rfl (.d) (DK b1)) ?_
 rintro _ _ ⟨_,⟨g,rfl,rfl⟩,rfl⟩
 refine O1 DC ?_
 refine O1 (GO (5) u184) ?_
 refine O1 (Ct.reads (j:=5) rfl rfl at3 Reads.blk u183 rfl rfl) ?_
 refine OA 5 ?_
 refine DX [24,25,26,27,28,29,30,31,32,33] 33 (c.patience<1∨1000<c.patience) ?_ ?_
 ·refine OA 2 ?_
  refine O1 (Zm 0 0 u181) ?_
  refine OA 3 ?_
  refine CJ 28 rfl (fun d=>?_) (fun d=>?_)
  ·refine OA 6 ?_
   exact Ku
  refine O1 DC ?_
  refine O1 (Zm 1 1 u181) ?_
  refine OA 4 ?_
  exact Ku
 refine Cy rfl (fun b=>absurd b (by omega)) fun b=>?_
 refine OA 5 ?_
 refine Tp (.t0 (.t0 .e)) (Dv ?_)
 refine OA 12 ?_
 refine O1 (ZP 6 u182 u181) ?_
 refine O6 (YQ Kq) fun e=>?_
 refine OA 5 ?_
 refine O2 (YP rfl (en 98) rfl (.d) (DK b1)) ?_
 rintro _ _ ⟨_,⟨g,rfl,rfl⟩,rfl⟩
 refine O1 DC ?_
 refine O1 (GO (6) u184) ?_
 refine O1 (Ct.reads (j:=6) rfl rfl at3 Reads.blk u183 rfl rfl) ?_
 refine OA 5 ?_
 refine DX [24,25,26,27,28,29,30,31,32,33] 33 (c.room<0∨4194304<c.room) ?_ ?_
 ·refine OA 2 ?_
  refine O1 (Zm 0 0 u181) ?_
  refine OA 3 ?_
  refine CJ 28 rfl (fun d=>?_) (fun d=>?_)
  ·refine OA 6 ?_
   exact Ku
  refine O1 DC ?_
  refine O1 (Zm 1 1 u181) ?_
  refine OA 4 ?_
  exact Ku
 refine Cy rfl (fun b=>absurd b (by omega)) fun b=>?_
 refine OA 5 ?_
 refine Tp (.t0 (.t0 .e)) (Dv ?_)
 refine OA 12 ?_
 refine O1 (ZP 7 u182 u181) ?_
 refine O6 (YQ Kq) fun e=>?_
 refine OA 5 ?_
 refine O2 (YP rfl (en 98) rfl (.d) (DK b1)) ?_
 rintro _ _ ⟨_,⟨g,rfl,rfl⟩,rfl⟩
 refine O1 DC ?_
 refine O1 (GO (7) u184) ?_
 refine O1 (Ct.reads (j:=7) rfl rfl at3 Reads.blk u183 rfl rfl) ?_
 refine OA 5 ?_
 refine DX [24,25,26,27,28,29,30,31,32,33] 33 (c.stamps<0∨1073741824<c.stamps) ?_ ?_
 ·refine OA 2 ?_
  refine O1 (Zm 0 0 u181) ?_
  refine OA 3 ?_
  refine CJ 28 rfl (fun d=>?_) (fun d=>?_)
  ·refine OA 6 ?_
   exact Ku
  refine O1 DC ?_
  refine O1 (Zm 1 1 u181) ?_
  refine OA 4 ?_
  exact Ku
 refine Cy rfl (fun b=>absurd b (by omega)) fun b=>?_
 refine OA 5 ?_
 refine Tp (.t0 (.t0 .e)) (Dv ?_)
 refine OA 12 ?_
 refine O1 (ZP 8 u182 u181) ?_
 refine O6 (YQ Kq) fun e=>?_
 refine OA 5 ?_
 refine O2 (YP rfl (en 98) rfl (.d) (DK b1)) ?_
 rintro _ _ ⟨_,⟨g,rfl,rfl⟩,rfl⟩
 refine O1 DC ?_
 refine O1 (GO (8) u184) ?_
 refine O1 (Ct.reads (j:=8) rfl rfl at3 Reads.blk u183 rfl rfl) ?_
 refine OA 5 ?_
 refine DX [24,25,26,27,28,29,30,31,32,33] 33 (c.bugs<0∨63<c.bugs) ?_ ?_
 ·refine OA 2 ?_
  refine O1 (Zm 0 0 u181) ?_
  refine OA 3 ?_
  refine CJ 28 rfl (fun d=>?_) (fun d=>?_)
  ·refine OA 6 ?_
   exact Ku
  refine O1 DC ?_
  refine O1 (Zm 1 1 u181) ?_
  refine OA 4 ?_
  exact Ku
 refine Cy rfl (fun b=>absurd b (by omega)) fun b=>?_
 refine OA 5 ?_
 refine Tp (.t0 (.t0 .e)) (Dv ?_)
 refine OA 18 ?_
 refine Cy rfl (fun i=>absurd i (by omega)) fun i=>?_
 refine OA 5 ?_
 exact Cu (CB rfl rfl (Ax _ (An _)) ⟨rfl,rfl⟩)
section
open Go Go.Sort
section
variable {P:Program}{n m:Nat}{l:Dh}{o:Oper}{v:Value}{ops:Array Oper}{d:Nat}{K:GE}{c:Code}{Φ S:World->Prop}
variable (P n) in
def XD(ops:Array Oper)(K:GE)(S:World->Prop)(f_:Nat)(l_:Array Bool)(l:Dh)(Φ:World->Prop):Prop:=
 ∀a w,Fr n l a->Φ w->Any P ops (RE n K) S (fun _=>false) f_ l_ a w
theorem TW_draw{id:Nat}(hm:P.follows .mixedOrders=true){Ψ:World->Prop}(b:∀w,Φ w->Ψ {w with drawn:=w.drawn+1})(hk:XD P n ops K S ops.size (Array.replicate ops.size false) l Ψ):TW P n m (.region id ops true) K l Φ:=
 fun a w hf hw=>wpIn_wide.2 (wp_region_any hm (QaX _ _ _ _ (hk a _ hf (b w hw))))
theorem XD_done{f_:Nat}{l_:Array Bool}(hr:Region.ready .any ops l_=[])(hk:K .normal l Φ):XD P n ops K S f_ l_ l Φ:=
 fun _ _ hf ho=>match f_ with
  |0=>⟨hr,l,Φ,hf,ho,hk⟩
  |_+1=>⟨fun _=>⟨l,Φ,hf,ho,hk⟩,by rw[hr];simp⟩
theorem Gk{f_:Nat}{l_:Array Bool}(i:Nat)(hi:ops[i]? =some o)(b:∀w,S w->Ct P n w [] [] l o v)(c:∀w,Φ w->S w)
  (hk:XD P n ops K S f_ (l_.setIfInBounds i true) ((d,v)::l) Φ) (hm:GT ops (fun _=>false) l_ i=true:=by kernel_rfl) (hw:CK ops l o=some true:=by exact rfl) (hd:o.dst=some d:=by exact rfl) (hlt:Nat.blt d n=true:=by exact rfl):XD P n ops K S (f_+1) l_ l Φ:=by
 intro a w hf ho
 obtain⟨m1,m2,m3,m4⟩:=HS hm
 refine Any.take hi m1 m4 (fun _ _ _ hq=>False.elim hq) (v:=v) f_ l_ a w (Region.free_spec hi m2) m3 (.inl ⟨DR hf hw,fun w' e=>b w' e a w' hf (QI.self w')⟩) (c w ho) ?_
 rw[hd]
 exact hk _ _ (hf.put hlt v) ho
theorem Mr{f_:Nat}{l_:Array Bool}{ι:Type}{val:ι->Value}{Ψ:ι->World->Prop}(j:Nat)(hr:Region.ready .any ops l_=[j])(hj:ops[j]? =some o)(hd:o.dst=some d)(hlt:Nat.blt d n=true)(hw:CK ops l o=some true)
  (hs:∀a w,Fr n l a->Φ w->∀(N:Act->World->Prop) (Q:Exit->Act->World->Prop),(∀i w',Ψ i w'->(S w->S w')->N (a.put o.dst (val i)) w')->o.wp P a w N Q)
  (hk:∀i,XD P n ops K S f_ (l_.setIfInBounds j true) ((d,val i)::l) (Ψ i)):XD P n ops K S (f_+1) l_ l Φ:=by
 intro a w hf ho
 refine⟨fun e=>(by rw[hr]at e;cases e),fun i hi=>?_⟩
 rw[hr]at hi
 obtain rfl:=Ap.1 hi
 unfold wpOp
 simp only[hj]
 rw[Ah (DR hf hw)]
 refine .inl (hs a w hf ho _ _ fun k w' h1 h2=>⟨.inr h2,?_⟩)
 rw[hd]
 exact hk k _ _ (hf.put hlt _) h1
theorem UR{ι:Type}{val:ι->Value}{Ψ:ι->World->Prop}{f:FuncId}{b:List Operand}{ts:Array TypeId}{vs:V_}(ho:o.op= .call {callee:=.value (.func f),args:=b.toArray,argTypes:=ts})(hc:Fc P f)(hv:b.map (ev l)=vs.map some)
  (hg:∀w,Φ w->Calls P f vs.toArray w fun e w'=>∃i,e= .returned (val i)/\Ψ i w'/\(S w->S w')):∀a w,Fr n l a->Φ w->∀(N:Act->World->Prop) (Q:Exit->Act->World->Prop),(∀i w',Ψ i w'->(S w->S w')->N (a.put o.dst (val i)) w')->o.wp P a w N Q:=by
 intro a w hf hw N Q c
 unfold Oper.wp
 rw[Nz ho hc (Fg hf hv) w]
 simp only[Oper.upon]
 refine Calls.mono (hg w hw) fun e w' ⟨i,he,h1,h2⟩=>?_
 subst he
 exact c i w' h1 h2
theorem X_val{ι:Type}{val:ι->Value}{Ψ:ι->World->Prop}{s:Sem Value}(he:∀a:Act,Fr n l a->execOp a.eval o=(do pure (.value (<-s))))(hr:∀w,Φ w->∃i w',s.run P w= .ok (val i) w'/\Ψ i w'/\(S w->S w')):∀a w,Fr n l a->Φ w->∀(N:Act->World->Prop) (Q:Exit->Act->World->Prop),(∀i w',Ψ i w'->(S w->S w')->N (a.put o.dst (val i)) w')->o.wp P a w N Q:=by
 intro a w hf hw N Q b
 obtain⟨i,w',h1,h2,h3⟩:=hr w hw
 unfold Oper.wp
 rw[he a hf,Ak,h1]
 exact b i w' h2 h3
theorem Sx{f:FuncId}{b:Func}{t:Nat}{vs:V_}{w:World}{R:Value->World->Prop}(hf:P.funcs[f]? =some b)(hb:b.body=some c)(hn:b.ntmps=n)(hr:b.results= #[.tmp t])(hl:Nat.ble vs.length n=true)(h0:Φ w)
  (ht:TW P n m c (fun e l Φ=>e= .ret/\∃v,fnd l t=some v/\∀w,Φ w->R v w) (Og 0 vs) Φ):CallsIn FW m P f vs.toArray w fun e w'=>∃v,e= .returned v/\R v w':=by
 refine callsIn_of_wp hf hb trivial (wpIn_mono (ht _ w (hn▸SY vs (hn▸Cn hl)) h0) fun e d w' hq=>?_) rfl
 cases e with
 |ret=>obtain⟨l',Φ',h1,h2,_,v,hv,h3⟩:=hq;exact⟨h1.defers,v,by simp[results,hr,Array.getD_eq_getD_getElem?,h1.has t _ hv],v,rfl,h3 _ h2⟩
 |normal=>obtain⟨_,_,_,_,hh,_⟩:=hq;cases hh
 |exit id=>obtain⟨_,_,_,_,hh,_⟩:=hq;cases hh
 |goto id=>obtain⟨_,_,_,_,hh,_⟩:=hq;cases hh
 |panic g=>exact hq.elim
 |outgrown=>exact hq.elim
end
def Gr(W w:World):Prop:=∃q os,w=grow (W.drewN q) os
theorem Gr.refl(W:World):Gr W W:=⟨0, #[],by simp[grow,World.drewN]⟩
theorem Gr.draw{W w:World}(h:Gr W w):Gr W {w with drawn:=w.drawn+1}:=by
 obtain⟨q,os,rfl⟩:=h
 exact⟨q+1,os,by simp[grow,World.drewN,Nat.add_assoc]⟩
theorem Gr.alloc{W w:World}(h:Gr W w)(ob:Obj):Gr W (w.alloc ob):=by
 obtain⟨q,os,rfl⟩:=h
 exact⟨q,os.push ob,by simp[grow,World.drewN,World.alloc]⟩
end
structure Wy where
 a:A_
 c:Nat
 vs:V_
def gW(w:Wy):Value:=.slice w.a w.vs.length w.c
abbrev UP(T:Nat)(w:Wy):CW:=sq w.a w.vs.length w.c T 1 w.vs
def Pa(T:Nat)(al:List (Int×Wy))(rs:Mem):Prop:=rs.Perm (al.map fun p=>UP T p.2)
theorem wy_out{T:Nat}{k:Int}{w:Wy}:∀ {al:List (Int×Wy)},alk k al=some w->(al.map fun p=>UP T p.2).Perm (UP T w::(adel k al).map fun p=>UP T p.2)
 |[],h=>by cases h
 |p::l,h=>by
  unfold alk at h
  unfold adel
  by_cases e:p.1=k
  ·rw[Ah e]at h ⊢
   cases h;exact .refl _
  ·rw[Aa e]at h ⊢
   rw[AJ,AJ]
   exact((wy_out h).cons _).trans (.swap _ _ _)
theorem wy_in{T:Nat}{k:Int}{w:Wy}:∀ {al:List (Int×Wy)},(UP T w::(adel k al).map fun p=>UP T p.2).Perm ((aset k w al).map fun p=>UP T p.2)
 |[]=>.refl _
 |p::l=>by
  unfold aset adel
  by_cases e:p.1=k
  ·rw[Ah e,Ah e];exact .refl _
  ·rw[Aa e,Aa e]
   rw[AJ,AJ]
   exact(List.Perm.swap _ _ _).trans ((wy_in (al:=l)).cons _)
theorem EP:∀a b:Mem,DM (a++b) a b
 |[],_=>.d
 |_::a,b=>.t (EP a b)
theorem Cv.perm{w0:World}{b_:N_}{h h':Mem}(p:h'.Perm h):Cv w0 b_ h fun q=>q=h':=fun _ o=>⟨_,rfl,o.perm p⟩
theorem Cv.wyO{w0:World}{b_:N_}{h b:Mem}{S:N_}{T:Nat}{al:List (Int×Wy)}{k:Int}{w:Wy}(s:Ps h [cm S (Pa T al)] b)(hk:alk k al=some w):Cv w0 b_ h fun h'=>∃c,h'=b++[cm c (Pa T (adel k al)),UP T w]:=
 (Cv.op s).then fun _ ⟨rs,hA,e⟩=>by
  subst e
  refine(Cv.perm (h':=((adel k al).map fun p=>UP T p.2)++(b++[UP T w])) ?_).then fun _ e=>?_
  ·refine List.Perm.trans ?_ ((hA.trans (wy_out hk)).symm.append_left b)
   refine Av.trans ?_
   rw[Ao];exact .refl _
  ·subst e
   refine(Zl (EP _ _) (A:=Pa T (adel k al)) (List.Perm.refl _)).then fun _ e=>?_
   subst e
   refine(Cv.perm (h':=b++[cm (((adel k al).map fun p=>UP T p.2).flatMap CW.ids) (Pa T (adel k al)),UP T w]) ?_).then fun _ e=>YM ⟨_,e⟩
   rw[Ao]
   exact(List.Perm.swap _ _ _).append_left b
theorem Cv.wyI{w0:World}{b_:N_}{h b:Mem}{S:N_}{T c m:Nat}{ao:A_}{vs:V_}{al:List (Int×Wy)}(k:Int)(s:Ps h [cm S (Pa T (adel k al)),sq ao m c T 1 vs] b)(hm:m=vs.length):Cv w0 b_ h fun h'=>∃d,h'=b++[cm d (Pa T (aset k ⟨ao,c,vs⟩ al))]:=by
 subst hm
 refine(Cv.perm s.perm).then fun _ e=>?_
 subst e
 refine(Cv.op (.p (.t .d) .d)).then fun _ ⟨rs,hA,e⟩=>?_
 subst e
 refine(Cv.perm (h':=(UP T ⟨ao,c,vs⟩::rs)++b) ?_).then fun _ e=>?_
 ·refine List.Perm.trans ?_ (Av (l₁:=rs))
  exact Cq.symm
 ·subst e
  exact(Zl (EP _ _) (A:=Pa T (aset k ⟨ao,c,vs⟩ al)) (((hA.cons _)).trans wy_in)).then fun _ e=>YM ⟨_,e⟩
theorem Pa.nil(T:Nat):Pa T [] []:=.refl _
theorem OX{β:Type}{k:Int}:∀ {l:List (Int×β)},alk k l=none->adel k l=l
 |[],_=>rfl
 |p::l,h=>by
  unfold alk at h
  unfold adel
  by_cases e:p.1=k
  ·rw[Ah e]at h;cases h
  ·rw[Aa e]at h ⊢
   rw[OX h]
abbrev FB(z:Int):V_:=[Cs (EQ z),Cs (GM z)]
structure Dn where
 ways:List (Int×List N_)
 apart:List (Int×Bool)
 n:Int
 lost:Int
abbrev ntc(b ab:Nat)(t:Dn):V_:=[.map (some b),.map (some ab),Cs t.n,Cs t.lost]
abbrev NtB(p b ab:Nat)(t:Dn):CW:=blk p (.cells (ntc b ab t).toArray 134 (0,0))
def WaR(L:PL)(w:Wy)(bs:List N_):Prop:=Dz L w.vs bs
def Fi(p:Nat)(L:PL)(t:Dn)(rs:Mem):Prop:=∃(b ab:Nat) (al:List (Int×Wy)) (S:N_),rs=[NtB p b ab t,Hy b gW al,Hy ab gB t.apart,cm S (Pa 53 al)]/\AR (WaR L) al t.ways
theorem Fi.le{p:Nat}{L L':PL}{t:Dn}(k:Le L L'):∀rs,Fi p L t rs->Fi p L' t rs:=by
 rintro rs ⟨b,ab,al,S,e,h⟩
 exact⟨b,ab,al,S,e,h.mono fun _ _ h=>Dz.le k h⟩
structure Dn.Fit(t:Dn)(b:Nat):Prop where
 ways:KN t.ways
 keys:∀k x,alk k t.ways=some x-> -9223372036854775808<=EQ k/\EQ k<9223372036854775808
 len:∀k x,alk k t.ways=some x->x.length<=1000
 apart:KN t.apart
 n:0<=t.n/\t.n<=500
 lost:0<=t.lost/\t.lost<=b
def Kh(a b:Int):Int:=UV (min a b) (max a b)
def Dn.new:Dn:=⟨[],[],0,0⟩
def Dn.way(t:Dn)(l:Int):List N_:=(alk l t.ways).getD []
def Dn.len(t:Dn)(l:Int):Int:=(t.way l).length
def Dn.send(t:Dn)(l:Int)(b:N_):Dn×Int:=if 500<=t.n then ({t with lost:=t.lost+1},40)else ({t with ways:=aset l (t.way l++[b]) t.ways,n:=t.n+1},0)
def Dn.rest(t:Dn)(l k:Int):List (Int×List N_):=if((t.way l).eraseIdx k.toNat).length=0 then adel l t.ways else aset l ((t.way l).eraseIdx k.toNat) t.ways
def Dn.take(t:Dn)(l k:Int):Dn×N_×Bool:=if k<0∨t.len l<=k then (t,[],false)else ({t with ways:=t.rest l k,n:=t.n-1},(t.way l).getD k.toNat [],true)
def Dn.lose(t:Dn):Dn:={t with lost:=t.lost+1}
def Dn.take_(t:Dn)(l k:Int):Dn×N_×Bool:=if(t.take l k).2.2=true/\(alk (Kh (EQ l) (GM l)) t.apart).getD false=true then ((t.take l k).1.lose,[],false)else t.take l k
def Dn.drop(t:Dn)(l k:Int):Dn×Bool:=if(t.take l k).2.2=true then ((t.take l k).1.lose,true)else ((t.take l k).1,false)
def Dn.twice(t:Dn)(l k:Int):Dn×Bool:=if k<0∨t.len l<=k∨500<=t.n then (t,false)else ((t.send l ((t.way l).getD k.toNat [])).1,decide ((t.send l ((t.way l).getD k.toNat [])).2=0))
def Dn.cut(t:Dn)(a b:Int):Dn:={t with apart:=aset (Kh a b) true t.apart}
def Dn.heal(t:Dn):Dn:={t with apart:=[]}
theorem Ot{β:Type}(k:Int)(v:β):∀l:List (Int×β),adel k (aset k v l)=adel k l
 |[]=>by simp[aset,adel]
 |p::l=>by
  unfold aset
  by_cases e:p.1=k
  ·rw[Ah e];simp[adel,e]
  ·rw[Aa e];simp only[adel,if_neg e,Ot k v l]
theorem way_val{L:PL}{al:List (Int×Wy)}{ws:List (Int×List N_)}(h:AR (WaR L) al ws)(k:Int):∃a c,((alk k al).map gW).getD (.slice none 0 0)= .slice a ((alk k ws).getD []).length c:=by
 rcases h.alk k with ⟨h1,h2⟩|⟨w,x,h1,h2,h3⟩
 ·exact⟨none,0,by rw[h1,h2];rfl⟩
 ·refine⟨w.a,w.c,?_⟩
  rw[h1,h2]
  show Value.slice w.a w.vs.length w.c= .slice w.a x.length w.c
  rw[h3.1]
theorem RR{L:PL}{al:List (Int×Wy)}{ws:List (Int×List N_)}(h:AR (WaR L) al ws){k:Int}(hn:0<((alk k ws).getD []).length):∃w x,alk k al=some w/\alk k ws=some x/\Dz L w.vs x:=by
 rcases h.alk k with ⟨h1,h2⟩|⟨w,x,h1,h2,h3⟩
 ·rw[h2]at hn;exact absurd hn (by simp)
 ·exact⟨w,x,h1,h2,h3⟩
theorem Cv.wyG{w0:World}{b_:N_}{h b:Mem}{S:N_}{T:Nat}{al:List (Int×Wy)}(k:Int)(s:Ps h [cm S (Pa T al)] b):Cv w0 b_ h fun h'=>∃c,h'=b++[cm c (Pa T (adel k al)),UP T ((alk k al).getD ⟨none,0,[]⟩)]:=by
 cases hk:alk k al with
 |some w=>exact Cv.wyO s hk
 |none=>
  refine(Cv.nil T 1).then fun _ e=>?_
  subst e
  rw[OX hk]
  refine(Cv.perm (h':=b++[cm S (Pa T al),UP T ⟨none,0,[]⟩]) ?_).then fun _ e=>YM ⟨S,e⟩
  refine List.Perm.trans ?_ (s.perm.append_right _)
  show(b++[cm S (Pa T al),sq none 0 0 T 1 []]).Perm (([cm S (Pa T al)]++b)++[sq none 0 0 T 1 []])
  rw[show b++[cm S (Pa T al),sq none 0 0 T 1 []]=(b++[cm S (Pa T al)])++[sq none 0 0 T 1 []] by rw[Ao];rfl]
  exact(Av).append_right _
theorem XY{vs zs:V_}{k:Nat}(h:k<vs.length):(Oh (Oh vs (vs.drop (k+1)) k) zs (vs.length-1)).take (vs.length-1)=vs.eraseIdx k:=by
 have hl:(Oh vs (vs.drop (k+1)) k).length=vs.length:=Mx (by rw[AD];omega)
 unfold Oh at hl ⊢
 rw[Ao,Ce (by rw[AF,hl];omega),List.take_take,Nat.min_self,Ce (by rw[Ac,AF,AD];omega),AU (by rw[Ac,AF,AD];omega),List.eraseIdx_eq_take_drop_succ]
theorem Dz.erase{L:PL}{vs:V_}{bs:List N_}(h:Dz L vs bs)(k:Nat):Dz L (vs.eraseIdx k) (bs.eraseIdx k):=by
 refine⟨by rw[List.length_eraseIdx,List.length_eraseIdx,h.1],fun i v b hv hb=>?_⟩
 rw[List.getElem?_eraseIdx]at hv hb
 split at hv
 ·rename_i hi;rw[Ah hi]at hb;exact h.2 i v b hv hb
 ·rename_i hi;rw[Aa hi]at hb;exact h.2 (i+1) v b hv hb
theorem Mi:Fm P0 80 Fk:=mk2_row u80 (by kernel_rfl) (by decide) (by decide) rfl rfl u3 u3
theorem OJ(a b:Int)(ha: -9223372036854775808<=a/\a<9223372036854775808)(hb: -9223372036854775808<=b/\b<9223372036854775808):Sp P0 76 [Cs a,Cs b] [] fun v h=>v=Fk (Kh a b)/\h=[]:=by
 have e:Fk (Kh a b)= .agg [Cs (min a b),Cs (max a b)].toArray:=mk2_cd (by omega) (by omega)
 rw[e]
 refine Sq Tryz.func76 fun w0 b_=>?_
 refine OA 2 ?_
 refine O6 (YQ zr80) fun b4=>?_
 refine OA 5 ?_
 refine O1 (Zo rfl rfl rfl) ?_
 refine OA 2 ?_
 refine O1 (Zq rfl rfl rfl) ?_
 refine OA 3 ?_
 exact Cu (Em u80 (An _) ⟨rfl,rfl⟩)
theorem Uj:Sp P0 46 [] [] fun v h=>∃p S,v= .pointer (some ⟨p,0,none⟩)/\h=[cm S fun rs=>∀L,Fi p L Dn.new rs]:=by
 refine Sq Tryz.func46 fun w0 b_=>?_
 refine OA 6 ?_
 refine O6 (LO.mkC gW) fun b1=>?_
 refine O6 (LO.mkC gB) fun b2=>?_
 refine O1 (Xb bt134.h) ?_
 refine O6 YR fun b4=>?_
 refine OA 2 ?_
 refine Tx (YL (a:=[]) .d (A:=Pa 53 []) (Pa.nil 53)) fun b=>Tx (YL (.p2 (.p0 (.p0 (.p0 .d)))) (A:=fun rs=>∀L,Fi b4 L Dn.new rs) fun L=>⟨b1,b2,[],b,rfl,.nil⟩) fun S=>?_
 exact Cu (CB rfl rfl (.refl _) ⟨b4,S,rfl,rfl⟩)
theorem TF(p:Nat)(S:N_)(L:PL)(t:Dn):Sp P0 19 [Cr p] [cm S (Fi p L t)] fun v h=>v= Cs t.n/\∃b,h=[cm b (Fi p L t)]:=by
 refine Sq Tryz.func19 fun w0 b_=>?_
 refine Cx (Cv.op (.p0 .d)) ?_
 rintro _ ⟨_,⟨e,ab,al,c,rfl,d⟩,rfl⟩
 refine OA 20 ?_
 refine Tx (YL (.p0 (.p0 (.p0 (.p0 .d)))) (A:=Fi p L t) ⟨e,ab,al,c,rfl,d⟩) fun f=>?_
 exact Cu (Rr ⟨rfl,_,rfl⟩)
theorem JD(p b ab:Nat)(L:PL)(t:Dn)(al:List (Int×Wy))(d:AR (WaR L) al t.ways)(k:Int):Sp P0 27 [Cr p,gA (FB k)] [NtB p b ab t,Hy b gW al] fun v h=>v= Cs (t.len k)/\h=[NtB p b ab t,Hy b gW al]:=by
 obtain⟨a,c,hv⟩:=way_val d k
 refine Sq Tryz.func27 fun w0 b_=>?_
 refine OA 2 ?_
 refine O6 YR fun b3=>?_
 refine OA 11 ?_
 refine Cw (.t (.t (.t .d))) rfl (fun j=>false) ?_
 intro e
 refine DA [0,1,2,3,4] ?_
 refine D1 5 rfl (YK (QaD k Mi u131 (hy:=rfl)) hv) ?_
 refine DA [6,7] ?_
 refine D0 ?_
 exact Cu (CB rfl rfl (.cons_cons _ (.cons_cons _ (An _))) ⟨rfl,rfl⟩)
theorem WV(p:Nat)(S:N_)(L:PL)(t:Dn)(k:Int):Sp P0 27 [Cr p,gA (FB k)] [cm S (Fi p L t)] fun v h=>v= Cs (t.len k)/\∃c,h=[cm c (Fi p L t)]:=
 Qa6 fun _ ⟨b,ab,al,S0,e,hA⟩=>by
  subst e
  exact((JD p b ab L t al hA k).frame (.p0 (.p0 .d))).imp fun _ _ v h ⟨_,⟨h1,h2⟩,h3⟩=>by
   subst h1 h2 h3
   exact Cv.then (YL (.p2 (.p2 (.p0 (.p0 .d)))) (A:=Fi p L t) ⟨b,ab,al,S0,rfl,hA⟩) fun _ ⟨d,e⟩=>YM ⟨rfl,d,e⟩
theorem cut_spec(p:Nat)(S:N_)(L:PL)(t:Dn)(a b:Int)(ha: -9223372036854775808<=a/\a<9223372036854775808)(hb: -9223372036854775808<=b/\b<9223372036854775808):Sp P0 31 [Cr p,Cs a,Cs b,.bool true] [cm S (Fi p L t)] fun v h=>v= .tuple #[]/\∃c,h=[cm c (Fi p L (t.cut a b))]:=by
 refine Sq Tryz.func31 fun w0 b_=>?_
 refine Cx (Cv.op (.p0 .d)) ?_
 rintro _ ⟨_,⟨i,ab,al,d,rfl,e⟩,rfl⟩
 refine OA 13 ?_
 refine Cw (.t (.s2 (.s .d))) rfl (fun j=>Nat.beq j 7) ?_
 intro f
 refine DA [0,1,2,3,4,5] ?_
 refine Da 6 ?_
 refine Gz rfl (Zc rfl (en 76) rfl (OJ a b ha hb)) ?_
 refine Da 7 ?_
 refine D8 rfl (LO.setC (g:=gB) (Kh a b) true Mi u132 (hx:=rfl)) ?_
 refine D0 (Dk rfl (Cv.then (YL (.p0 (.p0 (.p0 (.p0 .d)))) (A:=Fi p L (t.cut a b)) ⟨i,ab,al,d,rfl,e⟩) ?_))
 rintro _ ⟨k,rfl⟩
 exact YM ⟨rfl,_,rfl⟩
theorem Pb(p:Nat)(S:N_)(L:PL)(t:Dn):Sp P0 32 [Cr p] [cm S (Fi p L t)] fun v h=>v= .tuple #[]/\∃b,h=[cm b (Fi p L t.heal)]:=by
 refine Sq Tryz.func32 fun w0 b_=>?_
 refine Cx (Cv.op (.p0 .d)) ?_
 rintro _ ⟨_,⟨e,ab,al,c,rfl,d⟩,rfl⟩
 refine OA 11 ?_
 refine O4 (LO.clrC u132) ?_
 refine On (Dk rfl (Cv.then (YL (.p0 (.p0 (.p0 (.p0 .d)))) (A:=Fi p L t.heal) ⟨e,ab,al,c,rfl,d⟩) ?_))
 rintro _ ⟨f,rfl⟩
 exact YM ⟨rfl,_,rfl⟩
theorem KB{β:Type}{k:Int}{v:β}:∀ {l:List (Int×β)},alk k l=some v->aset k v l=l
 |[],h=>by cases h
 |p::l,h=>by
  unfold alk at h
  unfold aset
  by_cases e:p.1=k
  ·rw[Ah e]at h ⊢;cases h;rw[<-e]
  ·rw[Aa e]at h ⊢;rw[KB h]
theorem way0_val{L:PL}{al:List (Int×Wy)}{ws:List (Int×List N_)}(h:AR (WaR L) al ws)(k:Int):∃w:Wy,w=(alk k al).getD ⟨none,0,[]⟩/\Dz L w.vs ((alk k ws).getD [])/\((alk k al).map gW).getD (.slice none 0 0)= .slice w.a w.vs.length w.c:=by
 rcases h.alk k with ⟨h1,h2⟩|⟨w,x,h1,h2,h3⟩
 ·exact⟨_,rfl,by rw[h1,h2];exact Dz.nil L,by rw[h1];rfl⟩
 ·exact⟨_,rfl,by rw[h1,h2];exact h3,by rw[h1];rfl⟩
section
variable {P:Program}{n:Nat}{w0:World}{b_:N_}{l:Dh}{hs:Mem}{o:Oper}
theorem Ct.slc4{x y z u:Operand}{T e:TypeId}{a:A_}{len cap:Nat}{k k' k'':IntKind}{i d b:Int}(s:Nat)(f j q:Nat)(g:P.underlying T=some (.slice e))(ho:o.op= .slice T x (some y) (some z) (some u):=by rfl)(hx:ev l x=some (.slice a len cap):=by rfl)(hy:ev l y=some (.int k'' b):=by rfl)(hz:ev l z=some (.int k i):=by rfl)(h:ev l u=some (.int k' d):=by rfl)(c:(P.info? e).map (·.size)=some s:=by rfl)(hf:b=(f:Int):=by first|rfl|omega)(hj:i=(j:Int):=by first|rfl|omega)(hq:d=(q:Int):=by first|rfl|omega)(h0:f<=j:=by omega)(h1:j<=q:=by omega)(h2:q<=cap:=by omega):
  Ct P n w0 b_ hs l o (.slice (EH a q f s) (j-f) (q-f)):=
 Ct.of (s:=Instr.sliceAt T (.slice a len cap) (some (.int k'' b)) (some (.int k i)) (some (.int k' d))) (fun m hf=>by unfold execOp;simp only[ho,hf.eval hx,hf.eval hy,hf.eval hz,hf.eval h,Option.map_some]) fun w _=>by
  subst hf hj hq
  exact Ns (P:=P) (k:=k'') (k':=k) (k'':=k') (a:=a) (len:=len) _ w g c (.inr rfl) h0 h1 h2
end
theorem Dn.take_apart(t:Dn)(l k:Int):(t.take l k).1.apart=t.apart:=by unfold Dn.take;split<;>rfl
theorem Jr(p:Nat)(S:N_)(L:PL)(t:Dn)(y:Nat)(hf:t.Fit y)(hbb:y<1099511627776)(k:Int)(a:A_)(c:Nat)(b:N_)(hb:Bs L (.slice a b.length c) b)(hbl:b.length<17592186044416):
  Sp P0 57 [Cr p,gA (FB k),.slice a b.length c] [cm S (Fi p L t),pool L] fun v h=>v= Cs (t.send k b).2/\∃L' C,Le L L'/\h=[cm C (Fi p L' (t.send k b).1),pool L']:=by
 have q1:=hf.n;have q2:=hf.lost
 have q3:(t.way k).length<=1000:=by
  unfold Dn.way
  cases h:alk k t.ways with
  |none=>exact Af _
  |some x=>exact hf.len k x h
 refine Sq Tryz.func57 fun w0 b_=>?_
 refine Cx (Cv.op (.p0 .d)) ?_
 rintro _ ⟨_,⟨B,ab,al,D,rfl,l⟩,rfl⟩
 refine OA 2 ?_
 refine O6 YR fun b4=>?_
 refine OA 20 ?_
 refine Cy rfl (fun d=>?_) (fun d=>?_)
 ·rw[show t.send k b=({t with lost:=t.lost+1},40) by unfold Dn.send;rw[Ah d]]
  refine OA 15 ?_
  refine Tx (YL (.p1 (.p1 (.p1 (.p1 .d)))) (A:=Fi p L {t with lost:=t.lost+1}) ⟨B,ab,al,D,rfl,l⟩) fun s=>Tp (.t2 (.t0 .e)) ?_
  exact Cu (Rr ⟨rfl,L,_,.refl _,rfl⟩)
 rw[show t.send k b=({t with ways:=aset k (t.way k++[b]) t.ways,n:=t.n+1},0) by unfold Dn.send;rw[Aa d]]
 refine OA 2 ?_
 obtain⟨w,hw,f,q⟩:=way0_val l k
 refine Tx (Cv.wyG k (.p4 .d)) fun H=>?_
 rw[<-hw]
 have hwl:w.vs.length<=1000:=by rw[f.1];exact q3
 refine Cw (.s (.t (.s2 (.t .d)))) rfl (fun j=>false) ?_
 intro F
 refine DA [0,1,2,3,4,5] ?_
 refine Da 6 ?_
 refine DB rfl rfl (en 77) rfl (.p0 .d) (Eb a b.length c (b.map u8) (pool L) (Reads.pool hb.1) (by simp) (by intro u G;obtain⟨x,_,rfl⟩:=AZ.1 G;rfl) hbl) ?_
 rintro _ _ ⟨a2,c2,rfl,rfl⟩
 refine ys (Da 7 ?_)
 refine D6 rfl (YY u40) ?_
 rintro _ _ ⟨E,rfl,rfl⟩
 refine ys (Da 8 ?_)
 refine D6 rfl (LO.mEnt k Mi u131 (hx:=rfl)) ?_
 rintro _ _ ⟨r,rfl,rfl⟩
 refine ys (D1 9 rfl (YK (Ct.extract rfl rfl rfl) q) ?_)
 refine D1 11 rfl Yo ?_
 refine Da 10 ?_
 refine D6 rfl (LO.app (ao:=w.a) KR) ?_
 rintro _ _ ⟨a3,i,rfl,rfl⟩
 refine ys (Da 12 ?_)
 refine D7 rfl (LO.eSto (g:=gW) ⟨a3,i,w.vs++[.slice a2 b.length c2]⟩ Mi (ho:=rfl) (hy:=by show some (Value.slice a3 (w.vs.length+1) i)=some (Value.slice a3 (w.vs++[Value.slice a2 b.length c2]).length i);rw[Ac];rfl)) ?_
 rintro _ _ ⟨rfl,rfl⟩
 refine ys (D0 (Cx (Zg (.p6 (.p6 .d))) ?_))
 rintro _ ⟨L2,e,o,rfl⟩
 refine Tx (Cv.wyI (al:=al) k (.p4 (.p4 .d)) (by rw[Ac];rfl)) fun s=>OA 15 ?_
 have m:Bs L2 (.slice a2 b.length c2) b:=⟨o,hb.2⟩
 refine Tx (YL (.p0 (.p0 (.p0 (.p3 .d)))) (A:=Fi p L2 {t with ways:=aset k (t.way k++[b]) t.ways,n:=t.n+1}) ⟨B,ab,_,s,rfl,(l.mono fun _ _ h=>Dz.le e h).aset k (Dz.snoc (f.le e) m)⟩) fun I=>Tp (.t3 (.t2 .e)) ?_
 exact Cu (Rr ⟨rfl,L2,_,e,rfl⟩)
theorem del_spec(ao:A_)(c k:Nat)(vs:V_)(hk:k<vs.length)(h1:∀u∈vs,EL u=true)(hl:vs.length<=1000):
  Sp P0 138 [.slice ao vs.length c,Cs k,Cs ((k:Int)+1)] [sq ao vs.length c 53 1 vs] fun v h=>v= .slice ao (vs.eraseIdx k).length c/\h=[sq ao (vs.eraseIdx k).length c 53 1 (vs.eraseIdx k)]:=by
 refine Sq Tryz.func138 fun w0 b_=>?_
 refine CO (p:=vs.length<=c) (fun w hw=>?_) fun e=>?_
 ·obtain⟨h1,h2⟩:=hw.mine (sq ao vs.length c 53 1 vs) (by simp)
  rcases h2 with ⟨_,e1,e2⟩|⟨_,_,_,_,e1,e2,_⟩
  ·omega
  ·exact e1
 refine CO (fun w hw=>hw.sqNN (ao:=ao) at0 (by omega)) fun⟨g,hg⟩=>?_
 subst hg
 have he:(vs.eraseIdx k).length=vs.length-1:=List.length_eraseIdx_of_lt hk
 refine OA 11 ?_
 refine O1 (Ct.slc4 1 k (k+1) vs.length u40) ?_
 refine OA 8 ?_
 refine Cy rfl (fun b=>absurd b (by omega)) fun b=>?_
 refine OA 8 ?_
 refine Cw (.d) rfl (fun j=>false) ?_
 intro f
 refine DA [0,1] ?_
 refine D1 2 rfl (YK (ZR 1 k u40) (by rw[FN,Nat.sub_zero,Nat.sub_zero])) ?_
 refine DA [3,4] ?_
 refine D1 5 rfl (ZB 1 (k+1) u40) ?_
 refine Da 6 ?_
 refine Gz rfl (LO.apO (ys:=(vs.take vs.length).drop (k+1)) KR (Reads.sub Reads.sq e) rfl rfl rfl s0 at0 (by rw[AD,AF];omega) (by omega) (fun u d=>h1 u (Bx (Bw d)))) ?_
 refine D1 7 rfl FC ?_
 refine D0 (Fb 7 (v:=Cs (vs.length:Nat)) rfl rfl ?_)
 refine OA 6 ?_
 refine O1 (YK (v':=.slice (some ⟨g,vs.length-1,none⟩) 1 (c-(vs.length-1))) (ZQ 1 (vs.length-1) vs.length u40) (by rw[show vs.length-(vs.length-1)=1 by omega];unfold EH;rw[Aa (by omega)];simp[add_lit])) ?_
 refine O3 (LO.clrS KR (fun u d=>by simp[Value.cells]at d;subst d;rfl) rfl rfl (fun _=>s0) (by omega)) ?_
 rintro _ _ ⟨zs,rfl,_,rfl⟩
 refine OA 6 ?_
 refine Cx (Cv.nar (vs.length-1) (by omega) (fun _=>s0)) ?_
 rintro _ rfl
 refine Cu ?_
 refine CB rfl (CT rfl ?_) (.refl _) ⟨rfl,?_⟩
 ·rw[he];congr 1;omega
 ·rw[he,BJ,Bm,Bm,XY hk]
theorem RV(p:Nat)(S:N_)(L:PL)(t:Dn)(Q:Nat)(hf:t.Fit Q)(l k:Int):
  Sp P0 75 [Cr p,gA (FB l),Cs k] [cm S (Fi p L t)] fun v h=>∃a c,v= .tuple #[.slice a (t.take l k).2.1.length c,.bool (t.take l k).2.2]/\Bs L (.slice a (t.take l k).2.1.length c) (t.take l k).2.1/\∃N,h=[cm N (Fi p L (t.take l k).1)]:=by
 have q1:=hf.n
 refine Sq Tryz.func75 fun w0 b_=>?_
 refine Cx (Cv.op (.p0 .d)) ?_
 rintro _ ⟨_,⟨D,ab,al,O,rfl,o⟩,rfl⟩
 refine OA 2 ?_
 refine O6 YR fun b4=>?_
 refine OA 5 ?_
 refine CQ 17 (k<0∨t.len l<=k) ?_ ?_
 ·refine OA 4 ?_
  refine CJ 11 rfl (fun r=>?_) (fun r=>?_)
  ·refine OA 7 ?_
   exact Ex
  refine OA 3 ?_
  refine O8 (Zd rfl (en 27) rfl (.p0 (.p0 .d)) (JD p D ab L t al o l)) ?_
  refine Oi (YN (.t3 (.t3 (.t0 (.t0 (.t0 .e)))))) ?_
  refine OA 3 ?_
  exact Ex
 refine Cy rfl (fun e=>?_) (fun e=>?_)
 ·rw[show t.take l k=(t,[],false) by unfold Dn.take;rw[Ah e]]
  refine OA 5 ?_
  refine Tx (YL (.p0 (.p0 (.p0 (.p0 .d)))) (A:=Fi p L t) ⟨D,ab,al,O,rfl,o⟩) fun E=>Tp (.t1 .e) ?_
  exact Cu (Dq rfl rfl rfl (.refl _) ⟨none,0,rfl,Zp _,E,rfl⟩)
 rw[show t.take l k=({t with ways:=t.rest l k,n:=t.n-1},(t.way l).getD k.toNat [],true) by unfold Dn.take;rw[Aa e]]
 obtain⟨i,rfl⟩:=Cg (show 0<=k by omega)
 have hil:i<(t.way l).length:=by unfold Dn.len at e;omega
 obtain⟨⟨J,wc,b⟩,x,hw,hx,hn⟩:=RR o (k:=l) (by show 0<(t.way l).length;omega)
 replace hn:Dz L b x:=hn
 have B:t.way l=x:=by unfold Dn.way;rw[hx];rfl
 rw[B]at hil ⊢
 have hxl:x.length<=1000:=hf.len l x hx
 have hnl:b.length=x.length:=hn.1
 have hwl:b.length<=1000:=by rw[hnl];exact hxl
 have H:i<b.length:=by rw[hnl];exact hil
 obtain⟨y,hy⟩:∃y,x[i]? =some y:=⟨_,Ae hil⟩
 obtain⟨K,M,C,I,_⟩:=hn.at hy
 have G:x.getD (i:Int).toNat []=y:=by rw[Bf,AB,hy];rfl
 have hre:t.rest l i=if(x.eraseIdx i).length=0 then adel l t.ways else aset l (x.eraseIdx i) t.ways:=by unfold Dn.rest;rw[B];rfl
 have hne:=hn.erase i
 have u:((alk l al).map gW).getD (.slice none 0 0)= .slice J b.length wc:=by rw[hw];rfl
 refine OA 2 ?_
 refine Tx (Cv.wyO (.p3 .d) hw) fun R=>CM at5 Reads.sq C fun ad F=>?_
 obtain rfl:J=some ad:=F
 refine Cw (.t (.t (.s (.t (.s (.t .d)))))) rfl (fun j=>false) ?_
 intro f
 refine DA [0,1,2,3,4] ?_
 refine D1 5 rfl (YK (QaD l Mi u131 (hy:=rfl)) u) ?_
 refine D1 6 rfl DC ?_
 refine D1 7 rfl (GO (i) u40) ?_
 refine D1 8 rfl (Ct.reads (j:=i) rfl rfl at3 Reads.sq u53 rfl C) ?_
 refine D1 9 rfl FC ?_
 refine OA 2 ?_
 refine Cw (.t (.t (.s (.t .d)))) rfl (fun j=>Nat.beq j 15) ?_
 intro f
 refine DA [0,1,2,3,4,5,6,7,8,9] ?_
 refine D1 10 rfl (YK (QaD l Mi u131 (hy:=rfl)) u) ?_
 refine DA [11,12,13] ?_
 refine Da 14 ?_
 refine DB rfl rfl (en 138) rfl (.p5 .d) (del_spec (some ad) wc i b H (hn.sh) hwl) ?_
 rintro _ _ ⟨rfl,rfl⟩
 refine ys (Da 15 ?_)
 refine D8 rfl (LO.setC (g:=gW) l ⟨some ad,wc,b.eraseIdx i⟩ Mi u131 (hx:=rfl)) ?_
 refine D0 (Tx (Cv.wyI (al:=al) l (.p4 (.p4 .d)) rfl) fun E=>OA 2 ?_)
 refine Cw (.t (.t (.s (.t .d)))) rfl (fun j=>false) ?_
 intro f
 refine DA [0,1,2,3,4] ?_
 refine D1 5 rfl (YK (v':=.slice (some ad) (b.eraseIdx i).length wc) (QaD l Mi u131 (hy:=rfl)) (by rw[DE,Ah rfl];rfl)) ?_
 refine DA [6,7] ?_
 refine D0 (CP (fun((d,m):List (Int×Wy)×N_)=>[(0,Cr p),(8,.slice K y.length M)]) (fun(d,m)=>[NtB p D ab t,Hy D gW d,Hy ab gB t.apart,blk b4 (.cells (FB l).toArray 80 (0,0)),cm m (Pa 53 d)]) (fun(d,_)=>AR (WaR L) d (t.rest l i)) ?_ ?_)
 ·refine Cy rfl (fun s=>?_) (fun s=>?_)
  ·have hz:(x.eraseIdx i).length=0:=by rw[<-hne.1];omega
   refine Tx (Cv.wyO (.p4 .d) (k:=l) (w:=⟨some ad,wc,b.eraseIdx i⟩) (by rw[DE];exact Ah rfl)) fun m=>Cw (.t (.s2 (.t .d))) rfl (fun j=>false) ?_
   intro f
   refine DA [0,1,2,3,4] ?_
   refine Da 5 ?_
   refine D7 rfl (LO.delC l ((o.kn hf.ways).aset) Mi u131 (hx:=rfl)) ?_
   rintro _ _ ⟨rfl,rfl⟩
   refine ys (D0 ?_)
   exact⟨(adel l al,m),by rw[hre,Ah hz];exact o.adel l,Sb2,by rw[Ot];exact .cons_cons _ (.cons_cons _ (.cons_cons _ (.cons_cons _ (.cons_cons _ (An _)))))⟩
  refine Tk ?_
  exact⟨(aset l ⟨some ad,wc,b.eraseIdx i⟩ al,E),by rw[hre,Aa (by rw[<-hne.1];omega)];exact o.aset l hne,Sb2,.refl _⟩
 rintro⟨d,m⟩ q
 change AR (WaR L) d (t.rest l i)at q
 conv=>arg 4;dsimp only
 conv=>arg 5;dsimp only
 refine OA 17 ?_
 refine Tx (YL (.p0 (.p0 (.p0 (.p1 .d)))) (A:=Fi p L {t with ways:=t.rest l i,n:=t.n-1}) ⟨D,ab,d,m,rfl,q⟩) fun P=>Tp (.t1 .e) (Cu ?_)
 rw[G]
 exact Dq rfl rfl rfl (.refl _) ⟨K,M,rfl,I,P,rfl⟩
theorem Uh(p:Nat)(S:N_)(L:PL)(t:Dn)(m:Nat)(hf:t.Fit m)(hbb:m<1099511627776)(l k:Int)(hl: -9223372036854775808<=EQ l/\EQ l<9223372036854775808):
  Sp P0 73 [Cr p,gA (FB l),Cs k] [cm S (Fi p L t)] fun v h=>∃a c,v= .tuple #[.slice a (t.take_ l k).2.1.length c,.bool (t.take_ l k).2.2]/\Bs L (.slice a (t.take_ l k).2.1.length c) (t.take_ l k).2.1/\∃w,h=[cm w (Fi p L (t.take_ l k).1)]:=by
 have q1:0<=(t.take l k).1.lost/\(t.take l k).1.lost<=m:=by
  have:=hf.lost
  unfold Dn.take
  split<;>exact this
 have e:t.take_ l k=if(t.take l k).2.2=true/\(alk (Kh (EQ l) (GM l)) (t.take l k).1.apart).getD false=true then ((t.take l k).1.lose,[],false)else t.take l k:=by rw[Dn.take_apart];rfl
 rw[e]
 have hlo:=lo2_b l
 refine Sq Tryz.func73 fun w0 b_=>?_
 refine OA 2 ?_
 refine O6 YR fun b4=>?_
 refine OA 8 ?_
 refine Oc rfl (en 75) rfl (.p0 .d) (RV p S L t m hf l k) ?_
 rintro _ _ ⟨s,u,rfl,f,y,rfl⟩
 obtain⟨r,hr⟩:∃r,r=t.take l k:=⟨_,rfl⟩
 rw[<-hr]at f q1 ⊢
 refine OA 8 ?_
 refine Cx (Cv.op (.p1 .d)) ?_
 rintro _ ⟨_,⟨q,ab,al,n,rfl,o⟩,rfl⟩
 refine Cw (.t (.t (.s (.t .d)))) rfl (fun j=>false) ?_
 intro x
 refine DA [0,1] ?_
 refine Fo 18 rfl (fun b=>?_) (fun b=>?_)
 ·refine DA [2,3,4,5,6,7,8,9] ?_
  refine Da 10 ?_
  refine Gz rfl (Zc rfl (en 76) rfl (OJ (EQ l) (GM l) hl ⟨hlo.1,by omega⟩)) ?_
  refine D1 11 rfl (YK (QaD (g:=gB) (z:=gB false) (Kh (EQ l) (GM l)) Mi u132 (hy:=rfl)) (v':=gB ((alk (Kh (EQ l) (GM l)) r.1.apart).getD false)) (by cases alk (Kh (EQ l) (GM l)) r.1.apart<;>rfl)) ?_
  refine D1 12 rfl Xp1 ?_
  refine D0 (CE rfl (fun d=>?_) (fun d=>?_))
  ·rw[Ah ⟨b,d⟩]
   refine OA 16 ?_
   refine Tx (YL (.p1 (.p1 (.p1 (.p1 .d)))) (A:=Fi p L r.1.lose) ⟨q,ab,al,n,rfl,o⟩) fun i=>Tp (.t1 .e) ?_
   exact Cu (Dq rfl rfl rfl (.refl _) ⟨none,0,rfl,Zp _,i,rfl⟩)
  rw[Aa (fun h=>by rw[h.2]at d;cases d)]
  refine OA 8 ?_
  refine Tx (YL (.p1 (.p1 (.p1 (.p1 .d)))) (A:=Fi p L r.1) ⟨q,ab,al,n,rfl,o⟩) fun i=>Tp (.t1 .e) ?_
  exact Cu (Dq rfl rfl rfl (.refl _) ⟨s,u,rfl,f,i,rfl⟩)
 rw[Aa (fun h=>by rw[h.1]at b;cases b)]
 refine DA [2,3,4,5,6,7,8,9,10,11,12] ?_
 refine OA 10 ?_
 refine Tx (YL (.p1 (.p1 (.p1 (.p1 .d)))) (A:=Fi p L r.1) ⟨q,ab,al,n,rfl,o⟩) fun i=>Tp (.t1 .e) ?_
 exact Cu (Dq rfl rfl rfl (.refl _) ⟨s,u,rfl,f,i,rfl⟩)
theorem Uk(p:Nat)(S:N_)(L:PL)(t:Dn)(c:Nat)(hf:t.Fit c)(hbb:c<1099511627776)(l k:Int):
  Sp P0 29 [Cr p,gA (FB l),Cs k] [cm S (Fi p L t)] fun v h=>v= .bool (t.drop l k).2/\∃f,h=[cm f (Fi p L (t.drop l k).1)]:=by
 have q1:0<=(t.take l k).1.lost/\(t.take l k).1.lost<=c:=by
  have:=hf.lost
  unfold Dn.take
  split<;>exact this
 have e:t.drop l k=if(t.take l k).2.2=true then ((t.take l k).1.lose,true)else ((t.take l k).1,false):=rfl
 rw[e]
 refine Sq Tryz.func29 fun w0 b_=>?_
 refine OA 2 ?_
 refine O6 YR fun b4=>?_
 refine OA 7 ?_
 refine Oc rfl (en 75) rfl (.p0 .d) (RV p S L t c hf l k) ?_
 rintro _ _ ⟨o,q,rfl,d,m,rfl⟩
 obtain⟨r,hr⟩:∃r,r=t.take l k:=⟨_,rfl⟩
 rw[<-hr]at d q1 ⊢
 refine OA 11 ?_
 refine CE rfl (fun b=>?_) (fun b=>?_)
 ·rw[Ah b]
  refine Cx (Cv.op (.p1 .d)) ?_
  rintro _ ⟨_,⟨j,ab,al,g,rfl,i⟩,rfl⟩
  refine OA 10 ?_
  refine Tx (YL (.p1 (.p1 (.p1 (.p1 .d)))) (A:=Fi p L r.1.lose) ⟨j,ab,al,g,rfl,i⟩) fun n=>Tp (.t1 .e) (OA 5 ?_)
  exact Cu (CB rfl (CT rfl (congrArg Value.bool b)) (.refl _) ⟨rfl,_,rfl⟩)
 rw[Aa (by rw[b];exact AS)]
 refine OA 6 ?_
 refine Tp (.t1 .e) ?_
 exact Cu (CB rfl (CT rfl (congrArg Value.bool b)) (.refl _) ⟨rfl,_,rfl⟩)
theorem SG(p:Nat)(S:N_)(L:PL)(t:Dn)(r:Nat)(hf:t.Fit r)(hbb:r<1099511627776)(hbl:∀k x,alk k t.ways=some x->∀b∈x,b.length<17592186044416)(l k:Int):
  Sp P0 30 [Cr p,gA (FB l),Cs k] [cm S (Fi p L t),pool L] fun v h=>v= .bool (t.twice l k).2/\∃L' I,Le L L'/\h=[cm I (Fi p L' (t.twice l k).1),pool L']:=by
 refine Sq Tryz.func30 fun w0 b_=>?_
 refine Cx (Cv.op (.p0 .d)) ?_
 rintro _ ⟨_,⟨s,ab,al,J,rfl,g⟩,rfl⟩
 refine OA 2 ?_
 refine O6 YR fun b4=>?_
 refine OA 4 ?_
 refine CQ 22 (k<0∨t.len l<=k∨500<=t.n) ?_ ?_
 ·refine OA 4 ?_
  refine CJ 9 rfl (fun D=>?_) (fun D=>?_)
  ·refine OA 14 ?_
   exact Ex
  refine OA 3 ?_
  refine O8 (Zd rfl (en 27) rfl (.p1 (.p1 .d)) (JD p s ab L t al g l)) ?_
  refine Oi (YN (.t0 (.t3 (.t3 (.t0 (.t0 (.t0 .e))))))) ?_
  refine OA 3 ?_
  refine CJ 16 rfl (fun m=>?_) (fun m=>?_)
  ·refine OA 7 ?_
   exact Ex
  refine OA 7 ?_
  exact Ex
 refine Cy rfl (fun c=>?_) (fun c=>?_)
 ·rw[show t.twice l k=(t,false) by unfold Dn.twice;rw[Ah c]]
  refine OA 4 ?_
  refine Tx (YL (.p1 (.p1 (.p1 (.p1 .d)))) (A:=Fi p L t) ⟨s,ab,al,J,rfl,g⟩) fun q=>Tp (.t2 (.t0 .e)) ?_
  exact Cu (Rr ⟨rfl,L,_,.refl _,rfl⟩)
 rw[show t.twice l k=((t.send l ((t.way l).getD k.toNat [])).1,decide ((t.send l ((t.way l).getD k.toNat [])).2=0)) by unfold Dn.twice;rw[Aa c]]
 obtain⟨i,rfl⟩:=Cg (show 0<=k by omega)
 have hil:i<(t.way l).length:=by unfold Dn.len at c;omega
 obtain⟨⟨F,wc,f⟩,x,hw,hx,hn⟩:=RR g (k:=l) (by show 0<(t.way l).length;omega)
 have E:t.way l=x:=by unfold Dn.way;rw[hx];rfl
 rw[E]at hil ⊢
 obtain⟨y,hy⟩:∃y,x[i]? =some y:=⟨_,Ae hil⟩
 obtain⟨G,H,e,o,_⟩:=hn.at hy
 have hyl:=hbl l x hx y (Aj hy)
 have C:x.getD (i:Int).toNat []=y:=by rw[Bf,AB,hy];rfl
 rw[C]
 have n:((alk l al).map gW).getD (.slice none 0 0)= .slice F f.length wc:=by rw[hw];rfl
 have K:i<f.length:=by rw[show f.length=x.length from hn.1];exact hil
 refine OA 2 ?_
 refine Tx (Cv.wyO (.p4 .d) hw) fun N=>CM at6 Reads.sq e fun ad B=>?_
 obtain rfl:F=some ad:=B
 refine Cw (.s (.t (.t (.s (.t (.s (.t .d))))))) rfl (fun j=>Nat.beq j 11) ?_
 intro M
 refine DA [0,1] ?_
 refine DP [2,3,4,8] ?_
 refine Jy 5 6 ?_ ?_
 ·refine Gz rfl (YX (Zi u131)) ?_
  refine Da 6 ?_
  refine Gz rfl (YX (ZX 2 u80)) ?_
  refine Da 7 ?_
  refine Gz rfl (YX (YK (QaD l Mi u131 (hy:=rfl)) n)) ?_
  refine D2 9 rfl (fun _=>GO (i) u40) ?_
  refine D1 10 rfl (Ct.reads (j:=i) rfl rfl at3 Reads.sq u53 rfl e) ?_
  refine Da 11 ?_
  refine Ew (Cv.wyI (al:=al) l (.p5 (.p5 .d)) rfl) ?_
  rintro _ ⟨q,rfl⟩
  rw[KB hw]
  refine Ew (YL (.p1 (.p1 (.p1 (.p2 .d)))) (A:=Fi p L t) ⟨s,ab,al,q,rfl,g⟩) ?_
  rintro _ ⟨u,rfl⟩
  refine DB rfl rfl (en 57) rfl (.p2 (.p0 .d)) (Jr p u L t r hf hbb l G H y o hyl) ?_
  rintro _ _ ⟨rfl,L2,w,d,rfl⟩
  refine yk ?_
  refine DP [12,13] ?_
  refine D0 (Tp (.t1 (.t1 .e)) ?_)
  exact Cu (Rr ⟨rfl,L2,w,d,rfl⟩)
 refine Gz rfl (YX (ZX 2 u80)) ?_
 refine Da 5 ?_
 refine Gz rfl (YX (Zi u131)) ?_
 refine Da 7 ?_
 refine Gz rfl (YX (YK (QaD l Mi u131 (hy:=rfl)) n)) ?_
 refine D2 9 rfl (fun _=>GO (i) u40) ?_
 refine D1 10 rfl (Ct.reads (j:=i) rfl rfl at3 Reads.sq u53 rfl e) ?_
 refine Da 11 ?_
 refine Ew (Cv.wyI (al:=al) l (.p5 (.p5 .d)) rfl) ?_
 rintro _ ⟨q,rfl⟩
 rw[KB hw]
 refine Ew (YL (.p1 (.p1 (.p1 (.p2 .d)))) (A:=Fi p L t) ⟨s,ab,al,q,rfl,g⟩) ?_
 rintro _ ⟨u,rfl⟩
 refine DB rfl rfl (en 57) rfl (.p2 (.p0 .d)) (Jr p u L t r hf hbb l G H y o hyl) ?_
 rintro _ _ ⟨rfl,L2,w,d,rfl⟩
 refine yk ?_
 refine DP [12,13] ?_
 refine D0 (Tp (.t1 (.t1 .e)) ?_)
 exact Cu (Rr ⟨rfl,L2,w,d,rfl⟩)
section
open Go Go.Sort
theorem OF{α:Type}[Inhabited α]{enc:α->V_}{k:Nat}(hk:∀x,(enc x).length=k)(d:Array α):(flatK enc k d).toList=d.toList.flatMap enc:=by
 refine List.ext_getElem? fun t=>?_
 rw[Bi]
 have hl:(d.toList.flatMap enc).length=d.size*k:=by rw[Ft hk,Bg]
 rcases Ca t (d.size*k)with h|h
 ·have h0:0<k:=by
   rcases Nat.eq_zero_or_pos k with e|e
   ·subst e;simp at h
   ·exact e
  have hs:t<(flatK enc k d).size:=by rw[size_flatK];exact h
  have hq:t/k<d.size:=Nat.div_lt_of_lt_mul (by rw[Nat.mul_comm];exact h)
  have hr:t%k<k:=By _ h0
  have e1:d.toList[t/k]? =some d[t/k]! :=by rw[Bi,BS hq,getElem!_pos d _ hq]
  have e2:(enc d[t/k]!)[t%k]? =some ((enc d[t/k]!)[t%k]!):=by
   have hx:t%k<(enc d[t/k]!).length:=by rw[hk];exact hr
   rw[Ae hx,getElem!_pos (enc d[t/k]!) (t%k) hx]
  have:=ED (g:=enc) (s:=k) hk e1 (t%k) _ e2
  rw[Nat.div_add_mod' t k]at this
  rw[this,BS hs,<-getElem!_pos (flatK enc k d) t hs,get_flatK _ _ _ _ h]
 ·rw[Bz (by rw[size_flatK];exact h),Bn (by rw[hl];exact h)]
theorem Qc{w:World}{g n:Nat}{os:Array Obj}{cur:Array Value}{e:TypeId}{b:Nat×Nat}(d:Array Value)(hb:w.heap[g]? =some (.cells cur e b)):
  (grow (putRow id (Sort.ahead w n) g 0 d) os).heap[g]? =some (.cells (Go.Sort.putCells id 0 d cur) e b):=by
 have hg:g<w.heap.size:=(Bb.1 hb).1
 rw[heap_grow_old _ _ (by simpa using hg)]
 simp[putRow,mapBlock,Sort.ahead,Array.getElem?_modify,hb,onCells]
theorem Mh{w:World}{g n:Nat}{os:Array Obj}(d:Array Value):w.grownBy (grow (putRow id (Sort.ahead w n) g 0 d) os) (some g):=by
 refine⟨rfl,rfl,rfl,by simp,fun k hk hne=>?_⟩
 rw[heap_grow_old _ _ (by simpa using hk)]
 have:g≠k:=fun e=>hne (by rw[e])
 simp[putRow,mapBlock,Sort.ahead,Array.getElem?_modify,this]
theorem ND(cur d:Array Value)(h:d.size<=cur.size):(Go.Sort.putCells id 0 d cur).toList.take d.size=d.toList:=by
 apply List.ext_getElem?
 intro j
 by_cases hj:j<d.size
 ·rw[Cc hj,Bi]
  simp[Go.Sort.putCells,hj,show j<cur.size by omega]
 ·rw[List.getElem?_take_eq_none (by omega),Bn (by simp;omega)]
theorem Xz{w:World}{g:Nat}{cur d:Array Value}{e:TypeId}(hb:w.heap[g]? =some (.cells cur e (0,0)))(ht:cur.toList.take d.size=d.toList):Holds id w g 0 d:=by
 intro j hj
 refine⟨?_,by simp[World.frozen?,hb]⟩
 have h1:(cur.toList.take d.size)[j]? =d.toList[j]? :=by rw[ht]
 rw[Cc hj]at h1
 simp only[World.cell?,hb,Nat.zero_add]
 simp only[Option.isSome_none,Bool.false_eq_true,if_false]
 rw[<-Bi,h1]
 simp[hj]
section
variable {α:Type}[Inhabited α]{enc:α->V_}{k:Nat}{w0 w:World}{b_:N_}{h:Mem}
theorem CX.sortedK(hk:∀x,(enc x).length=k){g cap T n:Nat}{os:Array Obj}{xs:List α}{d':Array α}(o:CX w0 b_ (sq (some ⟨g,0,none⟩) xs.length cap T k (xs.flatMap enc)::h) w)(hs:d'.size=xs.length):
  CX w0 b_ (sq (some ⟨g,0,none⟩) xs.length cap T k (d'.toList.flatMap enc)::h) (Go.Proofs.sortWorldK enc k w g 0 n d' os):=by
 obtain⟨h1,h2⟩:=o.mine _ Ar
 rcases h2 with ⟨hn,_⟩|⟨d,cur,c,hg,k1,k2,k3,k4⟩
 ·cases hn
 ·cases c
  have b:w.heap[g]? =some (.cells cur T (0,0)):=hg
  have hgr:=Mh (w:=w) (g:=g) (n:=n) (os:=os) (flatK enc k d')
  have hsz:(flatK enc k d').size=xs.length*k:=by rw[size_flatK,hs]
  have hle:(flatK enc k d').size<=cur.size:=by rw[hsz,k3];exact Bo _ k1
  have hhp:=Qc (w:=w) (g:=g) (n:=n) (os:=os) (flatK enc k d') b
  have hP:(sq (some ⟨g,0,none⟩) xs.length cap T k (d'.toList.flatMap enc)).P (hf (grow (putRow id (Sort.ahead w n) g 0 (flatK enc k d')) os)):=
   ⟨by rw[Ft hk,Bg,hs],.inr ⟨g,_,rfl,hhp,k1,k2,by simp[Go.Sort.putCells,k3],by
    have:=ND cur (flatK enc k d') hle
    rw[hsz,OF hk]at this
    exact this⟩⟩
  exact o.renew (w':=grow (putRow id (Sort.ahead w n) g 0 (flatK enc k d')) os) (i:=0) (r':=sq (some ⟨g,0,none⟩) xs.length cap T k (d'.toList.flatMap enc)) rfl (.inl rfl) hgr.os hgr.tape hgr.output hgr.size (fun k hk hne=>hgr.block k hk fun e=>hne (by cases e;simp[sq])) hP
theorem CX.holdsK(hk:∀x,(enc x).length=k){g cap T:Nat}{xs:List α}(o:CX w0 b_ (sq (some ⟨g,0,none⟩) xs.length cap T k (xs.flatMap enc)::h) w):HoldsK enc k w g 0 xs.toArray/\g<w.heap.size:=by
 obtain⟨h1,h2⟩:=o.mine _ Ar
 rcases h2 with ⟨hn,_⟩|⟨d,cur,c,hg,k1,k2,k3,k4⟩
 ·cases hn
 ·cases c
  have b:w.heap[g]? =some (.cells cur T (0,0)):=hg
  refine⟨Xz (cur:=cur) b ?_,(Bb.1 b).1⟩
  rw[size_flatK,OF hk]
  exact k4
end
def cfL(x y:Int):Int:=if Lib.compareInt (EQ x) (EQ y)=0 then Lib.compareInt (GM x) (GM y)else Lib.compareInt (EQ x) (EQ y)
theorem Ny(a b:Int):(a<b/\Lib.compareInt a b= -1)∨(b<a/\Lib.compareInt a b=1)∨(a=b/\Lib.compareInt a b=0):=by
 unfold Lib.compareInt
 by_cases h1:a<b
 ·simp[h1]
 ·by_cases h2:b<a
  ·simp[h1,h2]
  ·have:a=b:=by omega
   simp[this]
theorem ltL(x y:Int):Go.Proofs.ltOf cfL x y=decide (x<y):=by
 unfold Go.Proofs.ltOf cfL
 have e1:=JK x;have e2:=JK y;have b1:=lo2_b x;have b2:=lo2_b y
 unfold UV at e1 e2
 refine AN.2 ?_
 rcases Ny (EQ x) (EQ y)with ⟨h1,h2⟩|⟨h1,h2⟩|⟨h1,h2⟩<;>rcases Ny (GM x) (GM y)with ⟨h3,h4⟩|⟨h3,h4⟩|⟨h3,h4⟩<;>rw[h2]<;>simp only[h4]<;>(try simp only[if_true,if_false,(by decide:¬(-1:Int)=0),(by decide:¬(1:Int)=0)])<;>constructor<;>intro h<;>omega
theorem swoL:SWO (Go.Proofs.ltOf cfL) where
 irrefl x:=by rw[ltL];simp
 trans x y z h1 h2:=by rw[ltL]at*;simp at*;omega
 ntrans x y z h1 h2:=by rw[ltL]at*;simp at*;omega
end
section
open Go Go.Sort
section
variable {P:Program}{n m:Nat}{l:Dh}{o:Oper}{v:Value}{ops:Array Oper}{rest:List Oper}{d:Nat}{Q:Exit->Act->World->Prop}
theorem OW_box{x:Operand}{T:TypeId}{W:World}(ho:o.op= .box T x)(hx:ev l x=some v)(hg:o.guard=none)(hn:Gh o=true)(hd:o.dst=some d)(hlt:Nat.blt d n=true)
  (hk:OW P n m ops Q rest ((d,Cr W.heap.size)::l) fun w=>w=W.alloc (.cells v.cells T)):OW P n m ops Q (o::rest) l fun w=>w=W:=
 QH (ι:=Unit) (s:=Instr.box T v) (val:=fun _=>Cr W.heap.size) (R:=fun _ w=>w=W.alloc (.cells v.cells T)) hg hn hd hlt (fun a hf=>by unfold execOp;simp only[ho,hf.eval hx]) (fun w hw=>⟨(),_,by subst hw;rfl,rfl⟩) fun _=>hk
end
theorem ex_bs{a:Act}{o:Oper}{T:TypeId}{m:Nat}{ps:List (Nat×Operand)}{vs:List (Nat×Value)}(ho:o.op= .buildSlice T m ps.toArray)(hv:ps.map (fun p=>(p.1,a.eval p.2))=vs):execOp a.eval o=(do pure (.value (<-Instr.buildSlice T m vs.toArray))):=by
 unfold execOp
 simp only[ho,List.map_toArray,hv]
theorem Kg{w:World}{b i T:Nat}{cs:V_}{v:Value}(h:w.heap[b]? =some (.cells cs.toArray T (0,0)))(hv:cs[i]? =some v):w.cell? ⟨b,i,none⟩=some v:=by
 have h':Go.Cru.hf w b=some (.cells cs.toArray T (0,0)):=h
 rw[HU,Gx,h']
 simpa using hv
theorem Nb{w:World}{i:Nat}{o:Obj}(ob:Obj)(h:w.heap[i]? =some o):(w.alloc ob).heap[i]? =some o:=by
 have l:=(Bb.1 h).1
 show(w.heap.push ob)[i]? =_
 rw[Array.getElem?_push,Aa (by omega)];exact h
open Go.Cru Go.Deep Go.Shelf Go.Maps Go.RowKit Go.Sort
def Lj:Go.Shelf.Ren:={f:=fun x=>match x with|6=>132|15=>180|14=>179|28=>223|29=>172|20=>215|21=>216|22=>217|23=>218|24=>219|25=>220|26=>221|27=>222|46=>248|47=>249|48=>250|49=>251|50=>252|57=>259|n=>n,t:=fun x=>match x with|22=>77|24=>80|25=>154|3=>3|39=>126|0=>0|53=>248|55=>22|4=>4|46=>326|45=>325|50=>281|5=>5|9=>9|66=>347|70=>183|76=>353|77=>354|n=>n,g:=fun x=>x}
theorem sortL:Go.Proofs.SlLaysF0.n6 P0 Lj:=
{mixed:=rfl,f6:=⟨Tryz.f132.name,by kernel_rfl,Tryz.func132⟩,f14:=⟨Tryz.f179.name,by kernel_rfl,Tryz.func179⟩,f15:=Tryz.func180,f20:=⟨Tryz.f215.name,by kernel_rfl,Tryz.func215⟩,f21:=⟨Tryz.f216.name,by kernel_rfl,Tryz.func216⟩,f22:=⟨Tryz.f217.name,by kernel_rfl,Tryz.func217⟩,f23:=⟨Tryz.f218.name,by kernel_rfl,Tryz.func218⟩,f24:=⟨Tryz.f219.name,by kernel_rfl,Tryz.func219⟩,f25:=⟨Tryz.f220.name,by kernel_rfl,Tryz.func220⟩,f26:=⟨Tryz.f221.name,by kernel_rfl,Tryz.func221⟩,f27:=⟨Tryz.f222.name,by kernel_rfl,Tryz.func222⟩,f28:=Tryz.func223,f29:=Tryz.func172,f46:=⟨Tryz.f248.name,by kernel_rfl,Tryz.func248⟩,f47:=Tryz.func249,f48:=Tryz.func250,f49:=⟨Tryz.f251.name,by kernel_rfl,Tryz.func251⟩,f50:=⟨Tryz.f252.name,by kernel_rfl,Tryz.func252⟩,f57:=⟨Tryz.f259.name,by kernel_rfl,Tryz.func259⟩,t0:=u0,a0:=Tryz.isAgg0,z0:=Tryz.sizeOf0,v0:=Tryz.zeroValue0,t3:=u3,a3:=Tryz.isAgg3,z3:=Tryz.sizeOf3,v3:=Tryz.zeroValue3,t4:=u4,a4:=Tryz.isAgg4,z4:=Tryz.sizeOf4,v4:=Tryz.zeroValue4,t5:=u5,a5:=Tryz.isAgg5,z5:=Tryz.sizeOf5,v5:=Tryz.zeroValue5,t9:=u9,a9:=Tryz.isAgg9,z9:=Tryz.sizeOf9,v9:=Tryz.zeroValue9,t22:=u77,a22:=Tryz.isAgg77,z22:=Tryz.sizeOf77,v22:=Tryz.zeroValue77,t25:=u154,a25:=Tryz.isAgg154,z25:=Tryz.sizeOf154,v25:=Tryz.zeroValue154,t39:=u126,a39:=Tryz.isAgg126,z39:=Tryz.sizeOf126,v39:=Tryz.zeroValue126,t45:=u325,a45:=Tryz.isAgg325,z45:=Tryz.sizeOf325,v45:=Tryz.zeroValue325,t46:=u326,a46:=Tryz.isAgg326,z46:=Tryz.sizeOf326,v46:=Tryz.zeroValue326,t50:=u281,a50:=Tryz.isAgg281,z50:=Tryz.sizeOf281,v50:=Tryz.zeroValue281,t53:=u248,a53:=Tryz.isAgg248,z53:=Tryz.sizeOf248,v53:=Tryz.zeroValue248,t55:=u22,a55:=Tryz.isAgg22,z55:=Tryz.sizeOf22,v55:=Tryz.zeroValue22,t66:=u347,a66:=Tryz.isAgg347,z66:=Tryz.sizeOf347,v66:=Tryz.zeroValue347,t70:=u183,a70:=Tryz.isAgg183,z70:=Tryz.sizeOf183,v70:=Tryz.zeroValue183,t76:=u353,a76:=Tryz.isAgg353,z76:=Tryz.sizeOf353,v76:=Tryz.zeroValue353,t77:=u354,a77:=Tryz.isAgg354,z77:=Tryz.sizeOf354,v77:=Tryz.zeroValue354}
def Ym:Go.Shelf.Ren:={f:=fun x=>match x with|5=>72|7=>134|n=>n,t:=fun x=>match x with|22=>3|3=>3|4=>4|n=>n,g:=fun x=>x}
theorem cmpIn:Go.Proofs.SlLaysC2.n5 P0 Ym:=
{mixed:=rfl,f5:=⟨Tryz.f72.name,by kernel_rfl,Tryz.func72⟩,f7:=⟨Tryz.f134.name,by kernel_rfl,Tryz.func134⟩,t3:=u3,a3:=Tryz.isAgg3,z3:=Tryz.sizeOf3,v3:=Tryz.zeroValue3,t4:=u4,a4:=Tryz.isAgg4,z4:=Tryz.sizeOf4,v4:=Tryz.zeroValue4,t22:=u3,a22:=Tryz.isAgg3,z22:=Tryz.sizeOf3,v22:=Tryz.zeroValue3}
def orZ(a b:Int):Int:=if a=0 then b else a
theorem orZ_cf(x y:Int):orZ (Lib.compareInt (EQ x) (EQ y)) (Lib.compareInt (GM x) (GM y))=cfL x y:=rfl
def YF:List Int->Int
 |[]=>0
 |z::zs=>if z=0 then YF zs else z
theorem orL_two(a b:Int):YF [a,b]=orZ a b:=by
 unfold YF YF YF orZ
 split
 ·split<;>omega
 ·rfl
theorem or_calls(b:Nat)(zs:List Int)(c:Nat)(hz:zs.length<1000)(W:World)(hb:W.heap[b]? =some (.cells (zs.map (Value.int .i64)).toArray 3 (0,0))):Calls P0 71 [.slice (some ⟨b,0,none⟩) zs.length c].toArray W fun e w'=>e= .returned (Cs (YF zs))/\w'=W:=by
 have hl:∀i z,zs[i]? =some z->W.cell? ⟨b,i,none⟩=some (Cs z):=fun i z h=>Kg hb (by rw[Aq,h];rfl)
 refine Calls.mono ((callsIn_wide (n:=6)).1 (Sx (vs:=[.slice (some ⟨b,0,none⟩) zs.length c]) (Φ:=fun w=>w=W) (R:=fun v w=>v= Cs (YF zs)/\w=W) Tryz.func71 rfl rfl rfl rfl rfl ?_)) fun e w' ⟨v,h1,h2,h3⟩=>⟨by rw[h1,h2],h3⟩
 refine DO ?_
 refine Do ?_
 refine CZ rfl rfl rfl rfl (fun w _=>Ct.assign rfl rfl) ?_
 refine Ei ?_
 refine DO ?_
 refine Do ?_
 refine CZ rfl rfl rfl rfl (fun w _=>Ct.assign rfl rfl) ?_
 refine Ei ?_
 refine DO ?_
 refine DO ?_
 refine Do ?_
 refine CZ rfl rfl rfl rfl (fun w _=>Ct.move rfl rfl) ?_
 refine CZ rfl rfl rfl rfl (fun w _=>Qa0 rfl rfl u28) ?_
 refine CZ rfl rfl rfl rfl (fun w _=>Ct.move rfl rfl) ?_
 refine Ei ?_
 refine Hk ?_
 refine Qt (fun i:Nat=>[(3,Cs 0),(6,.slice (some ⟨b,0,none⟩) zs.length c),(7,Cs zs.length),(8,Cs i)]) (fun _ w=>w=W) (fun i=>i<=zs.length/\YF (zs.drop i)=YF zs) (fun i=>zs.length-i) 0 ⟨Af _,rfl⟩ Sb4 (fun w hw=>hw) ?_
 rintro i ⟨hi,he⟩
 refine DO ?_
 refine Do ?_
 refine CZ rfl rfl rfl rfl (fun w _=>Ct.lss rfl rfl rfl) ?_
 refine Ei ?_
 refine DO ?_
 refine TW_if rfl (fun ht=>?_) (fun ht=>?_)
 ·obtain⟨z,f⟩:∃z,zs[i]? =some z:=⟨_,Ae (by omega)⟩
  have hil:=(Ab.1 f).1
  have hd:YF (zs.drop i)=if z=0 then YF (zs.drop (i+1))else z:=by rw[Ay hil,(Ab.1 f).2];rfl
  rw[hd]at he
  refine IL ?_
  refine DO ?_
  refine Hk ?_
  refine DO ?_
  refine Do ?_
  refine CZ rfl rfl rfl rfl (fun w _=>Qaq i rfl rfl rfl u28 rfl rfl (by omega)) ?_
  refine CZ rfl rfl rfl rfl (v:=Cs z) (fun w hw=>Ct.old rfl rfl u3 rfl (by subst hw;have:=hl i z f;rw[add_lit,AE];exact this) (by simp)) ?_
  refine CZ rfl rfl rfl rfl (fun w _=>Ct.assign rfl rfl) ?_
  refine Ei ?_
  refine DO ?_
  refine Do ?_
  refine CZ rfl rfl rfl rfl (fun w _=>Ct.move rfl rfl) ?_
  refine CZ rfl rfl rfl rfl (fun w _=>Ct.move rfl rfl) ?_
  refine CZ rfl rfl rfl rfl (fun w _=>Ct.neq rfl rfl rfl) ?_
  refine Ei ?_
  refine TW_if (p:=¬z=0) (by exact congrArg some (congrArg Value.bool decide_not.symm)) (fun d=>?_) (fun d=>?_)
  ·rw[Aa d]at he
   refine DO ?_
   refine Do ?_
   refine CZ rfl rfl rfl rfl (fun w _=>Ct.move rfl rfl) ?_
   refine CZ rfl rfl rfl rfl (fun w _=>Ct.assign rfl rfl) ?_
   refine Ei ?_
   refine Qd ?_
   exact⟨rfl,_,rfl,fun w hw=>⟨by rw[he],hw⟩⟩
  ·rw[Ah (Decidable.not_not.1 d)]at he
   refine IL ?_
   refine Do ?_
   refine CZ rfl rfl rfl rfl (fun w _=>Ct.add rfl rfl rfl (by omega) (by omega)) ?_
   refine CZ rfl rfl rfl rfl (fun w _=>Ct.move rfl rfl) ?_
   refine Ei ?_
   exact⟨i+1,⟨by omega,he⟩,Sb4,fun w hw=>hw,by omega⟩
 ·rw[AM (by omega)]at he
  refine QE ?_
  refine DO ?_
  refine Do ?_
  refine CZ rfl rfl rfl rfl (fun w _=>Ct.move rfl rfl) ?_
  refine CZ rfl rfl rfl rfl (fun w _=>Ct.assign rfl rfl) ?_
  refine Ei ?_
  refine Qd ?_
  exact⟨rfl,_,rfl,fun w hw=>⟨by rw[<-he];rfl,hw⟩⟩
theorem run_bs2(x y:Int)(w:World):(Instr.buildSlice 28 2 #[(0,Cs x),(1,Cs y)]).run P0 w= .ok (.slice (some ⟨w.heap.size,0,none⟩) 2 2) (w.alloc (.cells ([x,y].map (Value.int .i64)).toArray 3)):=by
 unfold Instr.buildSlice
 rw[Ak,Cz u28,Ai]
 show((sizeOf 3 >>= fun _=>_:Sem Value)).run _ w=_
 rw[Ak,Go.Cru.run_sizeOf (s:=1) rfl,Ai]
 rw[Aa (by decide)]
 have b:(Array.range (2*1)).map (fun i=>(Value.int .i64 0).cells[i%(Value.int .i64 0).cells.size]!)=[Value.int .i64 0,Cs 0].toArray:=by kernel_rfl
 have c:Hd (apl 2 1) [Cs 0,Cs 0] [(0,Cs x),(1,Cs y)] [Cs x,Cs y]:=by repeat (first|exact .nil|(apply Hd.cons;(first|exact .agg|exact .one rfl);exact rfl;focus (repeat constructor)))
 simp only[show ¬2*1=0 by decide,if_false,Sem.run_bind,Ip (P:=P0) (T:=3) (z:=Cs 0) rfl,Sem.run_pure,Result.andThen_ok]
 rw[b]
 simp only[c.arr]
 rfl
theorem QN(x y:Int)(W:World):Calls P0 70 #[.agg (FB x).toArray,.agg (FB y).toArray] W fun e w'=>e= .returned (Cs (cfL x y))/\∃q os',w'=grow (W.drewN q) os':=by
 obtain⟨g,f⟩:∃w,w=W.alloc (.cells (FB x).toArray 80):=⟨_,rfl⟩
 obtain⟨W1,d⟩:∃w,w=g.alloc (.cells (FB y).toArray 80):=⟨_,rfl⟩
 obtain⟨S,k⟩:∃S:World->Prop,S=fun w=>w.heap[W.heap.size]? =some (.cells (FB x).toArray 80 (0,0))/\w.heap[g.heap.size]? =some (.cells (FB y).toArray 80 (0,0)):=⟨_,rfl⟩
 have hg1:Gr W W1:=by rw[d,f];exact((Gr.refl W).alloc _).alloc _
 have hs1:S W1:=by
  rw[k]
  refine⟨?_,?_⟩
  ·rw[d];refine Nb _ ?_;rw[f];exact BE
  ·rw[d];exact BE
 have hst:∀w ob,S w->S (w.alloc ob):=fun w ob h=>by
  rw[k]at h ⊢
  exact⟨Nb _ h.1,Nb _ h.2⟩
 have key:=(callsIn_wide (n:=6)).1 (Sx (P:=P0) (m:=6) (vs:=[.agg (FB x).toArray,.agg (FB y).toArray]) (w:=W) (Φ:=fun w=>w=W) (R:=fun v w=>v= Cs (cfL x y)/\Gr W w) Tryz.func70 rfl rfl rfl rfl rfl ?_)
 ·refine key.mono fun e w' ⟨v,h1,h2,h3⟩=>⟨by rw[h1,h2],h3⟩
 refine DO ?_
 refine Do ?_
 refine OW_box rfl rfl rfl rfl rfl rfl ?_
 rw[show(Value.agg (FB x).toArray).cells=(FB x).toArray from rfl,<-f]
 refine OW_box rfl rfl rfl rfl rfl rfl ?_
 rw[show(Value.agg (FB y).toArray).cells=(FB y).toArray from rfl,<-d]
 refine CZ rfl rfl rfl rfl (fun w _=>Ct.assign rfl rfl) ?_
 refine OW_imp (Ψ:=fun w=>Gr W w/\S w) (fun w hw=>by rw[hw];exact⟨hg1,hs1⟩) ?_
 refine Ei ?_
 refine DO ?_
 refine TW_draw rfl (S:=S) (Ψ:=fun w=>Gr W w/\S w) (fun w hw=>⟨hw.1.draw,by have:=hw.2;rw[k]at this ⊢;exact this⟩) ?_
 subst k
 refine Gk 0 rfl (fun w _=>Ct.fld 0 0 0 u80) (fun w h=>h.2) ?_
 refine Gk 1 rfl (v:=Cs (EQ x)) (fun w h=>Ct.old rfl rfl u3 rfl (Kg h.1 rfl) (by simp)) (fun w h=>h.2) ?_
 refine Gk 2 rfl (fun w _=>Ct.fld 0 0 0 u80) (fun w h=>h.2) ?_
 refine Gk 3 rfl (v:=Cs (EQ y)) (fun w h=>Ct.old rfl rfl u3 rfl (Kg h.2 rfl) (by simp)) (fun w h=>h.2) ?_
 refine Gk 5 rfl (fun w _=>Ct.fld 1 1 1 u80) (fun w h=>h.2) ?_
 refine Gk 6 rfl (v:=Cs (GM x)) (fun w h=>Ct.old rfl rfl u3 rfl (Kg h.1 rfl) (by simp)) (fun w h=>h.2) ?_
 refine Gk 7 rfl (fun w _=>Ct.fld 1 1 1 u80) (fun w h=>h.2) ?_
 refine Gk 8 rfl (v:=Cs (GM y)) (fun w h=>Ct.old rfl rfl u3 rfl (Kg h.2 rfl) (by simp)) (fun w h=>h.2) ?_
 refine Mr 4 (val:=fun _:Unit=>Cs (Lib.compareInt (EQ x) (EQ y))) (Ψ:=fun _ w=>Gr W w/\(w.heap[W.heap.size]? =some (.cells (FB x).toArray 80 (0,0))/\w.heap[g.heap.size]? =some (.cells (FB y).toArray 80 (0,0)))) (by kernel_rfl) rfl rfl rfl rfl (UR rfl (en 72) rfl fun w hw=>(Go.Proofs.AnyG.cmp_Compare_int cmpIn (EQ x) (EQ y) w).mono fun e w' ⟨h1,h2⟩=>⟨(),h1,h2▸hw,fun h=>h2▸h⟩) fun _=>?_
 refine Mr 9 (val:=fun _:Unit=>Cs (Lib.compareInt (GM x) (GM y))) (Ψ:=fun _ w=>Gr W w/\(w.heap[W.heap.size]? =some (.cells (FB x).toArray 80 (0,0))/\w.heap[g.heap.size]? =some (.cells (FB y).toArray 80 (0,0)))) (by kernel_rfl) rfl rfl rfl rfl (UR rfl (en 72) rfl fun w hw=>(Go.Proofs.AnyG.cmp_Compare_int cmpIn (GM x) (GM y) w).mono fun e w' ⟨h1,h2⟩=>⟨(),h1,h2▸hw,fun h=>h2▸h⟩) fun _=>?_
 obtain⟨c1,i⟩:∃c,c=Lib.compareInt (EQ x) (EQ y):=⟨_,rfl⟩
 obtain⟨c2,j⟩:∃c,c=Lib.compareInt (GM x) (GM y):=⟨_,rfl⟩
 rw[<-i,<-j]
 refine Mr 10 (val:=fun b:Nat=>.slice (some ⟨b,0,none⟩) 2 2) (Ψ:=fun b w=>(Gr W w/\(w.heap[W.heap.size]? =some (.cells (FB x).toArray 80 (0,0))/\w.heap[g.heap.size]? =some (.cells (FB y).toArray 80 (0,0))))/\w.heap[b]? =some (.cells ([c1,c2].map (Value.int .i64)).toArray 3 (0,0))) (by kernel_rfl) rfl rfl rfl rfl (X_val (s:=Instr.buildSlice 28 2 #[(0,Cs c1),(1,Cs c2)]) (fun a hf=>by
  have h1:a.eval (.tmp 9)= Cs c1:=hf.eval rfl
  have h2:a.eval (.tmp 14)= Cs c2:=hf.eval rfl
  exact ex_bs (ps:=[(0,.tmp 9),(1,.tmp 14)]) rfl (by rw[AJ,AJ,Bd,h1,h2])) fun w hw=>⟨w.heap.size,_,run_bs2 c1 c2 w,⟨⟨hw.1.alloc _,hst w _ hw.2⟩,BE⟩,hst w _⟩) fun b=>?_
 refine Mr 11 (val:=fun _:Unit=>Cs (YF [c1,c2])) (Ψ:=fun _ w=>Gr W w/\(w.heap[W.heap.size]? =some (.cells (FB x).toArray 80 (0,0))/\w.heap[g.heap.size]? =some (.cells (FB y).toArray 80 (0,0)))) (by kernel_rfl) rfl rfl rfl rfl (UR rfl (en 71) rfl fun w hw=>(or_calls b [c1,c2] 2 (by show 2<1000;decide) w hw.2).mono fun e w' ⟨h1,h2⟩=>⟨(),h1,h2▸hw.1,fun h=>h2▸h⟩) fun _=>?_
 refine Gk 12 rfl (fun w _=>Ct.assign rfl rfl) (fun w h=>h.2) ?_
 refine XD_done (by kernel_rfl) ?_
 refine Qd ?_
 exact⟨rfl,_,rfl,fun w hw=>⟨by rw[orL_two,i,j,orZ_cf],hw.1⟩⟩
theorem UT(ao:A_)(cap:Nat)(zs:List Int)(hz:zs.length<4611686018427387904):
  Sp P0 132 [.slice ao zs.length cap,.func (.func 70) #[] #[]] [sq ao zs.length cap 80 2 (zs.flatMap FB)] fun v h=>v= .tuple #[]/\h=[sq ao zs.length cap 80 2 ((srtI zs).flatMap FB)]:=by
 intro w ho
 have hlen:(srtI zs).length=zs.length:=(Bq zs _).length_eq
 have hr:=ho.mine _ Ar
 have c:∀x:Int,(FB x).length=2:=fun _=>rfl
 obtain⟨h1,h2⟩:=hr
 rcases h2 with ⟨rfl,h3,h4⟩|⟨g,cur,rfl,hg,k1,k2,k3,k4⟩
 ·have f:zs=[]:=Bv h3
  subst f
  refine Calls.mono (Go.Proofs.AnyF.slices_SortFunc_none (ρ:=Lj) sortL none cap (.func (.func 70) #[] #[]) w) fun e w' ⟨he,hw⟩=>?_
  subst he hw
  rw[Bv hlen]
  exact⟨_,_,rfl,⟨rfl,rfl⟩,ho⟩
 ·obtain⟨i,hlt⟩:=ho.holdsK c
  have hto:∀x y,Go.Proofs.ltOf cfL x y=false->Go.Proofs.ltOf cfL y x=false->x=y:=fun x y a b=>by rw[ltL]at a b;have:=of_decide_eq_false a;have:=of_decide_eq_false b;omega
  refine Calls.mono (Go.Proofs.AnyQ.slices_SortFunc_total (ρ:=Lj) sortL 2 Tryz.isAgg80 Tryz.sizeOf80 FB c (fun x v hv=>by simp[FB]at hv;rcases hv with rfl|rfl<;>rfl) cfL swoL 70 #[] g 0 cap zs.toArray w (enters_of Tryz.func70 (by kernel_rfl) rfl) (fun m os j _ x y=>QN x y _) i hlt hz hto) fun e w' ⟨he,n,os,hw⟩=>?_
  subst he hw
  have d:(zs.toArray.toList.mergeSort fun x y=> !(Go.Proofs.ltOf cfL) y x)=srtI zs:=by
   unfold srtI
   congr 1
   funext x y
   rw[ltL]
   by_cases h:x<=y
   ·simp[h]
   ·simp[h];omega
  rw[d]
  exact⟨_,_,rfl,⟨rfl,rfl⟩,ho.sortedK (d':=(srtI zs).toArray) c (by simpa using hlen)⟩
end
section
variable {P:Program}{n m:Nat}{l:Dh}{o:Oper}{ops:Array Oper}{rest:List Oper}{Q:Exit->Act->World->Prop}
theorem OW_ex{ι:Type}{Φ:ι->World->Prop}(hk:∀i,OW P n m ops Q rest l (Φ i)):OW P n m ops Q rest l (fun w=>∃i,Φ i w):=fun a w hf ⟨i,hw⟩=>hk i a w hf hw
end
def kz:Value->Int
 |.agg cs=>match cs.toList with
  |[.int _ a,.int _ b]=>UV a b
  |_=>0
 |_=>0
theorem Us(k:Int):kz (Fk k)=k:=JK k
theorem UZ{β:Type}{g:β->Value}{al:List (Int×β)}(hn:KN al){b:List MapEntry}(hm:Mp Fk b fun k=>(alk k al).map g):(b.map fun e=>kz e.key).Perm (al.map (·.1)):=by
 have hk:∀e∈b,e.key=Fk (kz e.key):=fun e he=>by obtain⟨k,h⟩:=hm.1 e he;rw[h,Us]
 refine(List.perm_ext_iff_of_nodup ?_ hn.nodup).2 fun x=>?_
 ·refine List.pairwise_map.2 (hm.2.1.imp_of_mem fun {p q} hp hq hne e=>hne ?_)
  rw[hk p hp,hk q hq,e]
 ·rw[<-Jb,AZ]
  constructor
  ·rintro⟨e,he,rfl⟩
   have:(alk (kz e.key) al).map g=some e.val:=(hm.2.2 (kz e.key) e.val).2 ⟨e,he,hk e he,rfl⟩
   cases h:alk (kz e.key) al with
   |none=>rw[h]at this;cases this
   |some v=>exact⟨v,rfl⟩
  ·rintro⟨v,hv⟩
   obtain⟨e,he,h1,_⟩:=(hm.2.2 x (g v)).1 (show(alk x al).map g=some (g v) by rw[hv];rfl)
   exact⟨e,he,by rw[h1,Us]⟩
theorem own_setB{w0 w:World}{b_:N_}{h:Mem}{i b:Nat}{ob ob':Obj}(o:CX w0 b_ h w)(hi:h[i]? =some (blk b ob)):CX w0 b_ (h.set i (blk b ob')) (Go.ChangeMaps.setBlock w b ob'):=by
 have hb:=EC o hi
 have hlt:b<w.heap.size:=(Bb.1 hb).1
 have hh:=Jc w b ob' hlt
 refine o.set hi rfl rfl rfl rfl (by simp[Go.ChangeMaps.setBlock]) (fun k hk=>?_) ?_
 ·have:=congrFun hh k
  simp only[hf]at this
  exact this.trans (Aa (fun e=>hk (by simp[blk,e])))
 ·show hf {w with heap:=w.heap.setIfInBounds b ob'} b=some ob'
  rw[hh];simp
def LG(b:List MapEntry):Array Nat:=(b.map (·.born)).toArray
theorem Nc(b:List MapEntry)(e:MapEntry):LG (b++[e])=(LG b).push e.born:=by unfold LG;simp
theorem keysIt(b g:Nat)(al:List (Int×Wy))(hn:KN al):IterU P0 133 [Cr g] [blk g (.cells #[.map (some b)] 131 (0,0)),Hy b gW al] (al.map (·.1)):=by
 intro w0 b_ L σ Inv H W K ⟨y,J,D⟩
 obtain⟨d,c_,hb,u,hst⟩:=D.mine (Hy b gW al) (by simp)
 have hkp:=UZ hn u
 have C:∀e∈d.toList,e.key=Fk (kz e.key):=fun e he=>by obtain⟨k,h⟩:=u.1 e he;rw[h,Us]
 have ho1:CX w0 b_ (blk g (.cells #[.map (some b)] 131 (0,0))::blk b (.map d c_)::H y) W:=by
  have h1:CX w0 b_ (blk g (.cells #[.map (some b)] 131 (0,0))::Hy b gW al::H y) W:=D.perm (Av (l₁:=[blk g (.cells #[.map (some b)] 131 (0,0)),Hy b gW al]))
  exact h1.set (i:=1) (r':=blk b (.map d c_)) rfl rfl rfl rfl rfl rfl (fun _ _=>rfl) hb
 refine VL (vs:=[.func (.yield L) #[] #[],Cr g]) (Φ:=fun w=>CX w0 b_ (blk g (.cells #[.map (some b)] 131 (0,0))::blk b (.map d c_)::H y) w) Tryz.func133 rfl rfl rfl rfl ho1 ?_
 refine DO ?_
 refine Do ?_
 refine OW_lo rfl rfl rfl rfl (YX (Zi u131)) ?_
 rintro _ _ ⟨rfl,rfl⟩
 refine QH (ι:=Nat) (s:=Instr.range 131 (.map (some b))) (val:=fun l=>Cr l) (R:=fun l=>fun w=>∃x,Inv (([]:List MapEntry).map fun e=>kz e.key) x/\CX w0 b_ (blk g (.cells #[.map (some b)] 131 (0,0))::blk b (.map d c_)::blk l (.mapIter (some b) c_ (LG ([]:List MapEntry)) c_)::H x) w) rfl rfl rfl rfl (fun a hf=>by
  have h1:a.eval (.tmp 4)= .map (some b):=hf.eval rfl
  show(do pure (.value (<-Instr.range 131 (a.eval (.tmp 4)))):Sem Next)=_
  rw[h1]) (fun w hw=>?_) fun l=>?_
 ·have o:w.heap[b]? =some (.map d c_):=EC hw (i:=1) rfl
  refine⟨w.heap.size,_,run_range_map w 131 80 40 b d c_ u131 o,y,J,?_⟩
  have:=Gt hw (.mapIter (some b) c_ #[] c_)
  refine this.perm ?_
  show(blk g (.cells #[.map (some b)] 131 (0,0))::blk b (.map d c_)::([blk w.heap.size (.mapIter (some b) c_ #[] c_)]++H y)).Perm (blk g (.cells #[.map (some b)] 131 (0,0))::blk b (.map d c_)::(H y++[blk w.heap.size (.mapIter (some b) c_ #[] c_)]))
  exact(Av.cons _).cons _
 refine Ei ?_
 refine Hk ?_
 refine Qt (fun _:List MapEntry=>[(0,.func (.yield L) #[] #[]),(5,Cr l)]) (fun c=>fun w=>∃x,Inv (c.map fun e=>kz e.key) x/\CX w0 b_ (blk g (.cells #[.map (some b)] 131 (0,0))::blk b (.map d c_)::blk l (.mapIter (some b) c_ (LG c) c_)::H x) w) (fun c=>(∀e∈c,e∈d.toList)/\(c.map fun e=>kz e.key).Nodup) (fun c=>(leftOf d (LG c)).size) [] ⟨(by intro _ h;cases h),List.nodup_nil⟩ Sb2 (fun w hw=>hw) ?_
 rintro c ⟨m,E⟩
 refine DO ?_
 refine Do ?_
 refine QH (ι:=Option MapEntry) (s:=Instr.next (Cr l) false 0) (val:=fun i=>match i with|none=>.tuple #[.bool false]|some e=>.tuple #[.bool true,e.key,e.val]) (R:=fun i=>match i with|none=>fun w=>(leftOf d (LG c)).size=0/\(fun w=>∃x,Inv (c.map fun e=>kz e.key) x/\CX w0 b_ (blk g (.cells #[.map (some b)] 131 (0,0))::blk b (.map d c_)::blk l (.mapIter (some b) c_ (LG c) c_)::H x) w) w|some e=>fun w=>e∈(leftOf d (LG c)).toList/\∃x,Inv (c.map fun e=>kz e.key) x/\CX w0 b_ (blk g (.cells #[.map (some b)] 131 (0,0))::blk b (.map d c_)::blk l (.mapIter (some b) c_ (LG (c++[e])) c_)::H x) w) rfl rfl rfl rfl (fun a hf=>by
  have h1:a.eval (.tmp 5)= .pointer (some ⟨l,0,none⟩):=hf.eval rfl
  show(do pure (.value (<-Instr.next (a.eval (.tmp 5)) false 0)):Sem Next)=_
  rw[h1]) (fun w hw=>?_) fun i=>?_
 ·obtain⟨x,hx,hw⟩:=hw
  have o:w.heap[b]? =some (.map d c_):=EC hw (i:=1) rfl
  have t:w.heap[l]? =some (.mapIter (some b) c_ (LG c) c_):=EC hw (i:=2) rfl
  rcases run_next_at w 0 l b c_ c_ (LG c) d c_ t o hst.1 (Al _)with ⟨h1,h2⟩|⟨e,he,w1,hw1,h2⟩
  ·exact⟨none,w,h2,h1,x,hx,hw⟩
  ·refine⟨some e,_,h2,he,x,hx,?_⟩
   have hw':CX w0 b_ (blk g (.cells #[.map (some b)] 131 (0,0))::blk b (.map d c_)::blk l (.mapIter (some b) c_ (LG c) c_)::H x) w1:=by
    rcases hw1 with rfl|rfl
    ·exact hw
    ·exact RW hw
   have:=own_setB (i:=2) (ob':=.mapIter (some b) c_ ((LG c).push e.born) c_) hw' rfl
   rw[<-Nc]at this ⊢
   exact this
 cases i with
 |none=>
  refine OW_pr fun hz=>?_
  refine CZ rfl rfl rfl rfl (v:=.bool false) (fun w _=>Ct.extract rfl rfl rfl) ?_
  refine Ei ?_
  refine DO ?_
  refine TW_no rfl ?_
  refine QE ?_
  rintro w ⟨x,hx,hw⟩
  refine⟨_,x,?_,hx,?_⟩
  ·refine List.Perm.trans ?_ hkp
   refine(List.perm_ext_iff_of_nodup E (hkp.nodup_iff.2 hn.nodup)).2 fun z=>?_
   rw[AZ,AZ]
   constructor
   ·rintro⟨e,he,rfl⟩;exact⟨e,m e he,rfl⟩
   ·rintro⟨e,he,rfl⟩
    have:=all_seen d (LG c) hz e he
    unfold LG at this
    have hm:e.born∈c.map (·.born):=by simpa using this
    obtain⟨n,A,F⟩:=AZ.1 hm
    have:n=e:=born_inj hst.2.1 (m n A) he F
    exact⟨n,A,by rw[this]⟩
  ·have h1:CX w0 b_ (blk g (.cells #[.map (some b)] 131 (0,0))::Hy b gW al::blk l (.mapIter (some b) c_ (LG c) c_)::H x) w:=hw.set (i:=1) (r':=Hy b gW al) rfl rfl rfl rfl rfl rfl (fun _ _=>rfl) ⟨d,c_,EC hw (i:=1) rfl,u,hst⟩
   exact(h1.drop (h':=blk g (.cells #[.map (some b)] 131 (0,0))::Hy b gW al::H x) (.cons_cons _ (.cons_cons _ (.cons _ (.refl _))))).perm (Av (l₂:=[blk g (.cells #[.map (some b)] 131 (0,0)),Hy b gW al]))
 |some e=>
  refine OW_pr fun he=>?_
  obtain⟨p,B⟩:=mem_left he
  have hek:=C e p
  have hen:kz e.key∉c.map fun e=>kz e.key:=fun h=>by
   obtain⟨n,h1,h2⟩:=AZ.1 h
   have:n.key=e.key:=by rw[C n (m n h1),hek,h2]
   have G:n=e:=by
    obtain⟨i,hi⟩:=List.getElem?_of_mem (m n h1)
    obtain⟨j,hj⟩:=List.getElem?_of_mem p
    have e1:(d.toList.map (·.key))[i]? =some n.key:=by rw[Aq,hi];rfl
    have e2:(d.toList.map (·.key))[j]? =some e.key:=by rw[Aq,hj];rfl
    obtain⟨M,g1⟩:=Ab.1 e1
    obtain⟨N,g2⟩:=Ab.1 e2
    have I:i=j:=(List.getElem_inj hst.2.2).1 (by rw[g1,g2,this])
    subst I
    rw[hi]at hj
    exact Option.some.inj hj
   rw[G]at h1
   have:(LG c).contains e.born=true:=by unfold LG;simpa using ⟨e,h1,rfl⟩
   rw[this]at B;cases B
  refine CZ rfl rfl rfl rfl (v:=.bool true) (fun w _=>Ct.extract rfl rfl rfl) ?_
  refine Ei ?_
  refine DO ?_
  refine TW_yes rfl ?_
  refine IL ?_
  refine Hk ?_
  refine DO ?_
  refine Do ?_
  refine QH (ι:=Unit) (s:=Instr.entry (Cr l)) (val:=fun _=>.tuple #[e.key,e.val]) (R:=fun _=>fun w=>∃x,Inv (c.map fun e=>kz e.key) x/\CX w0 b_ (blk g (.cells #[.map (some b)] 131 (0,0))::blk b (.map d c_)::blk l (.mapIter (some b) c_ (LG (c++[e])) c_)::H x) w) rfl rfl rfl rfl (fun a hf=>by
   have h1:a.eval (.tmp 5)= .pointer (some ⟨l,0,none⟩):=hf.eval rfl
   show(do pure (.value (<-Instr.entry (a.eval (.tmp 5)))):Sem Next)=_
   rw[h1]) (fun w ⟨x,hx,hw⟩=>⟨(),w,?_,x,hx,hw⟩) fun _=>?_
  ·have o:w.heap[b]? =some (.map d c_):=EC hw (i:=1) rfl
   have t:w.heap[l]? =some (.mapIter (some b) c_ (LG (c++[e])) c_):=EC hw (i:=2) rfl
   rw[Nc]at t
   exact run_entry_at w l b c_ (LG c) d c_ e t o p hst.2.1
  refine CZ rfl rfl rfl rfl (v:=Fk (kz e.key)) (fun w _=>YK (Ct.extract rfl rfl rfl) hek) ?_
  refine OW_ex fun x=>?_
  refine OW_pr fun hx=>?_
  refine OW_lo rfl rfl rfl rfl (YQ (f:=fun r=>(blk g (.cells #[.map (some b)] 131 (0,0))::blk b (.map d c_)::blk l (.mapIter (some b) c_ (LG (c++[e])) c_)::H x)++[r]) zr80 (hf:=fun r=>EY.all _ r)) ?_
  rintro _ _ ⟨b3,rfl,rfl⟩
  refine OW_imp (Ψ:=CX w0 b_ (blk b3 (.cells [Cs 0,Cs 0].toArray 80 (0,0))::blk g (.cells #[.map (some b)] 131 (0,0))::blk b (.map d c_)::blk l (.mapIter (some b) c_ (LG (c++[e])) c_)::H x)) (fun w hw=>hw.perm (Av (l₁:=[_]))) ?_
  refine OW_lo0 rfl rfl rfl YO ?_
  rintro _ _ ⟨rfl,rfl⟩
  refine Ei ?_
  refine DO ?_
  refine Do ?_
  refine CZ rfl rfl rfl rfl (fun w _=>Ct.move rfl rfl) ?_
  refine OW_lo rfl rfl rfl rfl (YX (ZX 2 u80)) ?_
  rintro _ _ ⟨rfl,rfl⟩
  refine Rj (vs:=[Fk (kz e.key)]) (Φ1:=fun w=>∃x,Inv ((c++[e]).map fun e=>kz e.key) x/\CX w0 b_ (blk g (.cells #[.map (some b)] 131 (0,0))::blk b (.map d c_)::blk l (.mapIter (some b) c_ (LG (c++[e])) c_)::H x) w) (Φ2:=fun _=>False) rfl rfl rfl rfl rfl rfl (fun w hw=>?_) ?_ ?_
  ·refine(K [_,_,_,_] (c.map fun e=>kz e.key) (kz e.key) x w hx (hkp.mem_iff.1 (AZ.2 ⟨e,p,rfl⟩)) hen (hw.perm (Av (l₂:=[_,_,_,_])))).mono fun n w' ⟨h1,x',h2,h3⟩=>.inl ⟨h1,x',by rw[AO];exact h2,?_⟩
   exact(h3.perm (Av (l₁:=[_,_,_,_]))).drop (.cons _ (.refl _))
  ·refine CZ rfl rfl rfl rfl (v:=.bool false) (fun w _=>Ct.not (b:=true) rfl rfl) ?_
   refine Ei ?_
   refine TW_no rfl ?_
   refine IL ?_
   refine⟨c++[e],⟨fun q hq=>?_,?_⟩,Sb2,fun w hw=>hw,by rw[Nc];exact left_shrinks d (LG c) e he⟩
   ·rcases AC.1 hq with hq|hq
    ·exact m q hq
    ·rw[Ap.1 hq];exact p
   ·rw[AO]
    exact Bu.2 ⟨E,by simp,fun a ha b hb=>by rw[List.map_singleton,Ap]at hb;rw[hb];exact fun h=>hen (h▸ha)⟩
  ·exact fun a w hf hw=>hw.elim
section
def Dn.links(t:Dn):List Int:=srtI (t.ways.map (·.1))
theorem Rc:∀(ss bs:List Int),ss.Nodup->(∀k∈ss,k∈bs)->ss.length<=bs.length
 |[],_,_,_=>Af _
 |s::ss,bs,hn,hs=>by
  obtain⟨h1,h2⟩:=List.nodup_cons.1 hn
  have hm:=hs s Ar
  have:=Rc ss (bs.erase s) h2 fun k hk=>(List.mem_erase_of_ne (show k≠s from fun e=>h1 (by rw[<-e];exact hk))).2 (hs k (Aw _ hk))
  have hl:=List.length_erase_of_mem hm
  have hp:=List.length_pos_of_mem hm
  simp only[List.length_cons]
  omega
structure LsS where
 zs:List Int
 a:A_
 c:Nat
set_option maxHeartbeats 1000000
theorem US(b:Nat):Sp P0 69 [.map (some b)] [] fun v h=>∃g,v= .func (.func 133) #[] #[Cr g]/\h=[blk g (.cells #[.map (some b)] 131 (0,0))]:=by
 refine Sq Tryz.func69 fun w0 b_=>?_
 refine OA 2 ?_
 refine O6 YR fun b1=>?_
 refine OA 4 ?_
 refine O1 (Qaa (ys:=[.tmp 1]) (vs:=[_]) rfl rfl) ?_
 refine OA 2 ?_
 exact Cu (CB rfl rfl (.refl _) ⟨b1,rfl,rfl⟩)
theorem Xj(b g:Nat)(al:List (Int×Wy))(hn:KN al)(hl:al.length<=1000):Sp P0 178 [.slice none 0 0,.func (.func 133) #[] #[Cr g]] [blk g (.cells #[.map (some b)] 131 (0,0)),Hy b gW al] fun v h=>∃(a:A_) (c:Nat) (ss:List Int),ss.Perm (al.map (·.1))/\v= .slice a ss.length c/\h=[blk g (.cells #[.map (some b)] 131 (0,0)),Hy b gW al,sq a ss.length c 80 2 (ss.flatMap FB)]:=by
 refine Pz Tryz.func178 rfl rfl rfl fun w0 b_=>?_
 refine FU (Li ?_)
 refine IZ ?_
 refine O6 YR fun b2=>?_
 refine OA 1 ?_
 refine Kx ?_
 refine FU (FU (Li ?_))
 refine IZ ?_
 refine OA 1 ?_
 refine Kx ?_
 refine Ka (Cv.nil 80 2) ?_
 rintro _ rfl
 refine Ka (YN (.t2 (.t2 (.t0 (.t0 .e))))) ?_
 rintro _ rfl
 refine Pd ?_
 refine Ui (p:=7) (lb:=[Cr g]) (M:=[blk g (.cells #[.map (some b)] 131 (0,0)),Hy b gW al]) (keys:=al.map (·.1)) (σ:=LsS) (Y:=Nat) (fun ss x=>x.zs=ss/\ss.Nodup/\(∀k∈ss,k∈al.map (·.1))) (fun x=>[blk b2 (.cells [.slice x.a x.zs.length x.c].toArray 77 (0,0)),sq x.a x.zs.length x.c 80 2 (x.zs.flatMap FB)]) (fun x k y=>[(2,Cr b2),(5,Cr y)]) (fun x k y=>[blk b2 (.cells [.slice x.a x.zs.length x.c].toArray 77 (0,0)),sq x.a x.zs.length x.c 80 2 (x.zs.flatMap FB),blk y (.cells (FB k).toArray 80 (0,0))]) ⟨[],none,0⟩ (keysIt b g al hn) rfl (en 133) ⟨rfl,List.nodup_nil,fun _ h=>by cases h⟩ rfl rfl ?_ ?_ ?_
 ·intro R ss k x D e r hx _ _
  refine GK rfl ?_
  refine O6 (YQ (f:=fun q=>(Js D::ES e r::([blk b2 (.cells [.slice x.a x.zs.length x.c].toArray 77 (0,0)),sq x.a x.zs.length x.c 80 2 (x.zs.flatMap FB)]++R))++[q]) zr80 (hf:=fun q=>EY.all _ q)) fun i=>?_
  refine Oi (Cv.perm (h':=Js D::ES e r::blk b2 (.cells [.slice x.a x.zs.length x.c].toArray 77 (0,0))::sq x.a x.zs.length x.c 80 2 (x.zs.flatMap FB)::blk i (.cells [Cs 0,Cs 0].toArray 80 (0,0))::R) ?_) ?_
  ·exact((((Av (l₁:=[_])).cons _).cons _).cons _).cons _
  refine O4 YO ?_
  refine Kx ?_
  exact⟨rfl,i,Sb2,.refl _⟩
 ·rintro R ss k x i D e r ⟨hx,hnd,d⟩ hk l
  have hxl:x.zs.length<=1000:=by
   rw[hx]
   refine AA ?_ hl
   have:=Rc ss (al.map (·.1)) hnd d
   rwa [AP]at this
  refine Oz ?_
  refine GK rfl ?_
  refine O1 (Zi u77) ?_
  refine O1 (ZX 2 u80) ?_
  refine O6 (YY (f:=fun q=>(Js D::ES e r::([blk b2 (.cells [.slice x.a x.zs.length x.c].toArray 77 (0,0)),sq x.a x.zs.length x.c 80 2 (x.zs.flatMap FB),blk i (.cells (FB k).toArray 80 (0,0))]++R))++[q]) u77 (hf:=fun q=>EY.all _ q)) fun j=>?_
  refine Oi (Cv.perm (h':=Js D::ES e r::blk b2 (.cells [.slice x.a x.zs.length x.c].toArray 77 (0,0))::sq x.a x.zs.length x.c 80 2 (x.zs.flatMap FB)::blk i (.cells (FB k).toArray 80 (0,0))::blk j (.cells (FB k).toArray 80 (0,0))::R) ?_) ?_
  ·exact(((((Av (l₁:=[_])).cons _).cons _).cons _).cons _).cons _
  refine O2 (LO.app (ao:=x.a) el77) ?_
  rintro _ _ ⟨a2,c2,rfl,rfl⟩
  refine O4 YO ?_
  refine Kx ?_
  refine⟨rfl,⟨x.zs++[k],a2,c2⟩,⟨by rw[hx],Bu.2 ⟨hnd,by simp,fun a ha c hc=>by rw[Ap.1 hc];exact fun h=>l (h▸ha)⟩,fun q hq=>?_⟩,?_⟩
  ·rcases AC.1 hq with hq|hq
   ·exact d q hq
   ·rw[Ap.1 hq];exact hk
  ·simp only[List.length_append,List.length_cons,List.length_nil,List.flatMap_append,List.flatMap_cons,List.flatMap_nil]
   exact .cons_cons _ (.cons_cons _ (.cons_cons _ (.cons_cons _ (.cons _ (.cons _ (.refl _))))))
 ·rintro D ss ⟨zs,a,c⟩ hp ⟨hx,_,_⟩
  obtain rfl:zs=ss:=hx
  refine FU (Na ?_)
  refine Wj rfl rfl rfl (Zi u77) ?_
  refine Wj rfl rfl rfl (Ct.assign rfl rfl) ?_
  refine Wf ?_
  refine Ka (YN (.t0 (.t2 (.t2 (.t1 .e))))) ?_
  rintro _ rfl
  refine Wr ?_
  exact .inr ⟨D,_,rfl,rfl,CB rfl rfl (.refl _) ⟨a,c,zs,hp,rfl,rfl⟩⟩
theorem WP(b g:Nat)(al:List (Int×Wy))(hn:KN al)(hl:al.length<=1000):Sp P0 131 [.func (.func 133) #[] #[Cr g]] [blk g (.cells #[.map (some b)] 131 (0,0)),Hy b gW al] fun v h=>∃(a:A_) (c:Nat) (ss:List Int),ss.Perm (al.map (·.1))/\v= .slice a ss.length c/\h=[blk g (.cells #[.map (some b)] 131 (0,0)),Hy b gW al,sq a ss.length c 80 2 (ss.flatMap FB)]:=by
 refine Sq Tryz.func131 fun w0 b_=>?_
 refine OA 7 ?_
 refine Oc rfl (en 178) rfl (.p0 (.p0 .d)) (Xj b g al hn hl) ?_
 rintro _ _ ⟨a,c,ss,hp,rfl,rfl⟩
 refine OA 2 ?_
 exact Cu (CB rfl rfl (.refl _) ⟨a,c,ss,hp,rfl,rfl⟩)
theorem Sz(b g:Nat)(al:List (Int×Wy))(hn:KN al)(hl:al.length<=1000):Sp P0 68 [.func (.func 133) #[] #[Cr g],.func (.func 70) #[] #[]] [blk g (.cells #[.map (some b)] 131 (0,0)),Hy b gW al] fun v h=>∃a c,v= .slice a al.length c/\h=[Hy b gW al,sq a al.length c 80 2 ((srtI (al.map (·.1))).flatMap FB)]:=by
 refine Sq Tryz.func68 fun w0 b_=>?_
 refine OA 7 ?_
 refine Oc rfl (en 131) rfl (.p0 (.p0 .d)) (WP b g al hn hl) ?_
 rintro _ _ ⟨a,c,ss,hp,rfl,rfl⟩
 refine OA 2 ?_
 have hsl:ss.length=al.length:=by rw[hp.length_eq,AP]
 have d:srtI ss=srtI (al.map (·.1)):=mergeSort_of_perm_i hp
 refine OA 4 ?_
 refine O8 (Zd rfl (en 132) rfl (.p2 .d) (UT a c ss (by omega))) ?_
 refine OA 6 ?_
 refine Tp (.t1 (.t1 .e)) ?_
 exact Cu (CB rfl rfl (.refl _) ⟨a,c,by rw[hsl],by rw[hsl,d]⟩)
theorem ar_fst{γ α:Type}{R:γ->α->Prop}{xs:List (Int×γ)}{ys:List (Int×α)}(h:AR R xs ys):xs.map (·.1)=ys.map (·.1):=by
 induction h with
 |nil=>rfl
 |cons _ _ ih=>simp only[List.map_cons,ih]
theorem Nf(p:Nat)(S:N_)(L:PL)(t:Dn)(hn:KN t.ways)(hl:t.ways.length<=1000):Sp P0 25 [Cr p] [cm S (Fi p L t)] fun v h=>∃a c e,v= .slice a t.links.length c/\h=[cm e (Fi p L t),sq a t.links.length c 80 2 (t.links.flatMap FB)]:=by
 refine Sq Tryz.func25 fun w0 b_=>?_
 refine Cx (Cv.op (.p0 .d)) ?_
 rintro _ ⟨_,⟨d,ab,al,f,rfl,b⟩,rfl⟩
 have hal:=b.len
 have hkn:=b.kn hn
 have hlk:t.links=srtI (al.map (·.1)):=by unfold Dn.links;rw[ar_fst b]
 have hll:t.links.length=al.length:=by rw[hlk];show(List.mergeSort _ _).length=_;rw[(Bq _ _).length_eq,AP]
 refine OA 18 ?_
 refine O2 (YP rfl (en 69) rfl (.d) (US d)) ?_
 rintro _ _ ⟨_,⟨g,rfl,rfl⟩,rfl⟩
 refine Oc rfl (en 68) rfl (.p4 (.p1 .d)) (Sz d g al hkn (by omega)) ?_
 rintro _ _ ⟨a,c,rfl,rfl⟩
 refine OA 2 ?_
 refine Tx (YL (.p0 (.p2 (.p0 (.p0 .d)))) (A:=Fi p L t) ⟨d,ab,al,f,rfl,b⟩) fun i=>Tp (.t1 (.t0 .e)) ?_
 exact Cu (CB rfl rfl (.refl _) ⟨a,c,i,by rw[hll],by rw[hll,hlk]⟩)
end
structure EvM where
 kind:Int
 client:Int
 ops:List Es
structure De where
 c:CfM
 id:Nat
 gen:EJ
 left:Int
 n:Nat
 age:Int
 txn:Option CG
 told:Bool
 post:Du
 events:List EvM
abbrev clc(c:De)(b d:Nat)(e ev:Value):V_:=[Cs c.c.nodes,Cs c.c.shards,Cs c.c.clients,Cs c.c.level,Cs c.c.txns,Cs c.c.patience,Cs c.c.room,Cs c.c.stamps,Cs c.c.bugs,.int .u64 c.c.seed,Cs c.c.plan.keys,Cs c.c.plan.most,Cs c.c.plan.reads,Cs c.c.plan.writes,Cs c.c.plan.both,Cs c.c.plan.scans,
 Cs c.id,Cr b,Cs c.left,Cs c.n,Cs c.age,e,.bool c.told,Cr d,ev]
def tvP:Option CG->Nat->Value
 |none,_=>.pointer none
 |some _,b=>.pointer (some ⟨b,0,none⟩)
def Od(b:Nat)(L:PL):Option CG->Mem->Prop
 |none,rs=>rs=[]
 |some t,rs=>Ev b L t rs
theorem Od.le{b:Nat}{L L':PL}(k:Le L L'):∀ {o:Option CG} {rs:Mem},Od b L o rs->Od b L' o rs
 |none,_,h=>h
 |some _,_,h=>Ev.le k _ h
def Iq(L:PL)(c:V_)(e:EvM):Prop:=∃b,c=[Cs e.kind,Cs e.client,b]/\Dx L b Et e.ops
theorem Iq.le{L L':PL}(k:Le L L'){c:V_}{e:EvM}(h:Iq L c e):Iq L' c e:=by
 obtain⟨b,h1,h2⟩:=h
 exact⟨b,h1,h2.le k⟩
abbrev QQ(q:Nat)(c:De)(b d:Nat)(e ev:Value):CW:=blk q (.cells (clc c b d e ev).toArray 144 (0,0))
def GS(q:Nat)(L:PL)(c:De)(rs:Mem):Prop:=∃(e f g:Nat) (h Sp St:N_) (b:A_) (d:Nat) (ecs:V_),
 rs=[QQ q c e f (tvP c.txn g) (.slice b c.events.length d),cm h (QB e c.gen),cm Sp (DV f L c.post),cm St (Od g L c.txn),sq b c.events.length d 62 3 ecs]/\Rws (Iq L) ecs c.events
def De.evt(c:De)(b:Int)(ops:List Es):De:={c with events:=c.events++[⟨b,c.id,ops⟩]}
def De.tell(c:De):De:={c with told:=true}
def De.noT(c:De):De:={c with txn:=none}
def De.goE(c:De)(t:CG):De:=if t.res.1≠0/\c.told=false then (c.evt t.res.1 t.res.2).tell else c
def De.goN(c:De)(t:CG):De:=if t.next.2.2=true/\c.post.open_=false then {c with txn:=some t.next.1,post:=c.post.askA t.next.2.1}else {c with txn:=some t.next.1}
def De.go1(c:De):De:=match c.txn with
 |none=>c
 |some t=>if t.stage=8 then (c.goE t).noT else (c.goE t).goN t
def De.tk0(c:De):De:={c with post:=c.post.tick}
def De.giveE(c:De)(t:CG):De:=if c.told=false then c.evt (if(t.doubt && decide (t.result=0))=true then 4 else 3) []else c
def De.give(c:De)(t:CG):De:=(({c with post:=c.post.drop}:De).giveE t).noT
def De.tk1(c:De):De:=match c.txn with
 |none=>c
 |some t=>if 40*c.c.patience<c.age+1 then ({c with txn:=some t.tick,age:=c.age+1}:De).give t.tick else {c with txn:=some t.tick,age:=c.age+1}
def De.num(c:De):Int:=((16*(c.n+1)+(c.id-1):Nat):Int)
def De.begT(c:De)(g:EJ)(t:CG):De:={c with left:=c.left-1,n:=c.n+1,gen:=g,txn:=some t,age:=0,told:=false}
def De.beg(c:De):De:=(c.evt 1 c.gen.next.2).begT c.gen.next.1 (CG.new c.num c.gen.next.2 (decide (c.c.level=2)) c.c.shards c.c.patience)
def De.tk2(c:De):De:=match c.txn with
 |some _=>c
 |none=>if 0<c.left then c.beg else c
def De.tick(c:De):De:=c.tk0.tk1.tk2.go1
def De.in_(c:De)(m:Db):De:=match c.txn with
 |none=>c
 |some t=>if m.to≠100+c.id then c else if(c.post.in_ m).2.2=true then ({c with post:=(c.post.in_ m).1,txn:=some (t.in_ (c.post.in_ m).2.1)}:De).go1 else {c with post:=(c.post.in_ m).1}
def De.new(c:CfM)(id:Nat):De:=⟨c,id,⟨c.plan,id,0,frk c.seed id⟩,c.txns,0,0,none,false,Du.new (100+id) c.nodes c.patience,[]⟩
theorem Rz(c:CfM)(hc:0<=c.patience/\c.patience<=1000):Sp P0 59 [.agg (cfv c).toArray] [] fun v h=>v= Cs (40*c.patience)/\h=[]:=by
 refine Sq Tryz.func59 fun w0 b_=>?_
 refine OA 2 ?_
 refine O6 YR fun b1=>?_
 refine OA 9 ?_
 exact Cu (CB rfl rfl (An _) ⟨rfl,rfl⟩)
theorem UW(c:CfM)(hc:c.Ok)(id:Nat)(h1:1<=id)(h2:(id:Int)<=c.clients)(L:PL)(m:GLB L):Sp P0 48 [.agg (cfv c).toArray,Cs id] [pool L] fun v h=>∃q S,v= .tuple #[Cr q,Cs 0]/\h=[pool L,cm S (GS q L (De.new c id))]:=by
 have q1:=hc.clients
 refine Sq Tryz.func48 fun w0 b_=>?_
 refine OA 2 ?_
 refine O6 YR fun b2=>?_
 refine OA 7 ?_
 refine O8 (Zd rfl (en 45) rfl (.p0 .d) (Iv c hc L m)) ?_
 refine OA 2 ?_
 refine Tp (.t1 (.t0 .e)) (OA 5 ?_)
 refine CH rfl (fun b=>absurd rfl b) fun b=>?_
 refine OA 3 ?_
 refine CQ 21 ((id:Int)<1∨c.clients<(id:Int)) ?_ ?_
 ·refine OA 4 ?_
  refine CJ 16 rfl (fun g=>?_) (fun g=>?_)
  ·refine OA 6 ?_
   exact Ex
  refine OA 6 ?_
  exact Ex
 refine Cy rfl (fun d=>absurd d (by omega)) fun d=>?_
 refine OA 8 ?_
 refine O2 (YP rfl (en 99) rfl (.d) (Yt c.plan hc.plan id (by omega) c.seed hc.seed)) ?_
 rintro _ _ ⟨_,⟨l,k,rfl,rfl⟩,rfl⟩
 refine OA 12 ?_
 refine CH rfl (fun e=>absurd rfl e) fun e=>?_
 refine OA 2 ?_
 refine Cw (.s (.t .d)) rfl (fun j=>false) ?_
 intro n
 refine DA [0,1,2,3,4,5,6,7,8,9,10] ?_
 refine Da 11 ?_
 refine D6 rfl (YP rfl (en 100) rfl (.d) (Pf (100+id) c.nodes c.patience)) ?_
 rintro _ _ ⟨_,⟨i,Sp,rfl,rfl⟩,rfl⟩
 refine ys (D1 12 rfl (Xb bt144.h) ?_)
 refine Da 13 ?_
 refine D6 rfl YR ?_
 rintro _ _ ⟨f,rfl,rfl⟩
 refine ys (DA [14,15] ?_)
 refine D0 (Ti (Cv.up (B:=DV i L (Du.new (100+id) c.nodes c.patience)) s3 fun _ h=>h L) (Tx (YL (a:=[]) .d (A:=Od 0 L none) rfl) fun St=>Ti (Cv.nil 62 3) (Tx (YL (.p4 (.p2 (.p2 (.p2 (.p2 .d))))) (A:=GS f L (De.new c id)) ⟨l,i,0,k,Sp,St,none,0,[],rfl,.nil⟩) fun S=>Tp (.t0 (.t1 .e)) ?_)))
 exact Cu (Dq rfl rfl rfl (.refl _) ⟨f,S,rfl,rfl⟩)
theorem GY(q:Nat)(c:De)(l o:Nat)(p:Value)(f:A_)(n k:Nat)(hn:n<1073741824)(ecs:V_)(b:Int)(oa:A_)(m oc:Nat):
  Sp P0 62 [Cr q,Cs b,.slice oa m oc] [QQ q c l o p (.slice f n k),sq f n k 62 3 ecs] fun v h=>v= .tuple #[]/\∃d e,h=[QQ q c l o p (.slice d (n+1) e),sq d (n+1) e 62 3 (ecs++[Cs b,Cs c.id,.slice oa m oc])]:=by
 refine Sq Tryz.func62 fun w0 b_=>?_
 refine Cw (.t .d) rfl (fun j=>Nat.beq j 16) ?_
 intro s
 refine DA [0,1,2,3,4,5,6,7,8,9,10,11] ?_
 refine Da 12 ?_
 refine D6 rfl (YY u58) ?_
 rintro _ _ ⟨r,rfl,rfl⟩
 refine ys (Da 13 ?_)
 refine D6 rfl (LO.app (ao:=f) el58) ?_
 rintro _ _ ⟨g,i,rfl,rfl⟩
 refine ys (D2 14 rfl (fun _=>Hl) ?_)
 refine D1 15 rfl (Ct.fld 9 24 24 u144) ?_
 refine Da 16 ?_
 refine D8 rfl YO ?_
 refine D0 ?_
 exact Ef rfl (.cons_cons _ (.cons_cons _ (An _))) ⟨rfl,g,i,rfl⟩

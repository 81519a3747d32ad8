import Derived.Deep.Slices
import Derived.Deep.Fields
import Derived.OpenShut
import Derived.WideShapes
import Derived.Test.YtheoifhidoofbaaGreatDoorM09
set_option maxRecDepth 100000
set_option maxHeartbeats 2000000
namespace Go.Cru
open Go Go.Proofs
open Go.Proofs.Tryz renaming prog→P0
structure RC(b0:N_)(Ha:Nat)(r:CC)(bs:N_):Prop where
 rb:RB r bs
 b:r.b=b0
 at_:r.at_+bs.length=Ha
section
variable {b0:N_}{Ha:Nat}{r:CC}{bs:N_}
theorem RC.num{x:Nat}(hx:x<18446744073709551615)(h:RC b0 Ha r (Dl x++bs)):r.num.1=x/\RC b0 Ha r.num.2 bs:=by
 obtain⟨h1,h2,h3,h4⟩:=RB.num hx h.rb
 have:=h.at_
 rw[Ac]at this
 exact⟨h1,h2,h3.trans h.b,by omega⟩
theorem RC.get8{x:Nat}(hx:x<256)(h:RC b0 Ha r (Fd x 8++bs)):(r.get 8).1%256=x/\RC b0 Ha (r.get 8).2 bs:=by
 obtain⟨h1,h2,h3,h4⟩:=RB.get h.rb (by decide)
 have:=h.at_
 rw[Ac,Gy]at this
 exact⟨by rw[h1];omega,h2,h3.trans h.b,by omega⟩
def KI(b:N_):N_:=b.flatMap fun x=>Fd x 8
def Ek(b:N_):N_:=Dl b.length++KI b
theorem RC.rdB{b:N_}:∀ {os:N_} {r:CC},Eu b->RC b0 Ha r (KI b++bs)->∃r',rdB b.length os r=(os++b,r')/\RC b0 Ha r' bs:=by
 induction b with
 |nil=>intro os r _ h;exact⟨r,by rw[AH];rfl,h⟩
 |cons x b ih=>
  intro os r hB h
  have h:RC b0 Ha r (Fd x 8++(KI b++bs)):=by
   rw[<-Ao];exact h
  obtain⟨h1,h2⟩:=h.get8 (hB x Ar)
  obtain⟨r',e,h3⟩:=ih (os:=os++[x]) (fun y hy=>hB y (Aw _ hy)) h2
  exact⟨r',by rw[Am,rdB_go h.rb.bad,h1,e,Ao];rfl,h3⟩
theorem RC.txt{b:N_}(hB:Eu b)(hl:b.length<=4000)(h:RC b0 Ha r (Ek b++bs)):r.txt.1=b/\RC b0 Ha r.txt.2 bs:=by
 have h:RC b0 Ha r (Dl b.length++(KI b++bs)):=by rw[<-Ao];exact h
 obtain⟨h1,h2⟩:=h.num (by omega)
 obtain⟨r',e,h3⟩:=h2.rdB (os:=[]) hB
 unfold CC.txt
 rw[h1,Aa (by omega),e]
 exact⟨rfl,h3⟩
theorem RC.rdL{l:List N_}:∀ {os:List N_} {r:CC},(∀b∈l,Eu b/\b.length<=4000)->RC b0 Ha r (l.flatMap Ek++bs)->∃r',rdL l.length os r=(os++l,r')/\RC b0 Ha r' bs:=by
 induction l with
 |nil=>intro os r _ h;exact⟨r,by rw[AH];rfl,h⟩
 |cons x l ih=>
  intro os r hB h
  have h:RC b0 Ha r (Ek x++(l.flatMap Ek++bs)):=by
   rw[<-Ao];exact h
  obtain⟨h0,c⟩:=hB x Ar
  obtain⟨h1,h2⟩:=h.txt h0 c
  obtain⟨r',e,h3⟩:=ih (os:=os++[x]) (fun y hy=>hB y (Aw _ hy)) h2
  exact⟨r',by rw[Am,rdL_go h.rb.bad,h1,e,Ao];rfl,h3⟩
def NI:Db->Nat->List Int->Db
 |m,_,[]=>m
 |m,i,x::xs=>NI (m.setN x i) (i+1) xs
def Hc(xs:List Int):N_:=xs.flatMap fun x=>Dl x.toNat
theorem RC.decF{xs:List Int}:∀ {i:Nat} {m:Db} {r:CC},(∀x∈xs,0<=x/\x<=1099511627776)->RC b0 Ha r (Hc xs++bs)->∃r',decF xs.length i m r=(NI m i xs,r')/\RC b0 Ha r' bs:=by
 induction xs with
 |nil=>intro i m r _ h;exact⟨r,rfl,h⟩
 |cons x xs ih=>
  intro i m r hx h
  have h:RC b0 Ha r (Dl x.toNat++(Hc xs++bs)):=by
   rw[<-Ao];exact h
  have h0:=hx x Ar
  obtain⟨h1,h2⟩:=h.num (by omega)
  have b:r.fld=(x,r.num.2):=by
   unfold CC.fld
   rw[h1,Aa (by omega)]
   have:Pj ((x.toNat:Nat):Int)=x:=by rw[show((x.toNat:Nat):Int)=x by omega];have:=IntKind.wrap_i64 x;show IntKind.i64.wrap x=x;omega
   rw[this]
  obtain⟨r',e,h3⟩:=ih (i:=i+1) (m:=m.setN x i) (fun y hy=>hx y (Aw _ hy)) h2
  refine⟨r',?_,h3⟩
  rw[Am]
  unfold Cru.decF
  rw[b]
  exact e
end
theorem Kw:∀ {xs:List Int} {w w':CF} {bs:N_},Om w xs=some w'->WB w bs->(∀x∈xs,0<=x/\x<=1099511627776)/\WB w' (bs++Hc xs)
 |[],w,w',bs,h,hw=>by
  cases h
  exact⟨(fun _ e=>by cases e),by show WB w (bs++[]);rw[AH];exact hw⟩
 |x::xs,w,w',bs,h,hw=>by
  unfold Om at h
  split at h
  ·cases h
  ·obtain⟨h1,h2⟩:=Kw h (hw.num (x:=x.toNat) (by omega))
   refine⟨fun y hy=>?_,by rw[Ao]at h2;exact h2⟩
   rcases AW.1 hy with rfl|hy
   ·omega
   ·exact h1 y hy
theorem WB.byts:∀ {b:N_} {w:CF} {bs:N_},WB w bs->WB (w.byts b) (bs++KI b)
 |[],w,bs,hw=>by show WB w (bs++[]);rw[AH];exact hw
 |x::b,w,bs,hw=>by
  have:=WB.byts (b:=b) (hw.put (x:=x) (k:=8))
  rw[Ao]at this
  exact this
theorem KU:∀ {l:List N_} {w w':CF} {bs:N_},Oo w l=some w'->WB w bs->(∀b∈l,b.length<=4000)/\WB w' (bs++l.flatMap Ek)
 |[],w,w',bs,h,hw=>by
  cases h
  exact⟨(fun _ e=>by cases e),by show WB w (bs++[]);rw[AH];exact hw⟩
 |b::l,w,w',bs,h,hw=>by
  unfold Oo at h
  split at h
  ·cases h
  ·have hn:=(hw.num (x:=b.length) (by omega)).byts (b:=b)
   obtain⟨h1,h2⟩:=KU h hn
   refine⟨fun y hy=>?_,by
    have e:bs++Dl b.length++KI b++l.flatMap Ek=bs++(b::l).flatMap Ek:=by
     rw[Az];unfold Ek;simp only[List.append_assoc]
    rw[e]at h2;exact h2⟩
   rcases AW.1 hy with rfl|hy
   ·omega
   ·exact h1 y hy
theorem SL(m:Db):NI (CY m.kind) 1 m.nums= {m with list:=[],data:=[]}:=by
 cases m
 simp only[Db.nums,NI,Db.setN,CY]
theorem dec_enc{m:Db}(he:m.enc.2=0)(hl:∀b∈m.list,Eu b)(hd:Eu m.data):Hh m.enc.1=(m,0)/\m.Dec:=by
 unfold Db.enc at he
 split at he
 ·cases he
 ·rename_i hk
  split at he
  ·cases he
  ·rename_i w hw
   obtain⟨f1,o⟩:=Kw hw WB.nil
   unfold Ll at he
   split at he
   ·cases he
   ·rename_i hll
    split at he
    ·cases he
    ·rename_i g l
     obtain⟨g1,g2⟩:=KU l (o.num (x:=m.list.length) (by omega))
     have hlen:¬65536<g.b.length:=fun q=>by
      unfold Dt at he
      rw[Aa (by omega),Ah q]at he
      cases he
     have c:m.Dec:=⟨by omega,f1,by omega,fun b hb=>g1 b (Bp _ hb),g1 m.data (BG _ (Ap.2 rfl))⟩
     refine⟨?_,c⟩
     have n:m.enc.1=(Dt m.kind g.b).1:=by
      unfold Db.enc
      rw[Aa hk,hw]
      show(Ll m w).1=_
      unfold Ll
      rw[Aa hll,l]
     obtain⟨k,j⟩:∃k:Nat,m.kind=(k:Int):=⟨m.kind.toNat,by omega⟩
     rw[n,j]
     have f:k<256:=by omega
     have hdm:=SB f (d:=g.b) (by omega) []
     rw[AH]at hdm
     have hel:=(GC f (d:=g.b) (by omega)).1
     unfold Hh
     rw[hdm]
     dsimp only
     rw[Aa (fun q=>q rfl),Aa (fun q=>q hel.symm),Aa (by omega),<-j]
     have hb:RC g.b (Hc m.nums++(Dl m.list.length++(m.list.flatMap Ek++(Ek m.data++[])))).length ⟨g.b,0,0⟩ (Hc m.nums++(Dl m.list.length++(m.list.flatMap Ek++(Ek m.data++[])))):=by
      have e:[]++Hc m.nums++Dl m.list.length++(m.list++[m.data]).flatMap Ek=Hc m.nums++(Dl m.list.length++(m.list.flatMap Ek++(Ek m.data++[]))):=by
       rw[AI];simp only[List.nil_append,List.append_assoc,List.flatMap_cons,List.flatMap_nil]
      rw[e]at g2
      have:=g2.rd []
      rw[AH]at this
      exact⟨this,rfl,AE _⟩
     have g2:WB g (Hc m.nums++(Dl m.list.length++(m.list.flatMap Ek++(Ek m.data++[])))):=by
      have e:[]++Hc m.nums++Dl m.list.length++(m.list++[m.data]).flatMap Ek=Hc m.nums++(Dl m.list.length++(m.list.flatMap Ek++(Ek m.data++[]))):=by
       rw[AI];simp only[List.nil_append,List.append_assoc,List.flatMap_cons,List.flatMap_nil]
      rw[e]at g2;exact g2
     obtain⟨r1,e1,c1⟩:=hb.decF (i:=1) (m:=CY m.kind) f1
     have e1:decF 9 1 (CY m.kind) ⟨g.b,0,0⟩=(NI (CY m.kind) 1 m.nums,r1):=e1
     rw[e1,SL]
     obtain⟨n1,n2⟩:=c1.num (by omega)
     obtain⟨r2,e2,c2⟩:=n2.rdL (os:=[]) (fun b hb=>⟨hl b hb,c.ent b hb⟩)
     obtain⟨t1,t2⟩:=c2.txt hd c.data
     unfold decG
     dsimp only
     rw[n1,Aa (show ¬2000<m.list.length by omega),e2]
     dsimp only
     have h:r2.txt.2.end_=0:=g2.end_ t2.b (by have:=t2.at_;simpa using this) t2.rb.bad
     rw[Ah h,t1]
     rfl
def Ha:List (Int×List N_)->Nat
 |[]=>0
 |p::r=>p.2.length+Ha r
section
variable {k j:Int}{v:List N_}
theorem MO:∀ {l:List (Int×List N_)},Ha (aset k v l)+((alk k l).getD []).length=Ha l+v.length
 |[]=>by simp[aset,alk,Ha]
 |p::r=>by
  unfold aset alk
  by_cases e:p.1=k
  ·rw[Ah e,Ah e];show v.length+Ha r+p.2.length=p.2.length+Ha r+v.length;omega
  ·rw[Aa e,Aa e]
   have:=MO (l:=r)
   show p.2.length+Ha (aset k v r)+_=p.2.length+Ha r+v.length;omega
theorem QV:∀ {l:List (Int×List N_)},Ha (adel k l)+((alk k l).getD []).length=Ha l
 |[]=>by simp[adel,alk,Ha]
 |p::r=>by
  unfold adel alk
  by_cases e:p.1=k
  ·rw[Ah e,Ah e];show Ha r+p.2.length=p.2.length+Ha r;omega
  ·rw[Aa e,Aa e]
   have:=QV (l:=r)
   show p.2.length+Ha (adel k r)+_=p.2.length+Ha r;omega
theorem Qp:∀ {l:List (Int×List N_)} {p:Int×List N_},p∈l->p.2.length<=Ha l
 |q::r,p,h=>by
  show p.2.length<=q.2.length+Ha r
  rcases AW.1 h with rfl|h
  ·omega
  ·have:=Qp h;omega
theorem Ws:∀ {l:List (Int×List N_)},(∀p∈l,p.2≠[])->l.length<=Ha l
 |[],_=>Al _
 |q::r,h=>by
  have:=Ws fun p hp=>h p (Aw _ hp)
  have h1:=h q Ar
  have:0<q.2.length:=List.length_pos_iff.2 h1
  show r.length+1<=q.2.length+Ha r;omega
theorem QG{β:Type}{k:Int}{v:β}:∀ {l:List (Int×β)} {q:Int×β},q∈aset k v l->q=(k,v)∨q∈l
 |[],q,h=>.inl (by simpa [aset] using h)
 |(j,u)::l,q,h=>by
  unfold aset at h
  split at h
  ·rcases AW.1 h with rfl|h
   ·exact .inl rfl
   ·exact .inr (Aw _ h)
  ·rcases AW.1 h with rfl|h
   ·exact .inr Ar
   ·rcases QG h with h|h
    ·exact .inl h
    ·exact .inr (Aw _ h)
theorem HG{β:Type}{k:Int}{v:β}:∀ {l:List (Int×β)},alk k l=some v->(k,v)∈l
 |(j,u)::l,h=>by
  unfold alk at h
  split at h
  ·rename_i e;cases h;cases e;exact Ar
  ·exact Aw _ (HG h)
end
def VO(a:Nat)(y:N_):Prop:=∃m:Db,m.enc=(y,0)/\m.Sm a
theorem VO.le{a b:Nat}{y:N_}(h:VO a y)(k:a<=b):VO b y:=let ⟨m,e,s⟩:=h;⟨m,e,s.le k⟩
theorem VO.read{a:Nat}{y:N_}(h:VO a y):(Hh y).2=0/\(Hh y).1.Sm a/\(Hh y).1.Dec:=by
 obtain⟨m,e,s⟩:=h
 obtain⟨h1,h2⟩:=dec_enc (m:=m) (by rw[e]) (fun b hb=>(s.ent b hb).2) s.byt
 rw[e]at h1
 rw[h1];exact⟨rfl,s,h2⟩
theorem WO{m:Db}{w:CF}{bs:N_}(hw:WB w bs)(he:(Ll m w).2=0):(Ll m w).1.length<=65548/\Eu (Ll m w).1:=by
 by_cases hll:2000<m.list.length
 ·unfold Ll at he;rw[Ah hll]at he;cases he
 ·unfold Ll at he ⊢
  rw[Aa hll]at he ⊢
  cases hw2:Oo (w.num m.list.length) (m.list++[m.data])with
  |none=>rw[hw2]at he;cases he
  |some b=>
   obtain⟨g1,g2⟩:=KU hw2 (hw.num (x:=m.list.length) (by omega))
   exact⟨Qo _ _,JO _ g2.ok.byt⟩
theorem NV{m:Db}(he:m.enc.2=0):m.enc.1.length<=65548/\Eu m.enc.1/\∀x∈m.nums,0<=x/\x<=1099511627776:=by
 by_cases hk:m.kind<1∨7<m.kind
 ·unfold Db.enc at he;rw[Ah hk]at he;cases he
 ·unfold Db.enc at he ⊢
  rw[Aa hk]at he ⊢
  cases hw:Om EV m.nums with
  |none=>rw[hw]at he;cases he
  |some w=>
   rw[hw]at he
   obtain⟨f1,b⟩:=Kw hw WB.nil
   obtain⟨g1,g2⟩:=WO b he
   exact⟨g1,g2,f1⟩
theorem VO.byt{a:Nat}{y:N_}(h:VO a y):y.length<=65548/\Eu y:=by
 obtain⟨m,e,s⟩:=h
 have:=NV (m:=m) (by rw[e])
 rw[e]at this
 exact⟨this.1,this.2.1⟩
def QK(l:Int):Prop:=(0<=EQ l/\EQ l<=1099511627776)/\0<=GM l/\GM l<=1099511627776
structure Dn.St(t:Dn)(a b:Nat):Prop where
 ways:KN t.ways
 apart:KN t.apart
 n:t.n=(Ha t.ways:Nat)/\t.n<=500
 lost:0<=t.lost/\t.lost<=b
 way:∀p∈t.ways,QK p.1/\p.2≠[]/\∀y∈p.2,VO a y
section
variable {t:Dn}{a b:Nat}{l k:Int}{y:N_}
theorem Dn.St.le(h:t.St a b){c b':Nat}(h1:a<=c)(h2:b<=b'):t.St c b':=
 ⟨h.ways,h.apart,h.n,⟨h.lost.1,by have:=h.lost.2;omega⟩,fun p hp=>⟨(h.way p hp).1,(h.way p hp).2.1,fun y hy=>((h.way p hp).2.2 y hy).le h1⟩⟩
theorem Dn.St.fit(h:t.St a b):t.Fit b:=by
 have h1:=h.n
 refine⟨h.ways,fun k x e=>?_,fun k x e=>?_,h.apart,⟨by omega,h1.2⟩,h.lost⟩
 ·have:=(h.way _ (HG e)).1.1
  show -9223372036854775808<=EQ k/\EQ k<9223372036854775808
  dsimp only at this;omega
 ·have:=Qp (HG e)
  dsimp only at this;omega
theorem Dn.St.fewW(h:t.St a b):t.ways.length<=500:=by
 have:=Ws fun p hp=>(h.way p hp).2.1
 have:=h.n;omega
theorem Dn.new_st:Dn.new.St 0 0:=⟨trivial,trivial,⟨rfl,by decide⟩,⟨AK _,AK _⟩,fun _ h=>by cases h⟩
theorem Dn.St.lose(h:t.St a b):t.lose.St a (b+1):=⟨h.ways,h.apart,h.n,by have:=h.lost;show 0<=t.lost+1/\t.lost+1<=((b+1:Nat):Int);omega,h.way⟩
theorem Dn.St.send(h:t.St a b)(hk:QK k)(hy:VO a y):(t.send k y).1.St a (b+1):=by
 unfold Dn.send
 split
 ·exact h.lose
 ·rename_i hn
  have h1:=h.n
  have h2:Ha (aset k (t.way k++[y]) t.ways)+(t.way k).length=Ha t.ways+(t.way k++[y]).length:=MO
  rw[Ac,Be]at h2
  refine⟨h.ways.aset,h.apart,⟨?_,?_⟩,by have:=h.lost;show 0<=t.lost/\t.lost<=((b+1:Nat):Int);omega,fun p hp=>?_⟩
  ·show t.n+1=((Ha (aset k (t.way k++[y]) t.ways):Nat):Int);omega
  ·show t.n+1<=500;omega
  ·rcases QG hp with rfl|hp
   ·refine⟨hk,by show t.way k++[y]≠[];simp,fun z hz=>?_⟩
    rcases AC.1 hz with hz|hz
    ·unfold Dn.way at hz
     cases e:alk k t.ways with
     |none=>rw[e]at hz;cases hz
     |some x=>rw[e]at hz;exact(h.way _ (HG e)).2.2 z hz
    ·cases Ap.1 hz;exact hy
   ·exact h.way p hp
theorem Dn.St.at_(h:t.St a b)(hk:¬(k<0∨t.len l<=k)):∃x,alk l t.ways=some x/\t.way l=x/\k.toNat<x.length/\VO a (x.getD k.toNat [])/\QK l:=by
 have hl:k.toNat<(t.way l).length:=by
  have:t.len l=((t.way l).length:Nat):=rfl
  omega
 cases e:alk l t.ways with
 |none=>unfold Dn.way at hl;rw[e]at hl;exact absurd hl (Nat.not_lt_zero _)
 |some x=>
  have hw:t.way l=x:=by unfold Dn.way;rw[e];rfl
  rw[hw]at hl
  have hp:=h.way _ (HG e)
  exact⟨x,rfl,hw,hl,hp.2.2 _ (by rw[AB,Ae hl];exact List.getElem_mem hl),hp.1⟩
theorem Dn.St.take(h:t.St a b)(l k:Int):(t.take l k).1.St a b/\((t.take l k).2.2=true->VO a (t.take l k).2.1):=by
 unfold Dn.take
 split
 ·exact⟨h,fun e=>by cases e⟩
 ·rename_i hk
  obtain⟨x,e,hw,hl,hm,hr⟩:=h.at_ hk
  have h1:=h.n
  rw[hw]
  refine⟨⟨?_,h.apart,?_,h.lost,fun p hp=>?_⟩,fun _=>hm⟩
  ·show KN (t.rest l k)
   unfold Dn.rest
   split
   ·exact h.ways.adel
   ·exact h.ways.aset
  ·have hx:(alk l t.ways).getD []=x:=by rw[e];rfl
   show t.n-1=((Ha (t.rest l k):Nat):Int)/\t.n-1<=500
   unfold Dn.rest
   rw[hw]
   have hz:(x.eraseIdx k.toNat).length=x.length-1:=List.length_eraseIdx_of_lt hl
   split
   ·have:=QV (k:=l) (l:=t.ways);rw[hx]at this;omega
   ·have:=MO (k:=l) (v:=x.eraseIdx k.toNat) (l:=t.ways);rw[hx]at this;omega
  ·have hp:p∈t.rest l k:=hp
   unfold Dn.rest at hp
   rw[hw]at hp
   split at hp
   ·exact h.way p (MC hp)
   ·rename_i hz
    rcases QG hp with rfl|hp
    ·have hq:=h.way _ (HG e)
     exact⟨hr,fun q=>hz (by have q:x.eraseIdx k.toNat=[]:=q;rw[q];rfl),fun z hz=>hq.2.2 z (List.mem_of_mem_eraseIdx hz)⟩
    ·exact h.way p hp
theorem Dn.St.take_(h:t.St a b)(l k:Int):(t.take_ l k).1.St a (b+1)/\((t.take_ l k).2.2=true->VO a (t.take_ l k).2.1/\(t.take_ l k).1.St a b):=by
 obtain⟨h1,h2⟩:=h.take l k
 unfold Dn.take_
 split
 ·exact⟨h1.lose,fun e=>by cases e⟩
 ·exact⟨h1.le (Al _) (AL _),fun e=>⟨h2 e,h1⟩⟩
theorem Dn.St.links(h:t.St a b)(hn:t.n≠0):t.links≠[]/\∀l∈t.links,QK l/\1<=t.len l:=by
 have hm:∀l,l∈t.links↔l∈t.ways.map (·.1):=fun l=>(Bq _ _).mem_iff
 constructor
 ·intro e
  cases hw:t.ways with
  |nil=>have:=h.n.1;rw[hw]at this;exact hn this
  |cons p r=>
   have:p.1∈t.links:=(hm _).2 (by rw[hw];exact Ar)
   rw[e]at this;cases this
 ·intro l hl
  obtain⟨x,e⟩:=(Jb l t.ways).2 ((hm l).1 hl)
  have hp:=h.way _ (HG e)
  refine⟨hp.1,?_⟩
  have:t.way l=x:=by unfold Dn.way;rw[e];rfl
  show(1:Int)<=((t.way l).length:Nat)
  rw[this]
  have:=List.length_pos_iff.2 hp.2.1
  dsimp only at this;omega
theorem Dn.St.drop(h:t.St a b)(l k:Int):(t.drop l k).1.St a (b+1):=by
 unfold Dn.drop
 split
 ·exact(h.take l k).1.lose
 ·exact(h.take l k).1.le (Al _) (AL _)
theorem Dn.St.twice(h:t.St a b)(l k:Int):(t.twice l k).1.St a (b+1):=by
 unfold Dn.twice
 split
 ·exact h.le (Al _) (AL _)
 ·rename_i hk
  obtain⟨x,e,hw,hl,hm,hr⟩:=h.at_ (l:=l) (k:=k) (by omega)
  rw[hw]
  exact h.send hr hm
theorem Dn.St.cut(h:t.St a b)(x y:Int):(t.cut x y).St a b:=⟨h.ways,h.apart.aset,h.n,h.lost,h.way⟩
theorem Dn.St.heal(h:t.St a b):t.heal.St a b:=⟨h.ways,trivial,h.n,h.lost,h.way⟩
def Dn.put(t:Dn)(m:Db):Dn:=if m.enc.2=0 then (t.send (UV m.from_ m.to) m.enc.1).1 else t
def Dn.sends(t:Dn)(ms:List Db):Dn:=ms.foldl Dn.put t
theorem Dn.St.put(h:t.St a b){m:Db}(hm:m.Sm a):(t.put m).St a (b+1):=by
 unfold Dn.put
 split
 ·rename_i he
  have hn:=(NV he).2.2
  have h1:=hn m.from_ (by simp[Db.nums]);have h2:=hn m.to (by simp[Db.nums])
  have hh:=hl_cd2 (a:=m.from_) (b:=m.to) (by omega) (by omega)
  exact h.send (by unfold QK;rw[hh.1,hh.2];exact⟨h1,h2⟩) ⟨m,by rw[<-he],hm⟩
 ·exact h.le (Al _) (AL _)
theorem Dn.St.sends{ms:List Db}:∀ {t:Dn} {b:Nat},t.St a b->(∀m∈ms,m.Sm a)->(t.sends ms).St a (b+ms.length):=by
 induction ms with
 |nil=>intro t b h _;exact h
 |cons m ms ih=>
  intro t b h hm
  have:=ih (h.put (hm m Ar)) fun q hq=>hm q (Aw _ hq)
  show((t.put m).sends ms).St a _
  exact this.le (Al _) (by rw[Am];omega)
end
structure Fz where
 up:Bool
 x:CR
structure CI where
 c:CfM
 nds:List Fz
 cls:List De
 net:Dn
 ev:List EvM
def CI.setN(r:CI)(i:Nat)(n:Fz):CI:={r with nds:=r.nds.set i n}
def CI.setC(r:CI)(i:Nat)(x:De):CI:={r with cls:=r.cls.set i x}
def CI.setT(r:CI)(t:Dn):CI:={r with net:=t}
def CI.add(r:CI)(b:List EvM):CI:={r with ev:=r.ev++b}
def CI.sends(r:CI)(ms:List Db):CI:=r.setT (r.net.sends ms)
def CI.doneN(r:CI)(i:Nat)(x:CR):CI:=(r.setN i ⟨true,x.noOut⟩).sends x.out
def CI.doneC(r:CI)(i:Nat)(x:De):CI:=((r.setC i x.cleared).add x.events).sends x.post.out
def CI.tickN(r:CI)(i:Nat):CI:=match r.nds[i]? with
 |some ⟨true,x⟩=>r.doneN i x.tick
 |_=>r
def CI.inN(r:CI)(i:Nat)(m:Db):CI:=match r.nds[i]? with
 |some ⟨true,x⟩=>r.doneN i (x.in_ m)
 |_=>r
def CI.tickC(r:CI)(i:Nat):CI:=match r.cls[i]? with
 |some x=>r.doneC i x.tick
 |none=>r
def CI.inC(r:CI)(i:Nat)(m:Db):CI:=match r.cls[i]? with
 |some x=>r.doneC i (x.in_ m)
 |none=>r
def CI.come(r:CI)(to:Int)(b:N_):CI:=
 if(Hh b).2≠0 then r
 else if 1<=to/\to<=r.nds.length then r.inN (to-1).toNat (Hh b).1
 else if 101<=to/\to<=100+r.cls.length then r.inC (to-101).toNat (Hh b).1
 else r
def CI.take_(r:CI)(l k:Int):CI:=if(r.net.take_ l k).2.2=true then (r.setT (r.net.take_ l k).1).come (GM l) (r.net.take_ l k).2.1 else r.setT (r.net.take_ l k).1
def CI.start(r:CI)(i:Nat):CI:=match r.nds[i]? with
 |some n=>r.setN i ⟨true,YZ r.c ((i:Int)+1) n.x.log⟩
 |none=>r
def CI.crash(r:CI)(i:Nat):CI:=match r.nds[i]? with
 |some n=>r.setN i ⟨false,n.x⟩
 |none=>r
def CI.isUp(r:CI)(i:Nat):Bool:=match r.nds[i]? with
 |some n=>n.up
 |none=>false
def CI.lnk(r:CI)(a:Int):Int:=r.net.links.getD (a%r.net.links.length).toNat 0
def CI.pos(r:CI)(a b:Int):Int:=b%r.net.len (r.lnk a)
def CI.do_(r:CI)(k a b:Int):CI×Int:=
 if(k=1∨k=8∨k=9∨k=10)/\¬(1<=a/\a<=r.nds.length)then (r,1)
 else if k=2/\¬(1<=a/\a<=r.cls.length)then (r,1)
 else if(k=3∨k=4∨k=5)/\r.net.n=0 then (r,5)
 else if k=1 then (r.tickN (a-1).toNat,0)
 else if k=2 then (r.tickC (a-1).toNat,0)
 else if k=3 then (r.take_ (r.lnk a) (r.pos a b),0)
 else if k=4 then (r.setT (r.net.drop (r.lnk a) (r.pos a b)).1,0)
 else if k=5 then (r.setT (r.net.twice (r.lnk a) (r.pos a b)).1,0)
 else if k=6 then (r.setT (r.net.cut a b),0)
 else if k=7 then (r.setT r.net.heal,0)
 else if k=8 then (r.crash (a-1).toNat,0)
 else if k=9 then if r.isUp (a-1).toNat=true then (r,51)else (r.start (a-1).toNat,0)
 else (r,1)
def CI.new(c:CfM):CI:=⟨c,(List.range c.nodes.toNat).map fun(i:Nat)=>⟨true,YZ c ((i:Int)+1) ⟨1,[],[]⟩⟩,(List.range c.clients.toNat).map fun i=>De.new c (i+1),Dn.new,[]⟩
def ZI:Nat->CI×Nat->CI×Nat
 |0,s=>s
 |k+1,s=>if s.1.net.links=[]then s else ZI k (s.1.take_ (s.1.net.links.headD 0) 0,s.2+1)
def CI.round(s:CI×Nat):CI×Nat:=ZI 4000 ((s.1.tickN 0).tickC 0,s.2+2)
def ZV:Nat->CI×Nat->CI×Nat
 |0,s=>s
 |n+1,s=>ZV n (CI.round s)
def Fz.St(n:Fz)(c:CfM)(t:Nat):Prop:=n.x.log.St c t (1+8*t)/\(n.up=true->n.x.St c t 0 (1+8*t))
structure CI.St(r:CI)(c:CfM)(t:Nat):Prop where
 cf:r.c=c
 nn:(r.nds.length:Int)=c.nodes
 kn:(r.cls.length:Int)=c.clients
 nd:∀(i:Nat) (n:Fz),r.nds[i]? =some n->n.St c t
 cl:∀(i:Nat) (x:De),r.cls[i]? =some x->x.St c (40+20*t)
 net:r.net.St t (40000000*t)
 ev:r.ev.length<=20000*t
section
variable {r:CI}{c:CfM}{t:Nat}
theorem Fz.St.le{n:Fz}(h:n.St c t){t':Nat}(q:t<=t'):n.St c t':=⟨h.1.le q (by omega),fun e=>(h.2 e).le q (Al _) (by omega)⟩
theorem CI.St.le(h:r.St c t){t':Nat}(q:t<=t'):r.St c t':=
 ⟨h.cf,h.nn,h.kn,fun i n e=>(h.nd i n e).le q,fun i x e=>(h.cl i x e).le (by omega),h.net.le q (by omega),by have:=h.ev;omega⟩
theorem CI.St.setN(h:r.St c t){n:Fz}(hn:n.St c t)(i:Nat):(r.setN i n).St c t:=
 ⟨h.cf,by show((r.nds.set i n).length:Int)=_;rw[AQ];exact h.nn,h.kn,fun j m e=>by
  have e:(r.nds.set i n)[j]? =some m:=e
  rw[List.getElem?_set]at e
  split at e
  ·split at e
   ·cases e;exact hn
   ·cases e
  ·exact h.nd j m e,h.cl,h.net,h.ev⟩
theorem CI.St.setC(h:r.St c t){x:De}(hx:x.St c (40+20*t))(i:Nat):(r.setC i x).St c t:=
 ⟨h.cf,h.nn,by show((r.cls.set i x).length:Int)=_;rw[AQ];exact h.kn,h.nd,fun j m e=>by
  have e:(r.cls.set i x)[j]? =some m:=e
  rw[List.getElem?_set]at e
  split at e
  ·split at e
   ·cases e;exact hx
   ·cases e
  ·exact h.cl j m e,h.net,h.ev⟩
theorem CI.St.setT(h:r.St c t){n:Dn}(hn:n.St t (40000000*t)):(r.setT n).St c t:=⟨h.cf,h.nn,h.kn,h.nd,h.cl,hn,h.ev⟩
theorem CI.St.doneN(h:r.St c t){x:CR}(hx:x.St c (t+1) 33000000 (1+8*(t+1)))(i:Nat):(r.doneN i x).St c (t+1):=by
 have h1:=h.le (AL t)
 have h2:=h1.setN (n:=⟨true,x.noOut⟩) ⟨(OR hx).lg,fun _=>OR hx⟩ i
 refine h2.setT ?_
 have h3:=(h.net.le (AL t) (Al _)).sends hx.out
 have:=hx.outl
 exact h3.le (Al _) (by omega)
theorem CI.St.doneC(h:r.St c t)(ht:t+1<=640){x:De}(hx:x.St c (40+20*(t+1)))(i:Nat):(r.doneC i x).St c (t+1):=by
 have h1:=h.le (AL t)
 have h2:=h1.setC hx.cleared i
 have he:=hx.fit.events;have ho:=hx.fit.post.out
 have h3:((r.setC i x.cleared).add x.events).St c (t+1):=⟨h2.cf,h2.nn,h2.kn,h2.nd,h2.cl,h2.net,by show(r.ev++x.events).length<=_;rw[Ac];have:=h.ev;omega⟩
 refine h3.setT ?_
 have h4:=(h.net.le (AL t) (Al _)).sends fun m hm=>(hx.post.out m hm).le (Af (t+1))
 exact h4.le (Al _) (by omega)
variable (hc:c.Sm)(h:r.St c t)(ht:t+1<=640)
include hc h ht
theorem CI.St.tickN(i:Nat):(r.tickN i).St c (t+1):=by
 unfold CI.tickN
 split
 ·rename_i x e
  have:=(MH hc ((h.nd i _ e).2 rfl) ht (by omega) (by omega)).2
  exact h.doneN (this.le (Al _) (by omega) (by omega)) i
 ·exact h.le (AL t)
theorem CI.St.inN{m:Db}(hm:m.Sm t)(hd:m.Dec)(i:Nat):(r.inN i m).St c (t+1):=by
 unfold CI.inN
 split
 ·rename_i x e
  have:=(Uu hc ((h.nd i _ e).2 rfl) hm hd ht (by omega) (by omega)).2
  exact h.doneN (this.le (Al _) (by omega) (by omega)) i
 ·exact h.le (AL t)
theorem CI.St.tickC(i:Nat):(r.tickC i).St c (t+1):=by
 unfold CI.tickC
 split
 ·rename_i x e
  exact h.doneC ht ((h.cl i _ e).tick hc) i
 ·exact h.le (AL t)
omit hc in
theorem CI.St.inC{m:Db}(hd:m.Dec)(i:Nat):(r.inC i m).St c (t+1):=by
 unfold CI.inC
 split
 ·rename_i x e
  exact h.doneC ht ((h.cl i _ e).in_ hd) i
 ·exact h.le (AL t)
theorem CI.St.come{b:N_}(hb:VO t b)(to:Int):(r.come to b).St c (t+1):=by
 obtain⟨h1,h2,h3⟩:=hb.read
 unfold CI.come
 repeat' split
 ·exact h.le (AL t)
 ·exact h.inN hc ht h2 h3 _
 ·exact h.inC ht h3 _
 ·exact h.le (AL t)
theorem CI.St.start(i:Nat):(r.start i).St c (t+1):=by
 unfold CI.start
 split
 ·rename_i n e
  have hi:=(Ab.1 e).1
  have hn:=h.nn
  have hq:=(Kp (me:=(i:Int)+1) hc ((h.nd i n e).1.le (AL t) (Al _)) (by omega) (by omega) ht).2.1
  have h1:=h.le (AL t)
  rw[h.cf]
  have hq2:=hq.le (Al _) (Al _) (by omega:1+8*t<=1+8*(t+1))
  exact h1.setN (n:=⟨true,YZ c ((i:Int)+1) n.x.log⟩) ⟨hq2.lg,fun _=>hq2⟩ i
 ·exact h.le (AL t)
omit hc ht in
theorem CI.St.crash(i:Nat):(r.crash i).St c t:=by
 unfold CI.crash
 split
 ·rename_i n e
  exact h.setN (n:=⟨false,n.x⟩) ⟨(h.nd i n e).1,fun e=>by cases e⟩ i
 ·exact h
theorem CI.St.take_(l k:Int):(r.take_ l k).St c (t+1):=by
 obtain⟨h1,h2⟩:=h.net.take_ l k
 unfold CI.take_
 split
 ·rename_i e
  exact(h.setT (h2 e).2).come hc ht (h2 e).1 _
 ·exact(h.le (AL t)).setT (h1.le (AL t) (by omega))
theorem CI.St.do_(k a b:Int):(r.do_ k a b).1.St c (t+1):=by
 have h0:=h.le (AL t)
 unfold CI.do_
 by_cases q0:(k=1∨k=8∨k=9∨k=10)/\¬(1<=a/\a<=r.nds.length)
 ·rw[Ah q0];exact h0
 rw[Aa q0]
 by_cases q1:k=2/\¬(1<=a/\a<=r.cls.length)
 ·rw[Ah q1];exact h0
 rw[Aa q1]
 by_cases q2:(k=3∨k=4∨k=5)/\r.net.n=0
 ·rw[Ah q2];exact h0
 rw[Aa q2]
 by_cases q3:k=1
 ·rw[Ah q3];exact h.tickN hc ht _
 rw[Aa q3]
 by_cases q4:k=2
 ·rw[Ah q4];exact h.tickC hc ht _
 rw[Aa q4]
 by_cases q5:k=3
 ·rw[Ah q5];exact h.take_ hc ht _ _
 rw[Aa q5]
 by_cases q6:k=4
 ·rw[Ah q6];exact h0.setT ((h.net.drop _ _).le (AL t) (by omega))
 rw[Aa q6]
 by_cases q7:k=5
 ·rw[Ah q7];exact h0.setT ((h.net.twice _ _).le (AL t) (by omega))
 rw[Aa q7]
 by_cases q8:k=6
 ·rw[Ah q8];exact h0.setT (h0.net.cut _ _)
 rw[Aa q8]
 by_cases f:k=7
 ·rw[Ah f];exact h0.setT h0.net.heal
 rw[Aa f]
 by_cases d:k=8
 ·rw[Ah d];exact h0.crash _
 rw[Aa d]
 by_cases e:k=9
 ·rw[Ah e]
  by_cases u:r.isUp (a-1).toNat=true
  ·rw[Ah u];exact h0
  ·rw[Aa u];exact h.start hc ht _
 ·rw[Aa e];exact h0
omit h ht in
theorem CI.new_st:(CI.new c).St c 0:=by
 have q1:=hc.ok.nodes;have q2:=hc.ok.clients
 refine⟨rfl,?_,?_,fun i n e=>?_,fun i x e=>?_,Dn.new_st,Af _⟩
 ·show(((List.range c.nodes.toNat).map fun(i:Nat)=>(⟨true,YZ c ((i:Int)+1) ⟨1,[],[]⟩⟩:Fz)).length:Int)=_
  rw[AP,Cd];omega
 ·show(((List.range c.clients.toNat).map _).length:Int)=_
  rw[AP,Cd];omega
 ·have e:((List.range c.nodes.toNat).map fun(i:Nat)=>(⟨true,YZ c ((i:Int)+1) ⟨1,[],[]⟩⟩:Fz))[i]? =some n:=e
  have hi:=(Ab.1 e).1
  rw[AP,Cd]at hi
  rw[Aq,List.getElem?_range hi]at e
  cases e
  have hq:=(Kp (me:=(i:Int)+1) hc (lg0_st c) (by omega) (by omega) (by omega)).2.1
  exact⟨hq.lg,fun _=>hq⟩
 ·have e:((List.range c.clients.toNat).map fun i=>De.new c (i+1))[i]? =some x:=e
  have hi:=(Ab.1 e).1
  rw[AP,Cd]at hi
  rw[Aq,List.getElem?_range hi]at e
  cases e
  exact clnew_st hc (by omega) (by omega)
end
def Im:CfM:=⟨1,1,1,2,1,3,1048576,99,0,0,⟨1,1,0,1,0,0⟩⟩
def VA(s:CI×Nat):Bool:=decide (s.2<=600) && match s.1.ev with
 |[a,e]=>decide (a.ops.length<=1000) && decide (e.kind=2) && match e.ops with
  |[o]=>decide (o.val=16)
  |_=>false
 |_=>false
theorem Yw:VA (ZV 20 (CI.new Im,0))=true:=by decide+kernel
def Yk(l:EA)(d:Dw):Prop:=Fw true l d∨(d.new0/\l=⟨1,[],[]⟩)
theorem Yk.open_{l:EA}{d:Dw}(h:Yk l d):∃d2,d.open_=(l,d2,0)/\Fw true l d2:=by
 rcases h with h|⟨h,rfl⟩
 ·exact⟨d,h.open_,h⟩
 ·exact open_new h
theorem Yk.ok{l:EA}{d:Dw}(h:Yk l d):d.Ok:=by
 rcases h with h|⟨h,rfl⟩
 ·exact h.ok
 ·have b:Eu []:=fun _ h=>by cases h
  rw[h]
  exact⟨⟨Al _,Af _,Af _,b,b⟩,⟨Al _,Af _,Af _,b,b⟩,by decide⟩
theorem Yk.crash{l:EA}{d:Dw}(h:Yk l d)(ks:List Int):Yk l (d.crash ks):=by
 rcases h with h|⟨h,rfl⟩
 ·exact .inl (h.crash ks)
 ·refine .inr ⟨?_,rfl⟩
  have e:∀k,(⟨[],0,[],false⟩:He).crash k=⟨[],0,[],false⟩:=fun k=>by simp[He.crash]
  unfold Dw.crash Dw.new0
  rw[h]
  simp only[e]
structure EK where
 dp:Nat
 cell:Option (Nat×A_×Nat×N_)
def EK.v(k:EK):Value:=match k.cell with
 |none=>.pointer none
 |some q=>.pointer (some ⟨q.1,0,none⟩)
def Ee(L:PL)(k:EK)(n:Fz)(rs:Mem):Prop:=match k.cell with
 |none=>n.up=false/\∃d,Yk n.x.log d/\DZ k.dp d rs
 |some (q,b,pc,ps)=>n.up=true/\Jn b pc ps true q k.dp L n.x rs
theorem Ee.le{L L':PL}(q:Le L L')(k:EK)(n:Fz)(rs:Mem)(h:Ee L k n rs):Ee L' k n rs:=by
 unfold Ee at h ⊢
 split
 ·rename_i e;rw[e]at h;exact h
 ·rename_i e;rw[e]at h;exact⟨h.1,Jn.le q _ h.2⟩
structure Ed where
 p:Nat
 np:Nat
 da:A_
 dc:Nat
 ca:A_
 cc:Nat
 la:A_
 lc:Nat
 n:Nat
 k:Nat
 dps:N_
 qs:N_
def Eg(L:PL)(q:Nat)(x:De)(rs:Mem):Prop:=∃b,Le b L/\GS q b x rs
theorem Eg.le{L L':PL}(k:Le L L')(q:Nat)(x:De)(rs:Mem):Eg L q x rs->Eg L' q x rs:=fun⟨b,h,a⟩=>⟨b,h.trans k,a⟩
theorem Eg.of{L:PL}{q:Nat}{x:De}(rs:Mem)(h:GS q L x rs):Eg L q x rs:=⟨L,.refl _,h⟩
theorem Cv.clU{w0:World}{b_:N_}{h c:Mem}{S:N_}{L:PL}{q:Nat}{x:De}(s:Ps h [cm S (Eg L q x)] c):Cv w0 b_ h fun h'=>∃b,h'=c++[cm b (GS q L x)]:=
 (Cv.op s).then fun _ ⟨_,⟨L0,hL,gp,pp,tp,Sg,Sp,St,ea,ec,ecs,e1,hev⟩,e⟩=>by
  subst e1;subst e
  refine(Cv.perm (h':=[QQ q x gp pp (tvP x.txn tp) (.slice ea x.events.length ec),cm Sg (QB gp x.gen),cm Sp (DV pp L0 x.post),cm St (Od tp L0 x.txn),sq ea x.events.length ec 62 3 ecs]++c) Av).then fun _ e=>?_
  subst e
  refine(Cv.up (B:=DV pp L x.post) s2 (DV.le hL)).then fun _ e=>?_
  subst e
  refine(Cv.up (B:=Od tp L x.txn) s3 (fun _ h=>Od.le hL h)).then fun _ e=>?_
  subst e
  exact(YL (.p0 (.p0 (.p0 (.p0 (.p0 .d))))) (A:=GS q L x) ⟨gp,pp,tp,Sg,Sp,St,ea,ec,ecs,rfl,hev.mono fun _ _ h=>h.le hL⟩).then fun _ ⟨b,e⟩=>YM ⟨b,e⟩
abbrev QM(K:Ed)(r:CI)(ev:Value):V_:=cfv r.c++[.slice K.da K.n K.dc,.slice K.ca K.n K.cc,.slice K.la K.k K.lc,Cr K.np,ev]
abbrev NZ(K:Ed)(r:CI)(ev:Value):CW:=blk K.p (.cells (QM K r ev).toArray 70 (0,0))
abbrev Lw(K:Ed)(r:CI)(ea:A_)(ec:Nat)(ecs:V_)(ks:List EK):Mem:=[NZ K r (.slice ea r.ev.length ec),sq K.da K.n K.dc 49 1 (K.dps.map DG),sq K.ca K.n K.cc 33 1 (ks.map EK.v),sq K.la K.k K.lc 75 1 (K.qs.map DG),sq ea r.ev.length ec 62 3 ecs]
abbrev RgC(K:Ed)(L:PL)(r:CI)(ks:List EK):List (Mem->Prop):=[Fi K.np L r.net,DH (Ee L) ks r.nds,DH (Eg L) K.qs r.cls]
structure QT(K:Ed)(L:PL)(r:CI)(ecs:V_)(ks:List EK):Prop where
 dps:K.dps=ks.map EK.dp
 ks:ks.length=K.n
 qs:K.qs.length=K.k
 nn:r.nds.length=K.n
 kn:r.cls.length=K.k
 ev:Rws (Iq L) ecs r.ev
def FF(K:Ed)(L:PL)(r:CI)(rs:Mem):Prop:=∃(ea:A_) (ec:Nat) (ecs:V_) (ks:List EK),Ru (Lw K r ea ec ecs ks) (RgC K L r ks) rs/\QT K L r ecs ks
section
variable {w0:World}{b_:N_}{h c:Mem}{S S1 S2 S3:N_}{K:Ed}{L:PL}{r:CI}{ea:A_}{ec:Nat}{ecs:V_}{ks:List EK}
theorem Zr(s:Ps h [cm S (FF K L r)] c):Cv w0 b_ h fun h'=>∃(ea:A_) (ec:Nat) (ecs:V_) (ks:List EK) (S1 S2 S3:N_),QT K L r ecs ks/\h'=c++(Lw K r ea ec ecs ks++[cm S1 (Fi K.np L r.net),cm S2 (DH (Ee L) ks r.nds),cm S3 (DH (Eg L) K.qs r.cls)]):=
 (Qa9 (ι:={i:A_×Nat×V_×List EK // QT K L r i.2.2.1 i.2.2.2})
  (fun⟨(ea,ec,ecs,ks),_⟩=>Lw K r ea ec ecs ks) (fun⟨(_,_,_,ks),_⟩=>RgC K L r ks) s
  fun rs ⟨ea,ec,ecs,ks,h1,h2⟩=>⟨⟨(ea,ec,ecs,ks),h2⟩,h1⟩).then
 fun _ ⟨⟨(ea,ec,ecs,ks),hh⟩,_,⟨S1,_,e1,S2,_,e2,S3,_,e3,e4⟩,e⟩=>by
  subst e4;subst e3;subst e2;subst e1;subst e
  exact YM ⟨ea,ec,ecs,ks,S1,S2,S3,hh,rfl⟩
theorem Zk{b d f g:PL}(s:Ps h (Lw K r ea ec ecs ks++[cm S1 (Fi K.np b r.net),cm S2 (DH (Ee d) ks r.nds),cm S3 (DH (Eg f) K.qs r.cls)]) c)(hp:QT K g r ecs ks)(ha:Le b L)(hb:Le d L)(hc:Le f L)(hd:Le g L):Cv w0 b_ h fun h'=>∃S,h'=c++[cm S (FF K L r)]:=by
 refine(Cv.perm s.perm).then fun _ e=>?_
 subst e
 refine(Cv.up (B:=Fi K.np L r.net) s5 (Fi.le ha)).then fun _ e=>?_
 subst e
 refine(Cv.up (B:=DH (Ee L) ks r.nds) s6 (fun _ h=>h.mono fun _ _ _ h=>Ee.le hb _ _ _ h)).then fun _ e=>?_
 subst e
 refine(Cv.up (B:=DH (Eg L) K.qs r.cls) s7 (fun _ h=>h.mono fun _ _ _ h=>Eg.le hc _ _ _ h)).then fun _ e=>?_
 subst e
 exact Qa8 (Lw K r ea ec ecs ks) [cm S1 (Fi K.np L r.net),cm S2 (DH (Ee L) ks r.nds),cm S3 (DH (Eg L) K.qs r.cls)] (RgC K L r ks) rfl (.p0 (.p0 (.p0 (.p0 (.p0 (.p0 (.p0 (.p0 .d))))))))
  ⟨_,_,rfl,_,_,rfl,_,_,rfl,rfl⟩ fun _ hr=>⟨ea,ec,ecs,ks,hr,⟨hp.dps,hp.ks,hp.qs,hp.nn,hp.kn,hp.ev.mono fun _ _ h=>h.le hd⟩⟩
end
theorem RK{k:EK}{q:Nat×A_×Nat×N_}(h:k.cell=some q):k.v= .pointer (some ⟨q.1,0,none⟩):=by unfold EK.v;rw[h]
theorem Sy{k:EK}(h:k.cell=none):k.v= .pointer none:=by unfold EK.v;rw[h]
theorem HB:Sp P0 18 [.pointer none] [] fun v h=>v= .bool true/\h=[]:=by
 refine Sq Tryz.func18 fun w0 b_=>?_
 refine OA 7 ?_
 refine O1 (YK (v':=.bool true) (Zh rfl rfl rfl u33) rfl) ?_
 refine OA 15 ?_
 exact Cu (Rr ⟨rfl,rfl⟩)
theorem Ub:Sp P0 20 [.pointer none] [] fun v h=>v= .tuple #[]/\h=[]:=by
 refine Sq Tryz.func20 fun w0 b_=>?_
 refine OA 4 ?_
 refine O8 (YP rfl (en 18) rfl (.d) (HB)) ?_
 refine On (CE rfl (fun b=>Cu (JY rfl (.refl _) ⟨rfl,rfl⟩)) fun b=>?_)
 cases b
theorem Vd:Sp P0 22 [.pointer none] [] fun v h=>v= .slice none 0 0/\h=[]:=by
 refine Sq Tryz.func22 fun w0 b_=>?_
 refine OA 8 ?_
 refine O8 (YP rfl (en 18) rfl (.d) (HB)) ?_
 refine On (CE rfl (fun b=>?_) (fun b=>?_))
 ·refine OA 4 ?_
  exact Cu (Rr ⟨rfl,rfl⟩)
 cases b
theorem in0_spec(m:Db)(c b:Value):Sp P0 136 [.pointer none,.agg (GL m c b).toArray] [] fun v h=>v= .tuple #[]/\h=[]:=by
 refine Sq Tryz.func136 fun w0 b_=>?_
 refine OA 2 ?_
 refine O6 YR fun b3=>?_
 refine OA 3 ?_
 refine CS rfl (fun j=>false) ?_
 refine D1 0 rfl DC ?_
 refine Da 1 ?_
 refine D6 rfl (YP rfl (en 18) rfl (.d) (HB)) ?_
 rintro _ _ ⟨_,⟨rfl,rfl⟩,rfl⟩
 refine ys (DA [2,3,4,5,6,7,8,9,10] ?_)
 refine OA 2 ?_
 exact Cu (JY rfl (An _) ⟨rfl,rfl⟩)
theorem FF.le{K:Ed}{L L':PL}{r:CI}(q:Le L L'):∀rs,FF K L r rs->FF K L' r rs:=by
 rintro rs ⟨b,c,ecs,ks,⟨t,e,r1,r2,e1,a1,d,f,e2,a2,g,i,e3,a3,e4⟩,hp⟩
 exact⟨b,c,ecs,ks,⟨t,e,r1,r2,e1,Fi.le q _ a1,d,f,e2,a2.mono fun k n r h=>Ee.le q k n r h,g,i,e3,a3.mono fun _ _ _ h=>Eg.le q _ _ _ h,e4⟩,hp.dps,hp.ks,hp.qs,hp.nn,hp.kn,hp.ev.mono fun _ _ h=>h.le q⟩
theorem Uc(t:Dn)(ms:List Db)(m:Db):t.sends (ms++[m])=(t.sends ms).put m:=by
 unfold Dn.sends;rw[BP];rfl
theorem Dn.St.of_sends{t:Dn}{a b:Nat}(h:t.St a b){ms:List Db}(hm:∀m∈ms,m.Sm a)(i:Nat):(t.sends (ms.take i)).St a (b+ms.length):=
 (h.sends fun m hq=>hm m (Bx hq)).le (Al _) (by rw[AF];omega)
theorem TB(p:Nat)(S:N_)(L:PL)(t:Dn)(d:Nat)(hf:t.Fit d)(hbb:d<1099511627776)(f g:Int)(hg:0<=g/\g<=1099511627776)(a:A_)(c:Nat)(b:N_)(hb:Bs L (.slice a b.length c) b)(hbl:b.length<17592186044416):
  Sp P0 57 [Cr p,.agg [Cs f,Cs g].toArray,.slice a b.length c] [cm S (Fi p L t),pool L] fun v h=>v= Cs (t.send (UV f g) b).2/\∃L' e,Le L L'/\h=[cm e (Fi p L' (t.send (UV f g) b).1),pool L']:=by
 have:=Jr p S L t d hf hbb (UV f g) a c b hb hbl
 rw[show gA (FB (UV f g))= .agg [Cs f,Cs g].toArray from mk2_cd (by omega) (by omega)]at this
 exact this
theorem Hw(K:Ed)(S:N_)(L:PL)(r:CI)(a b:Nat)(hn:r.net.St a b)(ms:List Db)(hb:b+ms.length<1099511627776)(hm:∀m∈ms,m.Sm a)(p:A_)(q:Nat)(mcs:V_)(hr:Rws (Gu L) mcs ms):
  Sp P0 21 [Cr K.p,.slice p ms.length q] [cm S (FF K L r),pool L,sq p ms.length q 138 12 mcs] fun v h=>v= .tuple #[]/\∃L' w,Le L L'/\h=[cm w (FF K L' (r.sends ms)),pool L']:=by
 refine Sq Tryz.func21 fun w0 b_=>?_
 refine OA 7 ?_
 refine CD (fun((i,L1,k):Nat×PL×N_)=>[(0,Cr K.p),(8,.slice p ms.length q),(9,Cs ms.length),(10,Cs i)]) (fun(i,L1,k)=>[cm k (FF K L1 (r.sends (ms.take i))),pool L1,sq p ms.length q 138 12 mcs]) (fun(i,L1,k)=>i<=ms.length/\Le L L1) (fun(i,_)=>ms.length-i) (0,L,S) ?_ ?_
 ·exact⟨⟨Af _,.refl _⟩,Sb4,.refl _⟩
 rintro⟨i,L1,k⟩ ⟨hi,d⟩
 conv=>arg 7;dsimp only
 conv=>arg 8;dsimp only
 refine OA 5 ?_
 refine Cy rfl (fun o=>?_) (fun o=>?_)
 ·obtain⟨m,n⟩:∃m,ms[i]? =some m:=⟨_,Ae (by omega)⟩
  obtain⟨c1,⟨J,I,rfl,hlv,hdv⟩,hmc⟩:=hr.at (s:=12) Gu.len n
  obtain⟨O,P,rfl,_,_⟩:=hlv.sh
  obtain⟨Q,R,rfl,_,_⟩:=hdv.sh
  have hst:=hn.of_sends hm i
  have hnx:r.sends (ms.take (i+1))=(r.sends (ms.take i)).setT ((r.net.sends (ms.take i)).put m):=by
   show r.setT _=r.setT _
   rw[<-Uc,Dg n]
  obtain⟨r1,g⟩:∃r1,r1=r.sends (ms.take i):=⟨_,rfl⟩
  have hst:r1.net.St a (b+ms.length):=by rw[g];exact hst
  have hnx:r.sends (ms.take (i+1))=r1.setT (r1.net.put m):=by rw[hnx,g];rfl
  rw[<-g]
  refine CM at2 Reads.sq (hmc 0 _ rfl) fun ad t=>?_
  subst t
  refine OA 5 ?_
  refine O1 (Jt i u73) ?_
  refine O1 (YW (j:=i*12) u138 Reads.sq hmc rfl) ?_
  refine O6 (YQ JQ) fun H=>?_
  refine OA 5 ?_
  refine Oc rfl (en 56) rfl (.p1 .d) (RF L1 m _ _ (hlv.le d) (hdv.le d)) ?_
  rintro _ _ ⟨A,C,rfl,rfl⟩
  refine OA 11 ?_
  refine Cy rfl (fun c=>?_) (fun c=>?_)
  ·have heg:=NV c
   have hto:=heg.2.2 m.to (by simp[Db.nums])
   refine Cx (Zg (.p3 (.p3 .d))) ?_
   rintro _ ⟨L2,l,hps,rfl⟩
   refine Ti (Cv.up (B:=FF K L2 r1) s0 (FF.le l)) (Cx (Zr (.p0 .d)) ?_)
   rintro _ ⟨M,N,ecs,ks,x,E,F,hp,rfl⟩
   refine Cw (.s (.t (.s (.t .d)))) rfl (fun j=>false) ?_
   intro D
   refine DA [0,1,2,3,4,5,6,7,8,9] ?_
   refine Da 10 ?_
   refine DB rfl rfl (en 57) rfl (.p8 (.p2 .d)) (TB K.np x L2 r1.net (b+ms.length) hst.fit hb m.from_ m.to hto A C m.enc.1 ⟨hps,heg.2.1⟩ (by have:=heg.1;omega)) ?_
   rintro _ _ ⟨rfl,u,G,f,rfl⟩
   refine ys (D0 ?_)
   have e:r1.net.put m=(r1.net.send (UV m.from_ m.to) m.enc.1).1:=Ah c
   rw[<-e]
   refine Tx (Zk (r:=r1.setT (r1.net.put m)) (L:=u) (.p2 (.p2 (.p2 (.p2 (.p2 (.p4 (.p2 (.p2 .d)))))))) ⟨hp.dps,hp.ks,hp.qs,hp.nn,hp.kn,hp.ev⟩ (.refl _) f f f) fun y=>Tp (.t3 (.t2 (.t0 .e))) (OA 4 ?_)
   exact⟨(i+1,u,y),⟨⟨by omega,d.trans (l.trans f)⟩,⟨rfl,rfl,rfl,Dd rfl (by omega),trivial⟩,by dsimp only;rw[hnx];exact .refl _⟩,by simp only;omega⟩
  have e:r1.net.put m=r1.net:=Aa c
  rw[e]at hnx
  have hnx:r.sends (ms.take (i+1))=r1:=hnx
  refine Tp (.t0 (.t2 (.t0 .e))) (OA 5 ?_)
  exact⟨(i+1,L1,k),⟨⟨by omega,d⟩,⟨rfl,rfl,rfl,Dd rfl (by omega),trivial⟩,by dsimp only;rw[hnx];exact .refl _⟩,by simp only;omega⟩
 have hil:i=ms.length:=by omega
 subst hil
 rw[BJ]
 refine Te ?_
 exact Ef rfl (.cons_cons _ (.cons_cons _ (An _))) ⟨rfl,L1,k,d,rfl⟩
theorem Iq.len{L:PL}(c:V_)(e:EvM)(h:Iq L c e):c.length=3:=by obtain⟨b,rfl,_⟩:=h;rfl
theorem Iq.one{L:PL}{cs:V_}{d:List EvM}(h:Rws (Iq L) cs d):∀u∈cs,EL u=true:=by
 induction h with
 |nil=>exact fun u b=>by cases b
 |@cons c cs x xs hc _ ih=>
  obtain⟨e,rfl,ho⟩:=hc
  obtain⟨a1,c1,rfl,_⟩:=ho.sh
  intro u b
  rcases AC.1 b with b|b
  ·rcases AW.1 b with rfl|b
   ·rfl
   ·rcases AW.1 b with rfl|b
    ·rfl
    ·cases Ap.1 b;rfl
  ·exact ih u b
theorem HQ(K:Ed)(S:N_)(L:PL)(r:CI)(a b i q:Nat)(x:De)(hq:K.qs[i]? =some q)(hx:r.cls[i]? =some x)(hn:r.net.St a b)(hb:b+x.post.out.length<1099511627776)(hm:∀m∈x.post.out,m.Sm a)(hev:r.ev.length+x.events.length<=1099511627776):
  Sp P0 24 [Cr K.p,Cr q] [cm S (FF K L r),pool L] fun v h=>v= .tuple #[]/\∃L' k,Le L L'/\h=[cm k (FF K L' (r.doneC i x)),pool L']:=by
 have hil:=(Ab.1 hx).1
 have hiq:=(Ab.1 hq).1
 have hle:r.ev.length+x.events.length=(r.ev++x.events).length:=Ac.symm
 refine Sq Tryz.func24 fun w0 b_=>?_
 refine Cx (Zr (.p0 .d)) ?_
 rintro _ ⟨w,F,ecs,ks,y,A,C,hp,rfl⟩
 refine Cx (ZC (.p8 .d) hq hx) ?_
 rintro _ ⟨D,E,rfl⟩
 refine Tx (Cv.clU (.p8 .d)) fun l=>Ts (Cw (.s (.t .d)) rfl (fun j=>Nat.beq j 10) ?_)
 intro o
 refine DA [0,1,2,3,4,5] ?_
 refine Da 6 ?_
 refine DB rfl rfl (en 66) rfl (.p9 .d) (Of q l L x) ?_
 rintro _ _ ⟨n,oa,oc,d,rfl,c,rfl⟩
 refine ys (Da 7 ?_)
 refine D6 rfl (ZH (ao:=w) el58 .sq (hl:=c.len Iq.len) (h1:=Iq.one c)) ?_
 rintro _ _ ⟨t,u,rfl,rfl⟩
 refine ys (D2 8 rfl (fun _=>Hl) ?_)
 refine D1 9 rfl (Ct.fld 5 20 20 u70) ?_
 refine Da 10 ?_
 refine D8 rfl YO ?_
 refine D0 ?_
 rw[hle]
 refine OA 3 ?_
 refine Oc rfl (en 67) rfl (.p9 .d) (Tm q n L _) ?_
 rintro _ _ ⟨S10,p,s,mcs,rfl,f,rfl⟩
 refine Oi (Cv.up (B:=Eg L q x.cleared) s10 Eg.of) ?_
 refine CL (ZN (.p10 (.p8 .d)) hiq hil) ?_
 rintro _ ⟨S11,rfl⟩
 rw[Dc hq]
 refine CL (Zk (r:=(r.setC i x.cleared).add x.events) (L:=L) (ecs:=ecs++d) (.p1 (.p1 (.p1 (.p1 (.p1 (.p1 (.p1 (.p3 .d)))))))) ⟨hp.dps,hp.ks,hp.qs,hp.nn,(by show(r.cls.set i _).length=_;rw[AQ];exact hp.kn),hp.ev.append c⟩ (.refl _) (.refl _) (.refl _) (.refl _)) ?_
 rintro _ ⟨S12,rfl⟩
 refine Oc rfl (en 21) rfl (.p3 (.p0 (.p1 .d))) (Hw K S12 L ((r.setC i x.cleared).add x.events) a b hn x.post.out hb hm p s mcs f) ?_
 rintro _ _ ⟨rfl,g,S13,e,rfl⟩
 refine On ?_
 exact Ef rfl (.cons _ (.refl _)) ⟨rfl,g,S13,e,rfl⟩
section
variable {w0:World}{b_:N_}{h c:Mem}{S:N_}{L:PL}{k:EK}{n:Fz}
theorem QaP{A B:Mem->Prop}(s:Ps h [cm S A] c)(d:∀rs,A rs->B rs):Cv w0 b_ h fun h'=>∃b,h'=c++[cm b B]:=
 (Cv.op s).then fun _ ⟨rs,ha,e⟩=>by
  subst e
  refine(Cv.perm (h':=rs++c) Av).then fun _ e=>?_
  subst e
  exact(Zl (EP _ _) (d rs ha)).then fun _ e=>YM ⟨_,e⟩
theorem Cv.kn{ι:Type}{A:Mem->Prop}{B:ι->Mem->Prop}{Q:ι->Prop}(s:Ps h [cm S A] c)(d:∀rs,A rs->∃i,Q i/\B i rs):Cv w0 b_ h fun h'=>∃i b,Q i/\h'=c++[cm b (B i)]:=
 (Cv.op s).then fun _ ⟨rs,ha,e⟩=>by
  subst e
  obtain⟨i,hq,hb⟩:=d rs ha
  refine(Cv.perm (h':=rs++c) Av).then fun _ e=>?_
  subst e
  exact(Zl (EP _ _) hb).then fun _ e=>YM ⟨i,_,hq,e⟩
theorem QaI(s:Ps h [cm S (Ee L k n)] c)(b:n.up=false):Cv w0 b_ h fun h'=>∃d f,(k.cell=none/\Yk n.x.log d)/\h'=c++[cm f (DZ k.dp d)]:=
 Cv.kn (B:=fun d=>DZ k.dp d) s fun rs ha=>by
  unfold Ee at ha
  split at ha
  ·rename_i e;obtain⟨_,d,h1,h2⟩:=ha;exact⟨d,⟨e,h1⟩,h2⟩
  ·rw[ha.1]at b;cases b
theorem Qat(s:Ps h [cm S (Ee L k n)] c)(b:n.up=true):Cv w0 b_ h fun h'=>∃(q:Nat×A_×Nat×N_) (d:N_),k.cell=some q/\h'=c++[cm d (Jn q.2.1 q.2.2.1 q.2.2.2 true q.1 k.dp L n.x)]:=
 Cv.kn (B:=fun(q:Nat×A_×Nat×N_)=>Jn q.2.1 q.2.2.1 q.2.2.2 true q.1 k.dp L n.x) s fun rs ha=>by
  unfold Ee at ha
  split at ha
  ·rw[ha.1]at b;cases b
  ·rename_i q f pc ps e;exact⟨(q,f,pc,ps),e,ha.2⟩
end
theorem QaV{L:PL}{b:Nat}{q:Nat×A_×Nat×N_}{x:CR}:∀rs,Jn q.2.1 q.2.2.1 q.2.2.2 true q.1 b L x rs->Ee L ⟨b,some q⟩ ⟨true,x⟩ rs:=fun _ h=>⟨rfl,h⟩
theorem QaE{L:PL}{b:Nat}{d:Dw}{x:CR}(hd:Yk x.log d):∀rs,DZ b d rs->Ee L ⟨b,none⟩ ⟨false,x⟩ rs:=fun _ h=>⟨rfl,d,hd,h⟩
theorem kdp_set{ks:List EK}{i:Nat}{k:EK}(h:ks[i]? =some k)(c:Option (Nat×A_×Nat×N_)):(ks.set i ⟨k.dp,c⟩).map EK.dp=ks.map EK.dp:=by
 rw[List.map_set]
 exact Dc (by rw[Aq,h];rfl)
theorem QT.setN{K:Ed}{L:PL}{r:CI}{ecs:V_}{ks:List EK}(hp:QT K L r ecs ks){i:Nat}{k:EK}(hk:ks[i]? =some k)(c:Option (Nat×A_×Nat×N_))(n:Fz):QT K L (r.setN i n) ecs (ks.set i ⟨k.dp,c⟩):=
 ⟨by rw[kdp_set hk];exact hp.dps,by rw[AQ];exact hp.ks,hp.qs,by show(r.nds.set i n).length=_;rw[AQ];exact hp.nn,hp.kn,hp.ev⟩
theorem LI(K:Ed)(S:N_)(L:PL)(r:CI)(i t T:Nat)(n:Fz)(hn:r.nds[i]? =some n)(E:n.up=false)(A:GLB L)(hc:r.c.Sm)(hl:n.x.log.St r.c t T)(ht:t<=640)(hi:(i:Int)+1<=r.c.nodes):
  Sp P0 34 [Cr K.p,Cs i] [cm S (FF K L r),pool L] fun v h=>v= Cs 0/\∃L' s,Le L L'/\h=[cm s (FF K L' (r.start i)),pool L']:=by
 obtain⟨p,U,y,O,x,N,Q,R,e,P,c,V⟩:=K
 have hil:=(Ab.1 hn).1
 have hnod:=hc.nodes
 have hst:r.start i=r.setN i ⟨true,YZ r.c ((i:Int)+1) n.x.log⟩:=by unfold CI.start;rw[hn]
 rw[hst]
 have hbl:=(Kp (me:=(i:Int)+1) hc hl (by omega) hi ht).1
 refine Sq Tryz.func34 fun w0 b_=>?_
 refine Cx (Zr (.p0 .d)) ?_
 rintro _ ⟨W,X,ecs,ks,F,G,H,hp,rfl⟩
 have hnn:r.nds.length=e:=hp.nn
 have hkl:ks.length=e:=hp.ks
 obtain⟨k,hk⟩:∃k,ks[i]? =some k:=⟨_,Ae (by omega)⟩
 have hd:(c.map DG)[i]? =some (Cr k.dp):=by rw[show c=ks.map EK.dp from hp.dps,Aq,Aq,hk];rfl
 have hdl:i<(c.map DG).length:=(Ab.1 hd).1
 refine Cx (ZC (.p7 .d) hk hn) ?_
 rintro _ ⟨I,J,rfl⟩
 refine Cx (QaI (.p8 .d) E) ?_
 rintro _ ⟨d,u,⟨C,f⟩,rfl⟩
 obtain⟨d2,o,m⟩:=f.open_
 refine CO (fun w hw=>hw.sqNN (ao:=y) at2 (by show 0<e;omega)) fun⟨g,hgg⟩=>?_
 subst hgg
 refine CO (fun w hw=>hw.sqNN (ao:=x) at3 (by show 0<e;omega)) fun⟨g2,hgg2⟩=>?_
 subst hgg2
 refine OA 5 ?_
 refine Cw (.s (.t (.t .d))) rfl (fun j=>false) ?_
 intro D
 refine DA [0,1,2,3,4] ?_
 refine D1 5 rfl (Zj i rfl rfl rfl u65 rfl rfl (by show i<e;omega)) ?_
 refine D1 6 rfl (YV u49 hd) ?_
 refine DA [7,8,9,10,11,12] ?_
 refine Da 13 ?_
 refine DB rfl rfl (en 78) rfl (.p9 (.p0 .d)) (Xc k.dp u L d d2 n.x.log r.c hc.ok hc.ok.bugs A ((i:Int)+1) o f.ok m hbl) ?_
 rintro _ _ ⟨q,L2,M,l,pc,ps,b,rfl,rfl⟩
 refine ys (DA [14,15,16,17,18] ?_)
 refine OA 9 ?_
 refine O1 (Zj i rfl rfl rfl u66 rfl rfl (by show i<e;omega)) ?_
 refine O4 (LO.sqS (hfit:=by show i<e*1;omega)) ?_
 refine OA 6 ?_
 refine Ti (Cv.up (B:=Ee L2 ⟨k.dp,some (q,l,pc,ps)⟩ ⟨true,YZ r.c ((i:Int)+1) n.x.log⟩) s8 (QaV (q:=(q,l,pc,ps)))) (Ti (Cv.up (B:=DH (Ee L2) (ks.eraseIdx i) (r.nds.eraseIdx i)) s7 (fun _ h=>h.mono fun _ _ _ h=>Ee.le b _ _ _ h)) (Tx (ZN (.p8 (.p7 .d)) (by omega) hil) fun S10=>?_))
 rw[show(ks.map EK.v).set i (Cr q)=(ks.set i ⟨k.dp,some (q,l,pc,ps)⟩).map EK.v by rw[List.map_set];rfl]
 refine Tx (Zk (r:=r.setN i ⟨true,YZ r.c ((i:Int)+1) n.x.log⟩) (L:=L2) (.p0 (.p0 (.p0 (.p0 (.p0 (.p0 (.p2 (.p0 .d)))))))) (hp.setN hk (some (q,l,pc,ps)) _) b (.refl _) b b) fun S11=>Tp (.t1 (.t0 .e)) ?_
 exact Cu (Rr ⟨rfl,L2,S11,b,rfl⟩)
def Fz.tick:Fz->Fz
 |⟨true,x⟩=>⟨true,x.tick⟩
 |⟨false,x⟩=>⟨false,x⟩
def Fz.in_(m:Db):Fz->Fz
 |⟨true,x⟩=>⟨true,x.in_ m⟩
 |⟨false,x⟩=>⟨false,x⟩
def Fz.took:Fz->Fz
 |⟨true,x⟩=>⟨true,x.noOut⟩
 |⟨false,x⟩=>⟨false,x⟩
def Fz.outs:Fz->List Db
 |⟨true,x⟩=>x.out
 |⟨false,_⟩=>[]
def CI.doN(r:CI)(i:Nat)(n:Fz):CI:=(r.setN i n.took).sends n.outs
theorem OD{r:CI}{i:Nat}{n:Fz}(h:r.nds[i]? =some n):r.setN i n=r:=by
 unfold CI.setN
 rw[Dc h]
theorem MD{r:CI}{i:Nat}{n:Fz}(h:r.nds[i]? =some n):r.tickN i=r.doN i n.tick:=by
 unfold CI.tickN
 rw[h]
 obtain⟨u,x⟩:=n
 cases u with
 |true=>rfl
 |false=>show r=(r.setN i ⟨false,x⟩).sends [];rw[OD h];rfl
theorem inN_eq{r:CI}{i:Nat}{n:Fz}{m:Db}(h:r.nds[i]? =some n):r.inN i m=r.doN i (n.in_ m):=by
 unfold CI.inN
 rw[h]
 obtain⟨u,x⟩:=n
 cases u with
 |true=>rfl
 |false=>show r=(r.setN i ⟨false,x⟩).sends [];rw[OD h];rfl
theorem kdn{k:EK}{c:Option (Nat×A_×Nat×N_)}(h:k.cell=c):k=⟨k.dp,c⟩:=by cases k;cases h;rfl
theorem Nd(k:EK)(S:N_)(L:PL)(n:Fz)(b N f:Nat)(hx:n.up=true->n.x.TicOk b N f):Sp P0 20 [k.v] [cm S (Ee L k n),pool L] fun v h=>v= .tuple #[]/\∃L' g,Le L L'/\h=[cm g (Ee L' k n.tick),pool L']:=by
 obtain⟨u,x⟩:=n
 cases u with
 |true=>
  exact Sp.pre (fun _ _=>Qat (.p0 .d) rfl) fun _ ⟨q,S1,hk,e⟩=>by
   subst e
   rw[RK hk]
   exact((TK q.1 k.dp S1 L x b N f (hx rfl)).frame (.p1 (.p0 .d))).imp fun _ _ v h ⟨_,⟨h1,L2,S2,hL,h2⟩,h3⟩=>by
    subst h1 h2 h3
    rw[kdn hk]
    exact(QaP (B:=Ee L2 ⟨k.dp,some q⟩ ⟨true,x.tick⟩) (.p0 .d) QaV).then fun _ ⟨c,e⟩=>by subst e;exact(YN (.t1 (.t0 .e))).then fun _ e=>YM ⟨rfl,L2,c,hL,e⟩
 |false=>
  exact Sp.pre (fun _ _=>QaI (.p0 .d) rfl) fun _ ⟨d,S1,⟨hk,hd⟩,e⟩=>by
   subst e
   rw[Sy hk]
   exact(Ub.frame .d).imp fun _ _ v h ⟨_,⟨h1,h2⟩,h3⟩=>by
    subst h1 h2 h3
    rw[kdn hk]
    exact(QaP (B:=Ee L ⟨k.dp,none⟩ ⟨false,x⟩) (.p1 .d) (QaE hd)).then fun _ ⟨c,e⟩=>by subst e;exact(YN (.t1 (.t0 .e))).then fun _ e=>YM ⟨rfl,L,c,.refl _,e⟩
theorem nin_spec(k:EK)(S:N_)(L:PL)(n:Fz)(m:Db)(b N i:Nat)(hx:n.up=true->n.x.InOk m b N i)(f c:Value)(hl:EI L f m.list)(hd:Bs L c m.data):Sp P0 136 [k.v,.agg (GL m f c).toArray] [cm S (Ee L k n),pool L] fun v h=>v= .tuple #[]/\∃L' j,Le L L'/\h=[cm j (Ee L' k (n.in_ m)),pool L']:=by
 obtain⟨u,x⟩:=n
 cases u with
 |true=>
  exact Sp.pre (fun _ _=>Qat (.p0 .d) rfl) fun _ ⟨q,S1,hk,e⟩=>by
   subst e
   rw[RK hk]
   exact((Xf q.1 k.dp S1 L x m b N i (hx rfl) f c hl hd).frame (.p1 (.p0 .d))).imp fun _ _ v h ⟨_,⟨h1,L2,S2,hL,h2⟩,h3⟩=>by
    subst h1 h2 h3
    rw[kdn hk]
    exact(QaP (B:=Ee L2 ⟨k.dp,some q⟩ ⟨true,x.in_ m⟩) (.p0 .d) QaV).then fun _ ⟨g,e⟩=>by subst e;exact(YN (.t1 (.t0 .e))).then fun _ e=>YM ⟨rfl,L2,g,hL,e⟩
 |false=>
  exact Sp.pre (fun _ _=>QaI (.p0 .d) rfl) fun _ ⟨d,S1,⟨hk,hd2⟩,e⟩=>by
   subst e
   rw[Sy hk]
   exact((in0_spec m f c).frame .d).imp fun _ _ v h ⟨_,⟨h1,h2⟩,h3⟩=>by
    subst h1 h2 h3
    rw[kdn hk]
    exact(QaP (B:=Ee L ⟨k.dp,none⟩ ⟨false,x⟩) (.p1 .d) (QaE hd2)).then fun _ ⟨g,e⟩=>by subst e;exact(YN (.t1 (.t0 .e))).then fun _ e=>YM ⟨rfl,L,g,.refl _,e⟩
theorem Iz(k:EK)(S:N_)(L:PL)(n:Fz):Sp P0 22 [k.v] [cm S (Ee L k n)] fun v h=>∃c oa oc mcs,v= .slice oa n.outs.length oc/\Rws (Gu L) mcs n.outs/\h=[cm c (Ee L k n.took),sq oa n.outs.length oc 138 12 mcs]:=by
 obtain⟨u,x⟩:=n
 cases u with
 |true=>
  exact Sp.pre (fun _ _=>Qat (.p0 .d) rfl) fun _ ⟨q,S1,hk,e⟩=>by
   subst e
   rw[RK hk]
   exact((SP true q.1 k.dp S1 L x).frame (.p0 .d)).imp fun _ _ v h ⟨_,⟨S2,oa,oc,mcs,h1,hm,h2⟩,h3⟩=>by
    subst h1 h2 h3
    rw[kdn hk]
    exact(QaP (B:=Ee L ⟨k.dp,some q⟩ ⟨true,x.noOut⟩) (.p0 .d) QaV).then fun _ ⟨b,e⟩=>by subst e;exact(YN (.t1 (.t0 .e))).then fun _ e=>YM ⟨b,oa,oc,mcs,rfl,hm,e⟩
 |false=>
  exact Sp.pre (fun _ _=>QaI (.p0 .d) rfl) fun _ ⟨d,S1,⟨hk,hd⟩,e⟩=>by
   subst e
   rw[Sy hk]
   exact(Vd.frame .d).imp fun _ _ v h ⟨_,⟨h1,h2⟩,h3⟩=>by
    subst h1 h2 h3
    rw[kdn hk]
    exact(QaP (B:=Ee L ⟨k.dp,none⟩ ⟨false,x⟩) (.p0 .d) (QaE hd)).then fun _ ⟨b,e⟩=>by subst e;exact(Cv.nil 138 12).then fun _ e=>YM ⟨b,none,0,[],rfl,.nil,e⟩
theorem Jp(k:EK)(S:N_)(L:PL)(n:Fz):Sp P0 18 [k.v] [cm S (Ee L k n)] fun v h=>v= .bool (!n.up)/\∃c,h=[cm c (Ee L k n)]:=by
 obtain⟨u,x⟩:=n
 cases u with
 |true=>
  exact Sp.pre (fun _ _=>Qat (.p0 .d) rfl) fun _ ⟨q,S1,hk,e⟩=>by
   subst e
   rw[RK hk]
   exact((GP q.1 k.dp S1 L x).frame (.p0 .d)).imp fun _ _ v h ⟨_,⟨h1,S2,h2⟩,h3⟩=>by
    subst h1 h2 h3
    rw[kdn hk]
    exact(QaP (B:=Ee L ⟨k.dp,some q⟩ ⟨true,x⟩) (.p0 .d) QaV).then fun _ ⟨b,e⟩=>YM ⟨rfl,b,e⟩
 |false=>
  exact Sp.pre (fun _ _=>QaI (.p0 .d) rfl) fun _ ⟨d,S1,⟨hk,hd⟩,e⟩=>by
   subst e
   rw[Sy hk]
   exact(HB.frame .d).imp fun _ _ v h ⟨_,⟨h1,h2⟩,h3⟩=>by
    subst h1 h2 h3
    rw[kdn hk]
    exact(QaP (B:=Ee L ⟨k.dp,none⟩ ⟨false,x⟩) (.p0 .d) (QaE hd)).then fun _ ⟨b,e⟩=>YM ⟨rfl,b,e⟩
section
variable {n:Fz}{c:CfM}{t:Nat}
theorem Fz.St.inOk(hc:c.Sm)(h:n.St c t){m:Db}(hm:m.Sm t)(hd:m.Dec)(ht:t+1<=640):n.up=true->n.x.InOk m 0 N0 (1+8*t):=fun b=>(Uu hc (h.2 b) hm hd ht (by omega) (by omega)).1
theorem Fz.St.inOut(hc:c.Sm)(h:n.St c t){m:Db}(hm:m.Sm t)(hd:m.Dec)(ht:t+1<=640):(∀q∈(n.in_ m).outs,q.Sm (t+1))/\(n.in_ m).outs.length<=33000000:=by
 obtain⟨u,x⟩:=n
 cases u with
 |true=>have:=(Uu hc (h.2 rfl) hm hd ht (by omega) (by omega)).2;exact⟨this.out,by have:=this.outl;show(x.in_ m).out.length<=_;omega⟩
 |false=>exact⟨fun _ e=>(by cases e),Af _⟩
theorem Fz.St.tkOk(hc:c.Sm)(h:n.St c t)(ht:t+1<=640):n.up=true->n.x.TicOk 0 N0 (1+8*t+8):=fun b=>(MH hc (h.2 b) ht (by omega) (by omega)).1
theorem Fz.St.tkOut(hc:c.Sm)(h:n.St c t)(ht:t+1<=640):(∀q∈n.tick.outs,q.Sm (t+1))/\n.tick.outs.length<=33000000:=by
 obtain⟨u,x⟩:=n
 cases u with
 |true=>have:=(MH hc (h.2 rfl) ht (by omega) (by omega)).2;exact⟨this.out,by have:=this.outl;show x.tick.out.length<=_;omega⟩
 |false=>exact⟨fun _ e=>(by cases e),Af _⟩
end
theorem QT.setN2{K:Ed}{L:PL}{r:CI}{ecs:V_}{ks:List EK}(hp:QT K L r ecs ks)(i:Nat)(n:Fz):QT K L (r.setN i n) ecs ks:=
 ⟨hp.dps,hp.ks,hp.qs,by show(r.nds.set i n).length=_;rw[AQ];exact hp.nn,hp.kn,hp.ev⟩
theorem QT.setC2{K:Ed}{L:PL}{r:CI}{ecs:V_}{ks:List EK}(hp:QT K L r ecs ks)(i:Nat)(n:De):QT K L (r.setC i n) ecs ks:=
 ⟨hp.dps,hp.ks,hp.qs,hp.nn,by show(r.cls.set i n).length=_;rw[AQ];exact hp.kn,hp.ev⟩
theorem WX(q:Nat)(S:N_)(L:PL)(x:De)(c:CfM)(b:Nat)(hx:x.St c b)(hb:b<800000)(m:Db)(hd:m.Dec)(e d:Value)(hl:EI L e m.list)(hdv:Bs L d m.data):
  Sp P0 137 [Cr q,.agg (GL m e d).toArray] [cm S (GS q L x),pool L] fun v h=>v= .tuple #[]/\∃L' f,Le L L'/\h=[cm f (GS q L' (x.in_ m)),pool L']:=by
 cases h:x.txn with
 |none=>exact Vz q S L x h m e d hl hdv
 |some t=>
  have hg:=hx.fit.txn t h
  have he:=hx.fit.events;have h3:=hx.id3
  exact Vm q S L x t h b hx.fit.post (by omega) hg.fit hg.cur (by omega) (by omega) m e d hl hdv (by have:=hd.data;omega) (hd.nums m.view (by simp[Db.nums])).2 (QaA hx.fit.post (hd.nums m.from_ (by simp[Db.nums]))) (Pw hg _).1.fit
theorem KL(r:CI)(i:Nat)(x y:De):(r.setC i y).doneC i x=r.doneC i x:=by
 unfold CI.doneC CI.setC
 rw[List.set_set]
theorem UQ(K:Ed)(S:N_)(L:PL)(r:CI)(c:CfM)(t:Nat)(hc:c.Sm)(h:r.St c t)(ht:t+1<=640)(to:Int)(hto:0<=to/\to<=1099511627776)(Y:A_)(Z:Nat)(b:N_)(hB:Bs L (.slice Y b.length Z) b)(hb:VO t b):
  Sp P0 74 [Cr K.p,Cs to,.slice Y b.length Z] [cm S (FF K L r),pool L] fun v h=>v= .tuple #[]/\∃L' S',Le L L'/\h=[cm S' (FF K L' (r.come to b)),pool L']:=by
 obtain⟨p,I,E,F,J,D,N,H,e,o,f,u⟩:=K
 obtain⟨hz,hm,hd⟩:=hb.read
 have hbl:=hb.byt.1
 refine Sq Tryz.func74 fun w0 b_=>?_
 refine OA 3 ?_
 refine Oc rfl (en 135) rfl (.p1 .d) (SE Y Z b L hB (by omega)) ?_
 rintro _ _ ⟨L1,cs,M,rfl,⟨lv,dv,rfl,hlv,hdv⟩,rfl⟩
 obtain⟨m,R⟩:∃m,m=(Hh b).1:=⟨_,rfl⟩
 rw[<-R]at hm hd hlv hdv ⊢
 obtain⟨xa,xc,rfl,_,_⟩:=hlv.sh
 obtain⟨ya,yc,rfl,_,_⟩:=hdv.sh
 rw[hz]
 refine OA 3 ?_
 refine O6 (YQ JQ) fun b6=>?_
 refine OA 9 ?_
 refine CH rfl (fun G=>absurd rfl G) fun G=>?_
 refine OA 8 ?_
 refine Ti (Cv.up (B:=FF (⟨p,I,E,F,J,D,N,H,e,o,f,u⟩:Ed) L1 r) s0 (FF.le M)) (Cx (Zr (.p0 .d)) ?_)
 rintro _ ⟨va,vc,ecs,ks,S3,S4,S5,hp,rfl⟩
 dsimp only[Lw,NZ,QM]
 have hnn:r.nds.length=e:=hp.nn
 have hkn:r.cls.length=o:=hp.kn
 have a5:e<=3:=by have:=h.nn;have:=hc.nodes;omega
 have a4:o<=3:=by have:=h.kn;have:=hc.clients;omega
 have hcm:r.come to b=if 1<=to/\to<=e then r.inN (to-1).toNat m else if 101<=to/\to<=100+o then r.inC (to-101).toNat m else r:=by
  unfold CI.come
  rw[Aa (fun q=>q hz),hnn,hkn,R]
 obtain⟨r1,s⟩:∃r1,r1=if 1<=to/\to<=e then r.inN (to-1).toNat m else r:=⟨_,rfl⟩
 refine Ts (CQ 29 (1<=to/\to<=e) ?_ ?_)
 ·refine OA 4 ?_
  refine CJ 21 rfl (fun U=>?_) (fun U=>?_)
  ·refine OA 9 ?_
   exact Ex
  refine OA 9 ?_
  exact Ex
 refine CP (fun((L2,W):PL×N_)=>[(0,Cr p),(1,Cs to),(6,Cr b6)]) (fun(L2,W)=>[blk b6 (.cells (GL m (.slice xa m.list.length xc) (.slice ya m.data.length yc)).toArray 138 (0,0)),cm W (FF (⟨p,I,E,F,J,D,N,H,e,o,f,u⟩:Ed) L2 r1),pool L2]) (fun(L2,W)=>Le L1 L2) ?_ ?_
 ·refine Cy rfl (fun A=>?_) (fun A=>?_)
  ·obtain⟨i,rfl⟩:∃i:Nat,to=(i:Int)+1:=⟨(to-1).toNat,by omega⟩
   obtain⟨n,hn⟩:∃n,r.nds[i]? =some n:=⟨_,Ae (by rw[show r.nds.length=e from hp.nn];omega)⟩
   obtain⟨k,hk⟩:∃k,ks[i]? =some k:=⟨_,Ae (by rw[show ks.length=e from hp.ks];omega)⟩
   have Q:(ks.map EK.v)[i]? =some k.v:=by rw[Aq,hk];rfl
   have hst:=h.nd i n hn
   have hio:=hst.inOut hc hm hd ht
   refine Cx (ZC (.p8 .d) hk hn) ?_
   rintro _ ⟨P,S7,rfl⟩
   refine CO (fun w hw=>hw.sqNN (ao:=J) at4 (by show 0<e;omega)) fun⟨g,hgg⟩=>?_
   subst hgg
   refine Ts (Cw (.s (.t (.t (.s (.t .d))))) rfl (fun j=>false) ?_)
   intro a2
   refine DA [0,1,2,3,4] ?_
   refine D1 5 rfl (Zj i rfl rfl rfl u66 rfl (by omega) (by show i<e;omega)) ?_
   refine D1 6 rfl (YV u33 Q) ?_
   refine D1 7 rfl (ZX 12 u138) ?_
   refine Da 8 ?_
   refine DB rfl rfl (en 136) rfl (.p9 (.p0 .d)) (nin_spec k P L1 n m 0 N0 (1+8*t) (hst.inOk hc hm hd ht) _ _ hlv hdv) ?_
   rintro _ _ ⟨rfl,L2,X,d,rfl⟩
   refine ys (OA 8 ?_)
   refine O1 (Zj i rfl rfl rfl u66 rfl (by omega) (by show i<e;omega)) ?_
   refine O1 (YV u33 Q) ?_
   refine Oc rfl (en 22) rfl (.p9 .d) (Iz k X L2 (n.in_ m)) ?_
   rintro _ _ ⟨S9,oa,oc,mcs,rfl,a1,rfl⟩
   refine Oi (Cv.up (B:=DH (Ee L2) (ks.eraseIdx i) (r.nds.eraseIdx i)) s8 (fun _ h=>h.mono fun _ _ _ h=>Ee.le d _ _ _ h)) ?_
   refine CL (ZN (.p10 (.p8 .d)) (Ab.1 hk).1 (Ab.1 hn).1) ?_
   rintro _ ⟨S10,rfl⟩
   rw[Dc hk]
   refine CL (Zk (K:=(⟨p,I,E,F,some ⟨g,0,none⟩,D,N,H,e,o,f,u⟩:Ed)) (r:=r.setN i (n.in_ m).took) (L:=L2) (.p1 (.p1 (.p1 (.p1 (.p1 (.p1 (.p4 (.p1 .d)))))))) (hp.setN2 _ _) d (.refl _) d d) ?_
   rintro _ ⟨S11,rfl⟩
   refine Oc rfl (en 21) rfl (.p3 (.p1 (.p1 .d))) (Hw (⟨p,I,E,F,some ⟨g,0,none⟩,D,N,H,e,o,f,u⟩:Ed) S11 L2 (r.setN i (n.in_ m).took) (t+1) (40000000*t) (h.net.le (AL t) (Al _)) (n.in_ m).outs (by have:=hio.2;omega) hio.1 oa oc mcs a1) ?_
   rintro _ _ ⟨rfl,O,S12,l,rfl⟩
   refine On ?_
   rw[show(r.setN i (n.in_ m).took).sends (n.in_ m).outs=r1 by rw[s,Ah A,show((i:Int)+1-1).toNat=i by omega,inN_eq hn];rfl]
   exact⟨(O,S12),d.trans l,Sb3,.refl _⟩
  refine Tx (Zk (K:=(⟨p,I,E,F,J,D,N,H,e,o,f,u⟩:Ed)) (r:=r) (L:=L1) (.p2 (.p2 (.p2 (.p2 (.p2 (.p2 (.p2 (.p2 .d)))))))) hp (.refl _) (.refl _) (.refl _) (.refl _)) fun P=>Tp (.t1 (.t1 (.t0 .e))) (Tk ?_)
  rw[show r=r1 by rw[s,Aa A]]
  exact⟨(L1,P),.refl _,Sb3,.refl _⟩
 clear hp va vc ecs ks S3 S4 S5
 rintro⟨L2,W⟩ d
 replace d:Le L1 L2:=d
 conv=>arg 4;dsimp only
 conv=>arg 5;dsimp only
 refine OA 7 ?_
 refine Cx (Zr (.p1 .d)) ?_
 rintro _ ⟨va,vc,ecs,ks,S3,S4,S5,hp,rfl⟩
 dsimp only[Lw,NZ,QM]
 refine Ts (CQ 62 (101<=to/\to<=100+o) ?_ ?_)
 ·refine OA 4 ?_
  refine CJ 54 rfl (fun V=>?_) (fun V=>?_)
  ·refine OA 9 ?_
   exact Ex
  refine OA 9 ?_
  exact Ex
 refine Cy rfl (fun C=>?_) (fun C=>?_)
 ·have s:r1=r:=by rw[s,Aa (by omega)]
  subst s
  obtain⟨i,rfl⟩:∃i:Nat,to=(i:Int)+101:=⟨(to-101).toNat,by omega⟩
  obtain⟨x,hx⟩:∃n,r1.cls[i]? =some n:=⟨_,Ae (by rw[show r1.cls.length=o from hp.kn];omega)⟩
  obtain⟨q,hq⟩:∃q,u[i]? =some q:=⟨_,Ae (by rw[show u.length=o from hp.qs];omega)⟩
  have T:(u.map DG)[i]? =some (Cr q):=by rw[Aq,hq];rfl
  have hst:=h.cl i x hx
  refine Cx (ZC (.p9 .d) hq hx) ?_
  rintro _ ⟨P,S7,rfl⟩
  refine Tx (Cv.clU (.p9 .d)) fun X=>CO (fun w hw=>hw.sqNN (ao:=N) at5 (by omega)) fun⟨g,hgg⟩=>?_
  subst hgg
  refine Ts (Cw (.t (.s (.t (.s2 (.t .d))))) rfl (fun j=>false) ?_)
  intro a2
  refine DA [0,1,2,3,4] ?_
  refine D1 5 rfl (Zj i rfl rfl rfl u67 rfl (by omega) (by omega)) ?_
  refine D1 6 rfl (YV u75 T) ?_
  refine D1 7 rfl (ZX 12 u138) ?_
  refine Da 8 ?_
  refine DB rfl rfl (en 137) rfl (.p10 (.p1 .d)) (WX q X L2 x c _ hst (by omega) m hd _ _ (hlv.le d) (hdv.le d)) ?_
  rintro _ _ ⟨rfl,O,S9,l,rfl⟩
  refine ys (OA 8 ?_)
  refine O1 (Zj i rfl rfl rfl u67 rfl (by omega) (by omega)) ?_
  refine O1 (YV u75 T) ?_
  obtain⟨y,hy⟩:∃y,y=x.in_ m:=⟨_,rfl⟩
  have hys:=hst.in_ hd
  rw[<-hy]at hys ⊢
  have hyp:=hys.fit.post.out;have hye:=hys.fit.events;have hre:=h.ev
  have a3:(r1.setC i y).cls[i]? =some y:=by show(r1.cls.set i y)[i]? =_;rw[Bj (Ab.1 hx).1]
  refine Oi (Cv.up (B:=Eg O q y) s9 Eg.of) ?_
  refine Oi (Cv.up (B:=DH (Eg O) (u.eraseIdx i) (r1.cls.eraseIdx i)) s8 (fun _ h=>h.mono fun _ _ _ h=>Eg.le l _ _ _ h)) ?_
  refine CL (ZN (.p9 (.p8 .d)) (Ab.1 hq).1 (Ab.1 hx).1) ?_
  rintro _ ⟨S10,rfl⟩
  rw[Dc hq]
  refine CL (Zk (K:=(⟨p,I,E,F,J,D,some ⟨g,0,none⟩,H,e,o,f,u⟩:Ed)) (r:=r1.setC i y) (L:=O) (.p1 (.p1 (.p1 (.p1 (.p1 (.p1 (.p1 (.p2 .d)))))))) (hp.setC2 _ _) l l (.refl _) l) ?_
  rintro _ ⟨S11,rfl⟩
  refine Oc rfl (en 24) rfl (.p2 (.p1 .d)) (HQ (⟨p,I,E,F,J,D,some ⟨g,0,none⟩,H,e,o,f,u⟩:Ed) S11 O (r1.setC i y) (t+1) (40000000*t) i q y hq a3 (h.net.le (AL t) (Al _)) (by omega) (fun m hm=>(hys.post.out m hm).le (Af _)) (by show r1.ev.length+_<=_;omega)) ?_
  rintro _ _ ⟨rfl,L4,S12,a0,rfl⟩
  refine On (Ef rfl (.cons _ (.refl _)) ⟨rfl,L4,S12,M.trans (d.trans (l.trans a0)),?_⟩)
  rw[KL,hcm,Aa (by omega),Ah C,show((i:Int)+101-101).toNat=i by omega]
  unfold CI.inC
  rw[hx,hy]
  rfl
 refine Tx (Zk (K:=(⟨p,I,E,F,J,D,N,H,e,o,f,u⟩:Ed)) (r:=r1) (L:=L2) (.p2 (.p2 (.p2 (.p2 (.p2 (.p2 (.p2 (.p2 .d)))))))) hp (.refl _) (.refl _) (.refl _) (.refl _)) fun P=>Tp (.t2 (.t1 .e)) (Tk (Ef rfl (.refl _) ⟨rfl,L2,P,M.trans d,?_⟩))
 rw[hcm,Aa C,<-s]
theorem Ct.remT{P:Program}{n:Nat}{w0:World}{b_:N_}{l:Dh}{hs:Mem}{o:Oper}{t t':TypeId}{x y:Operand}{i j:Int}(hj:0<j)(ho:o.op= .binOp .rem t x y t':=by rfl)(hx:ev l x=some (Cs i):=by rfl)(hy:ev l y=some (Cs j):=by rfl):Ct P n w0 b_ hs l o (Cs (i.tmod j)):=
 Zs ho hx hy fun w=>by
  have b:¬j=0:=by omega
  simp only[binOp,Op.intDiv,ne_eq,not_true_eq_false,if_false,b]
  rfl
theorem tmod_mod{x y:Int}(hy:1<=y):(-y<x.tmod y/\x.tmod y<y)/\(x.tmod y+y)%y=x%y:=by
 refine⟨⟨Int.lt_tmod_of_pos x (by omega),Int.tmod_lt_of_pos x (by omega)⟩,?_⟩
 rw[Int.tmod_def,show x-y*x.tdiv y+y=x+y*(1-x.tdiv y) by rw[Int.mul_sub,Int.mul_one];omega]
 exact Int.add_mul_emod_self_left ..
theorem Nn(K:Ed)(S:N_)(L:PL)(r:CI)(c:CfM)(t:Nat)(hc:c.Sm)(h:r.St c t)(ht:t+1<=640)(l k:Int)(hl:QK l):
  Sp P0 28 [Cr K.p,gA (FB l),Cs k] [cm S (FF K L r),pool L] fun v h=>v= .bool (r.net.take_ l k).2.2/\∃L' g,Le L L'/\h=[cm g (FF K L' (r.take_ l k)),pool L']:=by
 have hnt:=h.net.take_ l k
 have hlk:=hl
 unfold QK at hlk
 obtain⟨T,f⟩:∃T,T=r.net.take_ l k:=⟨_,rfl⟩
 have htk:r.take_ l k=if T.2.2=true then (r.setT T.1).come (GM l) T.2.1 else r.setT T.1:=by rw[f];rfl
 rw[htk]
 have hsp:=fun S=>Uh K.np S L r.net _ h.net.fit (by omega) l k (by omega)
 rw[<-f]at hsp hnt ⊢
 refine Sq Tryz.func28 fun w0 b_=>?_
 refine Cx (Zr (.p0 .d)) ?_
 rintro _ ⟨w,x,ecs,ks,i,p,s,hp,rfl⟩
 refine OA 2 ?_
 refine O6 YR fun b4=>?_
 refine OA 3 ?_
 refine Cw (.s (.t (.s7 (.t .d)))) rfl (fun j=>false) ?_
 intro o
 refine DA [0,1,2,3,4,5] ?_
 refine Da 6 ?_
 refine DB rfl rfl (en 73) rfl (.p6 .d) (hsp i) ?_
 rintro _ _ ⟨a,n,rfl,hB,u,rfl⟩
 refine ys (DA [7,8,9,10,11] ?_)
 refine D0 (Tx (Zk (K:=K) (r:=r.setT T.1) (L:=L) (.p1 (.p1 (.p1 (.p1 (.p1 (.p4 (.p1 (.p1 .d)))))))) ⟨hp.dps,hp.ks,hp.qs,hp.nn,hp.kn,hp.ev⟩ (.refl _) (.refl _) (.refl _) (.refl _)) fun e=>OA 5 ?_)
 refine CE rfl (fun b=>?_) (fun b=>?_)
 ·rw[Ah b]
  refine OA 5 ?_
  refine Oc rfl (en 74) rfl (.p2 (.p0 .d)) (UQ K e L (r.setT T.1) c t hc (h.setT (hnt.2 b).2) ht (GM l) hlk.2 a n T.2.1 hB (hnt.2 b).1) ?_
  rintro _ _ ⟨rfl,L2,m,d,rfl⟩
  refine OA 6 ?_
  exact Cu (CB rfl rfl (.cons _ (.refl _)) ⟨rfl,L2,m,d,rfl⟩)
 rw[Aa (fun q=>by rw[q]at b;cases b)]
 refine Tp (.t2 (.t0 .e)) (OA 6 ?_)
 exact Cu (Rr ⟨rfl,L,e,.refl _,rfl⟩)
theorem PJ(x y:Int)(hy:1<=y/\y<=1000000):Sp P0 26 [Cs x,Cs y] [] fun v h=>v= Cs (x%y)/\h=[]:=by
 refine Sq Tryz.func26 fun w0 b_=>?_
 have hm:=tmod_mod (x:=x) hy.1
 refine OA 8 ?_
 refine O1 (Ct.remT (show 0<y by omega)) ?_
 refine OA 3 ?_
 refine O1 (YK (Ct.rem rfl rfl rfl (by omega) (by omega)) (congrArg (Value.int .i64) hm.2)) ?_
 refine OA 2 ?_
 exact Cu (Rr ⟨rfl,rfl⟩)
theorem nd_v(k:EK)(L:PL)(n:Fz)(rs:Mem)(h:Ee L k n rs):n.up=false->k.v= .pointer none:=fun b=>by
 unfold Ee at h
 split at h
 ·rename_i e;exact Sy e
 ·rw[h.1]at b;cases b
theorem TZ(K:Ed)(S:N_)(L:PL)(r:CI)(i:Nat)(ev:Value)(ks:List EK)(k:EK)(n:Fz)(hk:ks[i]? =some k)(hn:K.n<=7)(hi:i<K.n):
  Sp P0 7 [Cr K.p,Cs ((i:Int)+1)] [NZ K r ev,sq K.ca K.n K.cc 33 1 (ks.map EK.v),cm S (Ee L k n)] fun v h=>v=k.v/\∃d,h=[NZ K r ev,sq K.ca K.n K.cc 33 1 (ks.map EK.v),cm d (Ee L k n)]:=by
 obtain⟨p,A,q,s,j,o,u,x,y,t,l,C⟩:=K
 have c:(ks.map EK.v)[i]? =some k.v:=by rw[Aq,hk];rfl
 dsimp only at*
 refine Sq Tryz.func7 fun w0 b_=>?_
 refine CO (fun w hw=>hw.sqNN (ao:=j) at1 (by omega)) fun⟨g,hgg⟩=>?_
 subst hgg
 refine OA 8 ?_
 refine O1 (YK (v':=.bool false) (Zh rfl rfl rfl u31) rfl) ?_
 refine OA 2 ?_
 refine O1 (YK (v':=.bool false) (Ct.lss rfl rfl rfl) (by simp;omega)) ?_
 refine OA 8 ?_
 refine O1 (YK (v':=.bool false) (Ct.gtr rfl rfl rfl) (by simp;omega)) ?_
 refine OA 8 ?_
 refine O1 (Zj i rfl rfl rfl u66 rfl (by omega) (by omega)) ?_
 refine O1 (YV u33 c) ?_
 refine Oc rfl (en 18) rfl (.p2 .d) (Jp k S L n) ?_
 rintro _ _ ⟨rfl,e,rfl⟩
 refine OA 2 ?_
 refine CE rfl (fun b=>?_) (fun b=>?_)
 ·have m:n.up=false:=by cases h:n.up with
   |true=>rw[h]at b;cases b
   |false=>rfl
  refine Cx (Cv.kn (ι:=Unit) (B:=fun _=>Ee L k n) (Q:=fun _=>k.v= .pointer none) (.p2 .d) fun rs h=>⟨(),nd_v k L n rs h m,h⟩) ?_
  rintro _ ⟨_,f,hkn,rfl⟩
  refine OA 4 ?_
  exact Cu (CB rfl rfl (.refl _) ⟨hkn.symm,f,rfl⟩)
 refine OA 9 ?_
 refine O1 (Zj i rfl rfl rfl u66 rfl (by omega) (by omega)) ?_
 refine O1 (YV u33 c) ?_
 refine OA 2 ?_
 exact Cu (Rr ⟨rfl,e,rfl⟩)
theorem Vg(K:Ed)(r:CI)(i b:Nat)(ev:Value)(hk:K.dps[i]? =some b)(hn:K.n<=7)(hi:i<K.n):
  Sp P0 12 [Cr K.p,Cs ((i:Int)+1)] [NZ K r ev,sq K.da K.n K.dc 49 1 (K.dps.map DG)] fun v h=>v= .pointer (some ⟨b,0,none⟩)/\h=[NZ K r ev,sq K.da K.n K.dc 49 1 (K.dps.map DG)]:=by
 obtain⟨p,q,e,k,f,j,m,n,o,l,c,s⟩:=K
 have d:(c.map DG)[i]? =some (Cr b):=by rw[Aq,hk];rfl
 dsimp only at*
 refine Sq Tryz.func12 fun w0 b_=>?_
 refine CO (fun w hw=>hw.sqNN (ao:=e) at1 (by omega)) fun⟨g,hgg⟩=>?_
 subst hgg
 refine OA 8 ?_
 refine O1 (YK (v':=.bool false) (Zh rfl rfl rfl u31) rfl) ?_
 refine OA 2 ?_
 refine O1 (YK (v':=.bool false) (Ct.lss rfl rfl rfl) (by simp;omega)) ?_
 refine OA 8 ?_
 refine O1 (YK (v':=.bool false) (Ct.gtr rfl rfl rfl) (by simp;omega)) ?_
 refine OA 12 ?_
 refine O1 (Zj i rfl rfl rfl u65 rfl (by omega) (by omega)) ?_
 refine O1 (YV u49 d) ?_
 refine OA 2 ?_
 exact Cu (Rr ⟨rfl,rfl⟩)
def nd0:CR:=⟨0,⟨1,1,1,1,0,1,0,0,0,0,⟨1,1,1,0,0,0⟩⟩,⟨1,[],[]⟩,[],Du.new 1 1 1,0,[]⟩
def ZL(c:CfM)(i:Nat):CI:=⟨c,(List.range i).map fun(j:Nat)=>⟨true,YZ c ((j:Int)+1) ⟨1,[],[]⟩⟩,[],Dn.new,[]⟩
def QaR(c:CfM)(i:Nat):CI:=⟨c,(List.range c.nodes.toNat).map fun(j:Nat)=>⟨true,YZ c ((j:Int)+1) ⟨1,[],[]⟩⟩,(List.range i).map fun j=>De.new c (j+1),Dn.new,[]⟩
def CI.raw(c:CfM)(i:Nat):CI:={ZL c i with nds:=(ZL c i).nds++[⟨false,nd0⟩]}
theorem Kc(c:CfM)(i:Nat):(ZL c i).nds.length=i:=by
 show((List.range i).map fun(j:Nat)=>(⟨true,YZ c ((j:Int)+1) ⟨1,[],[]⟩⟩:Fz)).length=i
 rw[AP,Cd]
theorem raw_at(c:CfM)(i:Nat):(CI.raw c i).nds[i]? =some ⟨false,nd0⟩:=by
 show((ZL c i).nds++[⟨false,nd0⟩])[i]? =_
 rw[Bl (by rw[Kc];exact Al _),Kc,Cb];rfl
theorem set_last{α:Type}{xs:List α}{a b:α}{i:Nat}(h:xs.length=i):(xs++[a]).set i b=xs++[b]:=by
 subst h
 induction xs with
 |nil=>rfl
 |cons x xs ih=>show x::(xs++[a]).set xs.length b=_;rw[ih];rfl
def nd1(c:CfM)(j:Nat):Fz:=⟨true,YZ c ((j:Int)+1) ⟨1,[],[]⟩⟩
theorem XE(c:CfM)(i:Nat):(CI.raw c i).start i=ZL c (i+1):=by
 unfold CI.start
 rw[raw_at]
 have e:(ZL c (i+1)).nds=(ZL c i).nds++[nd1 c i]:=by
  show(List.range (i+1)).map (nd1 c)=(List.range i).map (nd1 c)++_
  rw[List.range_succ,AO];rfl
 show(⟨c,((ZL c i).nds++[(⟨false,nd0⟩:Fz)]).set i (nd1 c i),[],Dn.new,[]⟩:CI)=⟨c,(ZL c (i+1)).nds,[],Dn.new,[]⟩
 rw[e,set_last (Kc c i)]
theorem NT(c:CfM)(hc:c.Sm)(L:PL)(hG:GLB L):Sp P0 15 [.agg (cfv c).toArray] [pool L] fun v h=>∃K L' S',Le L L'/\K.n=c.nodes.toNat/\K.k=c.clients.toNat/\v= .tuple #[Cr K.p,Cs 0]/\h=[cm S' (FF K L' (CI.new c)),pool L']:=by
 have q1:=hc.ok.nodes;have q2:=hc.ok.clients;have q3:=hc.nodes;have q4:=hc.clients
 have hrm:=hc.room
 refine Sq Tryz.func15 fun w0 b_=>?_
 refine OA 2 ?_
 refine O6 YR fun b1=>?_
 refine OA 7 ?_
 refine O8 (Zd rfl (en 45) rfl (.p0 .d) (Iv c hc.ok L hG)) ?_
 refine OA 7 ?_
 refine CH rfl (fun E=>absurd rfl E) fun E=>?_
 refine OA 2 ?_
 refine Cw (.t .d) rfl (fun j=>false) ?_
 intro a3
 refine D1 0 rfl (ZX 16 u26) ?_
 refine Da 1 ?_
 refine D6 rfl (YP rfl (en 46) rfl (.d) (Uj)) ?_
 rintro _ _ ⟨_,⟨x,S1,rfl,rfl⟩,rfl⟩
 refine ys (D1 2 rfl (Xb bt70.h) ?_)
 refine Da 3 ?_
 refine D6 rfl YR ?_
 rintro _ _ ⟨X,rfl,rfl⟩
 refine ys (D1 4 rfl FC ?_)
 refine OA 8 ?_
 refine Ti (Cv.up (B:=Fi x L Dn.new) s2 (fun _ h=>h L)) (Tx (YL (a:=[]) .d (A:=DH (Ee L) [] []) DH.nil) fun u=>Tx (YL (a:=[]) .d (A:=DH (Eg L) [] []) DH.nil) fun W=>Tp (.t0 (.t0 (.t1 (.n (T:=49) (sz:=1) (.n (T:=33) (sz:=1) (.n (T:=75) (sz:=1) (.n (T:=62) (sz:=3) (.t0 (.t0 (.t0 .e)))))))))) ?_)
 obtain⟨p,a2⟩:∃p,p=X:=⟨_,rfl⟩
 subst a2
 obtain⟨K,N⟩:∃K,K=(⟨p,x,none,0,none,0,none,0,0,0,[],[]⟩:Ed):=⟨_,rfl⟩
 refine Tx (Zk (K:=K) (r:=ZL c 0) (L:=L) (ks:=[]) (ecs:=[]) (by rw[N];exact(.p2 (.p2 (.p2 (.p2 (.p2 (.p2 (.p2 (.p2 .d))))))))) (by rw[N];exact⟨rfl,rfl,rfl,rfl,rfl,.nil⟩) (.refl _) (.refl _) (.refl _) (.refl _)) fun P=>Tp (.t0 (.t1 (.t0 .e))) (Tb (CD (fun((i,K,L2,u):Nat×Ed×PL×N_)=>[(1,Cr b1),(5,Cr p),(20,Cs c.nodes),(21,Cs i)]) (fun(i,K,L2,u)=>[blk b1 (.cells (cfv c).toArray 26 (0,0)),cm u (FF K L2 (ZL c i)),pool L2]) (fun(i,K,L2,u)=>(i:Int)<=c.nodes/\Le L L2/\K.p=p/\K.n=i/\K.k=0) (fun(i,_)=>c.nodes.toNat-i) (0,K,L,P) ?_ ?_))
 ·exact⟨⟨by omega,.refl _,by rw[N],by rw[N],by rw[N]⟩,Sb4,.refl _⟩
 clear N u W P K
 rintro⟨i,K,L2,u⟩ ⟨hi,t,n,m,l⟩
 conv=>arg 7;dsimp only
 conv=>arg 8;dsimp only
 refine OA 5 ?_
 refine Cy rfl (fun R=>?_) (fun R=>?_)
 ·obtain⟨C,x,I,Z,H,Y,M,O,kn,s,k,w⟩:=K
  have n:C=p:=n
  have m:kn=i:=m
  have l:s=0:=l
  subst n m l
  refine Cx (Zr (.p1 .d)) ?_
  rintro _ ⟨va,vc,ecs,ks,W,P,S5,hp,rfl⟩
  dsimp only[Lw,NZ,QM]
  refine OA 9 ?_
  refine CP (fun((D,o,f,g,b,d):N_×Nat×A_×Nat×A_×Nat)=>[(1,Cr b1),(5,Cr C),(6,Cs kn),(20,Cs c.nodes),(21,Cs kn)]) (fun(D,o,f,g,b,d)=>[blk b1 (.cells (cfv c).toArray 26 (0,0)),pool L2,blk C (.cells (cfv c++[Value.slice f (kn+1) g,.slice b (kn+1) d,.slice M 0 O,Cr x,.slice va 0 vc]).toArray 70 (0,0)),sq f (kn+1) g 49 1 (k.map DG++[Value.pointer (some ⟨o,0,none⟩)]),sq b (kn+1) d 33 1 (ks.map EK.v++[Value.pointer none]),sq M 0 O 75 1 (w.map DG),sq va 0 vc 62 3 ecs,cm W (Fi x L2 Dn.new),cm P (DH (Ee L2) ks (ZL c kn).nds),cm S5 (DH (Eg L2) w []),cm D (DZ o ⟨⟨[],0,[],false⟩,⟨[],0,[],false⟩,c.room.toNat⟩)]) (fun _=>True) ?_ ?_
  ·refine Cw (.t (.s (.t .d))) rfl (fun j=>Nat.beq j 19 || Nat.beq j 20 || Nat.beq j 21 || Nat.beq j 22) ?_
   intro a3
   refine D1 0 rfl DC ?_
   refine D2 1 rfl (fun _=>DC) ?_
   refine DA [2,3,4,5,6,7] ?_
   refine DP [11,12,13] ?_
   refine D1 14 rfl (Zi u66) ?_
   refine Jy 8 15 ?_ ?_
   ·refine D6 rfl (YP rfl (en 47) rfl (.d) (Pg c.room (by omega) (by omega))) ?_
    rintro _ _ ⟨_,⟨o,D,rfl,rfl⟩,rfl⟩
    refine ys (Jy 9 15 ?_ ?_)
    ·refine D6 rfl (YY u65) ?_
     rintro _ _ ⟨Q,rfl,rfl⟩
     refine ys (Jy 10 15 ?_ ?_)
     ·refine D6 rfl (LO.app (ao:=I) el65) ?_
      rintro _ _ ⟨f,g,rfl,rfl⟩
      refine ys (Da 15 ?_)
      refine D6 rfl (YY u66) ?_
      rintro _ _ ⟨G,rfl,rfl⟩
      refine ys (Da 16 ?_)
      refine D6 rfl (LO.app (ao:=H) el66) ?_
      rintro _ _ ⟨b,d,rfl,rfl⟩
      refine ys (D2 17 rfl (fun _=>Hl) ?_)
      refine D1 18 rfl (Ct.fld 1 16 16 u70) ?_
      refine Da 19 ?_
      refine D8 rfl YO ?_
      refine DP [20,21] ?_
      refine Da 22 ?_
      refine Ew (YN (.t0 (.t0 (.t0 (.t0 (.t0 (.t0 (.t0 (.t0 (.t0 (.t0 (.t0 .e)))))))))))) ?_
      rintro _ rfl
      refine D8 rfl YO ?_
      refine D0 ?_
      exact⟨(D,o,f,g,b,d),trivial,Sb5,.refl _⟩
     refine D6 rfl (YY u66) ?_
     rintro _ _ ⟨G,rfl,rfl⟩
     refine ys (Da 10 ?_)
     refine D6 rfl (LO.app (ao:=I) el65) ?_
     rintro _ _ ⟨f,g,rfl,rfl⟩
     refine ys (Da 16 ?_)
     refine D6 rfl (LO.app (ao:=H) el66) ?_
     rintro _ _ ⟨b,d,rfl,rfl⟩
     refine ys (D2 17 rfl (fun _=>Hl) ?_)
     refine D1 18 rfl (Ct.fld 1 16 16 u70) ?_
     refine Da 19 ?_
     refine D8 rfl YO ?_
     refine DP [20,21] ?_
     refine Da 22 ?_
     refine Ew (YN (.t0 (.t0 (.t0 (.t0 (.t0 (.t0 (.t0 (.t0 (.t0 (.t0 (.t0 .e)))))))))))) ?_
     rintro _ rfl
     refine D8 rfl YO ?_
     refine D0 ?_
     exact⟨(D,o,f,g,b,d),trivial,Sb5,.refl _⟩
    refine D6 rfl (YY u66) ?_
    rintro _ _ ⟨G,rfl,rfl⟩
    refine ys (Da 9 ?_)
    refine D6 rfl (YY u65) ?_
    rintro _ _ ⟨Q,rfl,rfl⟩
    refine ys (Da 10 ?_)
    refine D6 rfl (LO.app (ao:=I) el65) ?_
    rintro _ _ ⟨f,g,rfl,rfl⟩
    refine ys (Da 16 ?_)
    refine D6 rfl (LO.app (ao:=H) el66) ?_
    rintro _ _ ⟨b,d,rfl,rfl⟩
    refine ys (D2 17 rfl (fun _=>Hl) ?_)
    refine D1 18 rfl (Ct.fld 1 16 16 u70) ?_
    refine Da 19 ?_
    refine D8 rfl YO ?_
    refine DP [20,21] ?_
    refine Da 22 ?_
    refine Ew (YN (.t0 (.t0 (.t0 (.t0 (.t0 (.t0 (.t0 (.t0 (.t0 (.t0 (.t0 .e)))))))))))) ?_
    rintro _ rfl
    refine D8 rfl YO ?_
    refine D0 ?_
    exact⟨(D,o,f,g,b,d),trivial,Sb5,.refl _⟩
   refine D6 rfl (YY u66) ?_
   rintro _ _ ⟨G,rfl,rfl⟩
   refine ys (Da 8 ?_)
   refine D6 rfl (YP rfl (en 47) rfl (.d) (Pg c.room (by omega) (by omega))) ?_
   rintro _ _ ⟨_,⟨o,D,rfl,rfl⟩,rfl⟩
   refine ys (Da 9 ?_)
   refine D6 rfl (YY u65) ?_
   rintro _ _ ⟨Q,rfl,rfl⟩
   refine ys (Da 10 ?_)
   refine D6 rfl (LO.app (ao:=I) el65) ?_
   rintro _ _ ⟨f,g,rfl,rfl⟩
   refine ys (Da 16 ?_)
   refine D6 rfl (LO.app (ao:=H) el66) ?_
   rintro _ _ ⟨b,d,rfl,rfl⟩
   refine ys (D2 17 rfl (fun _=>Hl) ?_)
   refine D1 18 rfl (Ct.fld 1 16 16 u70) ?_
   refine Da 19 ?_
   refine D8 rfl YO ?_
   refine DP [20,21] ?_
   refine Da 22 ?_
   refine Ew (YN (.t0 (.t0 (.t0 (.t0 (.t0 (.t0 (.t0 (.t0 (.t0 (.t0 (.t1 .e)))))))))))) ?_
   rintro _ rfl
   refine D8 rfl YO ?_
   refine D0 ?_
   exact⟨(D,o,f,g,b,d),trivial,Sb5,.refl _⟩
  rintro⟨D,o,f,g,b,d⟩ _
  conv=>arg 4;dsimp only
  conv=>arg 5;dsimp only
  have a1:Yk nd0.log ⟨⟨[],0,[],false⟩,⟨[],0,[],false⟩,c.room.toNat⟩:=.inr ⟨by rw[hrm];rfl,rfl⟩
  refine Ti (Cv.up (B:=Ee L2 ⟨o,none⟩ ⟨false,nd0⟩) s10 (QaE a1)) (Tx (Qau (.p10 (.p8 .d))) fun S10=>?_)
  rw[show k.map DG++[Value.pointer (some ⟨o,0,none⟩)]=(k++[o]).map DG by rw[AO];rfl,show ks.map EK.v++[Value.pointer none]=(ks++[(⟨o,none⟩:EK)]).map EK.v by rw[AO];rfl]
  refine Tx (Zk (K:=(⟨C,x,f,g,b,d,M,O,kn+1,0,k++[o],w⟩:Ed)) (r:=CI.raw c kn) (L:=L2) (.p2 (.p2 (.p2 (.p2 (.p2 (.p2 (.p3 (.p2 .d)))))))) ⟨by show k++[o]=(ks++[(⟨o,none⟩:EK)]).map EK.dp;rw[AO,show k=ks.map EK.dp from hp.dps];rfl,by show(ks++[_]).length=kn+1;rw[Ac,show ks.length=kn from hp.ks];rfl,hp.qs,by show((ZL c kn).nds++[_]).length=kn+1;rw[Ac,Kc];rfl,hp.kn,hp.ev⟩ (.refl _) (.refl _) (.refl _) (.refl _)) fun S11=>OA 3 ?_
  refine Oc rfl (en 34) rfl (.p2 (.p1 .d)) (LI (⟨C,x,f,g,b,d,M,O,kn+1,0,k++[o],w⟩:Ed) S11 L2 (CI.raw c kn) kn 0 1 ⟨false,nd0⟩ (raw_at c kn) rfl (hG.le t) hc (lg0_st c) (by omega) (by show(kn:Int)+1<=c.nodes;omega)) ?_
  rintro _ _ ⟨rfl,L3,S12,a0,rfl⟩
  refine OA 5 ?_
  exact⟨(kn+1,(⟨C,x,f,g,b,d,M,O,kn+1,0,k++[o],w⟩:Ed),L3,S12),⟨⟨by omega,t.trans a0,rfl,rfl,rfl⟩,⟨rfl,rfl,rfl,Dd rfl (by omega),trivial⟩,by dsimp only;rw[XE];exact .refl _⟩,by simp only;omega⟩
 have J:i=c.nodes.toNat:=by omega
 subst J
 rw[show ZL c c.nodes.toNat=QaR c 0 from rfl]
 refine OA 9 ?_
 refine CD (fun((i,K,L2,u):Nat×Ed×PL×N_)=>[(1,Cr b1),(5,Cr p),(50,Cs c.clients),(51,Cs i)]) (fun(i,K,L2,u)=>[blk b1 (.cells (cfv c).toArray 26 (0,0)),cm u (FF K L2 (QaR c i)),pool L2]) (fun(i,K,L2,u)=>(i:Int)<=c.clients/\Le L L2/\K.p=p/\K.n=c.nodes.toNat/\K.k=i) (fun(i,_)=>c.clients.toNat-i) (0,K,L2,u) ?_ ?_
 ·exact⟨⟨by omega,t,n,m,l⟩,Sb4,.refl _⟩
 clear n m l t K u L2
 rintro⟨i,K,L2,u⟩ ⟨hi,t,n,m,l⟩
 conv=>arg 7;dsimp only
 conv=>arg 8;dsimp only
 refine OA 5 ?_
 refine Cy rfl (fun S=>?_) (fun S=>?_)
 ·obtain⟨C,x,I,Z,H,Y,M,O,kn,s,k,w⟩:=K
  have n:C=p:=n
  have m:kn=c.nodes.toNat:=m
  have l:s=i:=l
  subst n l
  have hG2:=hG.le t
  refine OA 12 ?_
  refine O1 (YT (y:=((s+1:Nat):Int)) (Ct.add rfl rfl rfl (by omega) (by omega)) (by omega)) ?_
  refine Oc rfl (en 48) rfl (.p2 .d) (UW c hc.ok (s+1) (by omega) (by omega) L2 hG2) ?_
  rintro _ _ ⟨q,W,rfl,rfl⟩
  refine OA 12 ?_
  refine CH rfl (fun F=>absurd rfl F) fun F=>?_
  refine Tk (Cx (Zr (.p1 .d)) ?_)
  rintro _ ⟨va,vc,ecs,ks,P,S5,S6,hp,rfl⟩
  dsimp only[Lw,NZ,QM]
  refine OA 7 ?_
  refine O6 (YY u67) fun a4=>?_
  refine O2 (LO.app (ao:=M) el67) ?_
  rintro _ _ ⟨U,V,rfl,rfl⟩
  refine OA 4 ?_
  refine Ti (Cv.up (B:=Eg L2 q (De.new c (s+1))) s2 Eg.of) (Tx (Qau (.p2 (.p9 .d))) fun S7=>?_)
  have e:(QaR c s).cls++[De.new c (s+1)]=(QaR c (s+1)).cls:=by
   show(List.range s).map (fun j=>De.new c (j+1))++_=(List.range (s+1)).map _
   rw[List.range_succ,AO];rfl
  rw[e,show w.map DG++[Value.pointer (some ⟨q,0,none⟩)]=(w++[q]).map DG by rw[AO];rfl]
  refine Tx (Zk (K:=(⟨C,x,I,Z,H,Y,U,V,kn,s+1,k,w++[q]⟩:Ed)) (r:=QaR c (s+1)) (L:=L2) (.p2 (.p2 (.p2 (.p2 (.p2 (.p2 (.p2 (.p3 .d)))))))) ⟨hp.dps,hp.ks,by show(w++[q]).length=s+1;rw[Ac,show w.length=s from hp.qs];rfl,hp.nn,by show(List.map _ (List.range (s+1))).length=_;rw[AP,Cd],hp.ev⟩ (.refl _) (.refl _) (.refl _) (.refl _)) fun S8=>Tp (.t0 (.t2 (.t0 .e))) (OA 4 ?_)
  exact⟨(s+1,(⟨C,x,I,Z,H,Y,U,V,kn,s+1,k,w++[q]⟩:Ed),L2,S8),⟨⟨by omega,t,rfl,m,rfl⟩,⟨rfl,rfl,rfl,Dd rfl (by omega),trivial⟩,.refl _⟩,by simp only;omega⟩
 have J:i=c.clients.toNat:=by omega
 subst J
 subst n
 refine Tp (.t1 (.t1 .e)) (OA 7 ?_)
 exact Cu (Dq rfl rfl rfl (.refl _) ⟨K,L2,u,t,m,l,rfl,rfl⟩)
theorem WS(a b:A_)(c d:Nat)(xs ys:N_)(L:PL)(hx:Bs L (.slice a xs.length c) xs)(hy:Bs L (.slice b ys.length d) ys):
  Sp P0 14 [.slice a xs.length c,.slice b ys.length d] [pool L] fun v h=>v= .bool (decide (xs=ys))/\h=[pool L]:=by
 refine Sq Tryz.func14 fun w0 b_=>?_
 have e:((Sa xs).toList == (Sa ys).toList)=decide (xs=ys):=by
  rw[IY,IY,Bool.eq_iff_iff]
  simp[KW hy.2 hx.2]
 refine OA 7 ?_
 refine O1 (Ct.b2s (Reads.pool hx.1) u53 u5 u9) ?_
 refine O1 DC ?_
 refine O1 (Ct.b2s (Reads.pool hy.1) u53 u5 u9) ?_
 refine O1 (YK (Ct.eqlStr rfl rfl rfl) (congrArg Value.bool e)) ?_
 refine OA 2 ?_
 exact Cu (Rr ⟨rfl,rfl⟩)
theorem Qf(K:Ed)(S:N_)(L:PL)(r:CI)(hl:r.ev.length<=100000000)(ho:∀e∈r.ev,e.ops.length<=1000000):
  Sp P0 17 [Cr K.p] [cm S (FF K L r),pool L] fun v h=>∃oa oc b L' x,Le L L'/\v= .slice oa r.ev.length oc/\Rws (Iq L') b r.ev/\h=[cm x (FF K L' r),pool L',sq oa r.ev.length oc 62 3 b]:=by
 refine Sq Tryz.func17 fun w0 b_=>?_
 refine Cx (Zr (.p0 .d)) ?_
 rintro _ ⟨t,u,ecs,ks,y,A,B,hp,rfl⟩
 refine OA 8 ?_
 refine O1 (YK (v':=.bool false) (Zh rfl rfl rfl u31) rfl) ?_
 refine OA 17 ?_
 refine Tp (.t1 (.t1 (.t1 (.t1 (.t1 (.t1 (.t1 (.t1 (.t0 (.n (T:=62) (sz:=3) .e)))))))))) (Tb (CD (fun((i,L2,oa,oc,b):Nat×PL×A_×Nat×V_)=>[(0,Cr K.p),(3,.slice oa i oc),(11,.slice t r.ev.length u),(12,Cs r.ev.length),(13,Cs i)]) (fun(i,L2,oa,oc,b)=>[NZ K r (.slice t r.ev.length u),sq K.da K.n K.dc 49 1 (K.dps.map DG),sq K.ca K.n K.cc 33 1 (ks.map EK.v),sq K.la K.k K.lc 75 1 (K.qs.map DG),sq t r.ev.length u 62 3 ecs,cm y (Fi K.np L r.net),cm A (DH (Ee L) ks r.nds),cm B (DH (Eg L) K.qs r.cls),pool L2,sq oa i oc 62 3 b]) (fun(i,L2,oa,oc,b)=>i<=r.ev.length/\Le L L2/\Rws (Iq L2) b (r.ev.take i)) (fun(i,_)=>r.ev.length-i) (0,L,none,0,[]) ?_ ?_))
 ·exact⟨⟨Af _,.refl _,.nil⟩,Sb5,.refl _⟩
 rintro⟨i,L2,oa,oc,b⟩ ⟨hi,c,f⟩
 conv=>arg 7;dsimp only
 conv=>arg 8;dsimp only
 refine OA 5 ?_
 refine Cy rfl (fun n=>?_) (fun n=>?_)
 ·obtain⟨e,d⟩:∃e,r.ev[i]? =some e:=⟨_,Ae (by omega)⟩
  obtain⟨E,⟨I,rfl,m⟩,l⟩:=hp.ev.at (s:=3) Iq.len d
  obtain⟨F,G,rfl,_,_⟩:=m.sh
  have hel:=ho e (Aj d)
  refine CM at4 Reads.sq (l 0 _ rfl) fun ad o=>?_
  subst o
  refine OA 5 ?_
  refine O1 (Jt i u58) ?_
  refine O1 (YW (j:=i*3) u62 Reads.sq l rfl) ?_
  refine O6 (YQ zr62) fun H=>?_
  refine OA 6 ?_
  refine Oc rfl (en 49) rfl (.p8 .d) (GX F e.ops.length G (e.ops.flatMap Et) (pool L2) ((m.le c).rd) (Ft (g:=Et) (s:=3) (fun _=>rfl) _) (GH fun _=>rfl) (by omega)) ?_
  rintro _ _ ⟨a2,c2,rfl,rfl⟩
  refine OA 3 ?_
  refine Cx (Zg (.p10 (.p10 .d))) ?_
  rintro _ ⟨w,k,hps,rfl⟩
  refine OA 3 ?_
  refine O6 (YY u58) fun D=>?_
  refine O2 (LO.app (ao:=oa) el58) ?_
  rintro _ _ ⟨p,q,rfl,rfl⟩
  refine OA 2 ?_
  refine Tp (.t0 (.t0 (.t0 (.t0 (.t0 (.t0 (.t0 (.t0 (.t2 (.t0 .e)))))))))) (OA 4 ?_)
  exact⟨(i+1,w,p,q,_),⟨⟨by omega,c.trans k,by rw[Dg d];exact(f.mono fun _ _ h=>h.le k).snoc ⟨_,rfl,hps⟩⟩,⟨rfl,rfl,rfl,rfl,Dd rfl (by omega),trivial⟩,.refl _⟩,by simp only;omega⟩
 have hil:i=r.ev.length:=by omega
 subst hil
 rw[BJ]at f
 refine Tx (Zk (K:=K) (r:=r) (L:=L2) (.p0 (.p0 (.p0 (.p0 (.p0 (.p0 (.p0 (.p0 .d)))))))) hp c c c c) fun C=>Tp (.t2 (.t0 (.t0 .e))) (OA 6 ?_)
 exact Cu (CB rfl rfl (.refl _) ⟨oa,oc,b,L2,C,c,rfl,f,rfl⟩)
theorem GR{a:Int}(h: -9223372036854775808<=a/\a<9223372036854775808):∃a5,IntKind.wrap .i64 (a-1)=a5/\(a=a5+1∨(a<1/\1000<=a5)):=by
 by_cases e:a= -9223372036854775808
 ·exact⟨_,rfl,.inr (by subst e;decide)⟩
 ·exact⟨a-1,wrap_i64 (by omega) (by omega),.inl (by omega)⟩
theorem Cv.ndX{w0:World}{b_ S:N_}{L:PL}{k:EK}{n:Fz}{c a1 a2 a3 a4 a5 a6 a7 f g:CW}:Cv w0 b_ [c,a1,a2,a3,a4,a5,a6,a7,f,cm S (Ee L k n),g] fun h'=>∃d b,Yk n.x.log d/\h'=[c,a1,a2,a3,a4,a5,a6,a7,f,g,cm b (DZ k.dp d)]:=by
 cases hu:n.up with
 |true=>
  exact(Qat (.p9 .d) hu).then fun _ ⟨q,b,hk,e⟩=>by
   subst e
   exact(Qaf (.p10 .d)).then fun _ ⟨h,pp,oa,oc,mcs,d,S1,S2,S3,S4,⟨hL,_,_⟩,e⟩=>by
    subst e
    exact(YN (.t0 (.t0 (.t0 (.t0 (.t0 (.t0 (.t0 (.t0 (.t0 (.t0 (.t4 .e)))))))))))).then fun _ e=>YM ⟨d,S2,.inl hL,e⟩
 |false=>exact(QaI (.p9 .d) hu).then fun _ ⟨d,b,⟨_,hds⟩,e⟩=>YM ⟨d,b,hds,e⟩
theorem XV(K:Ed)(S:N_)(L:PL)(r:CI)(c:CfM)(t:Nat)(hc:c.Sm)(h:r.St c t)(ht:t+1<=640)(a b:Int)(ha: -9223372036854775808<=a/\a<9223372036854775808)(sv:Value)(E:∃J M sc,sv= .slice J M sc):Sp P0 8 [Cr K.p,.agg [Cs 1,Cs a,Cs b,sv].toArray] [cm S (FF K L r),pool L] fun v h=>v= Cs (r.do_ 1 a b).2/\∃L' O,Le L L'/\h=[cm O (FF K L' (r.do_ 1 a b).1),pool L']:=by
 obtain⟨p,H,x,y,I,u,F,G,f,j,e,q⟩:=K
 obtain⟨J,M,sc,rfl⟩:=E
 obtain⟨a5,C,Q⟩:=GR ha
 have _ht:=ht
 refine Sq Tryz.func8 fun w0 b_=>?_
 refine Cx (Zr (.p0 .d)) ?_
 rintro _ ⟨va,vc,ecs,ks,V,W,X,hp,rfl⟩
 dsimp only[Lw,NZ,QM]
 have hnn:r.nds.length=f:=hp.nn
 have hkn:r.cls.length=j:=hp.kn
 have hkl:ks.length=f:=hp.ks
 have U:q.length=j:=hp.qs
 have T:f<=3:=by have:=h.nn;have:=hc.nodes;omega
 have R:j<=3:=by have:=h.kn;have:=hc.clients;omega
 refine OA 2 ?_
 refine O6 YR fun b3=>?_
 refine OA 6 ?_
 refine O1 (YK (v':=.bool false) (Zh rfl rfl rfl u31) rfl) ?_
 refine OA 7 ?_
 refine O1 (YK (v':=Cs a5) (ZM rfl rfl rfl) (by rw[C])) ?_
 refine OA 12 ?_
 refine O1 Rv ?_
 refine OA 6 ?_
 refine CQ 33 (a5<0∨f<=a5) ?_ ?_
 ·refine OA 4 ?_
  refine CJ 25 rfl (fun m=>?_) (fun m=>?_)
  ·refine OA 9 ?_
   exact Ex
  refine OA 9 ?_
  exact Ex
 refine Cy rfl (fun o=>?_) (fun o=>?_)
 ·refine Tx (Zk (K:=(⟨p,H,x,y,I,u,F,G,f,j,e,q⟩:Ed)) (r:=r) (L:=L) (.p1 (.p1 (.p1 (.p1 (.p1 (.p1 (.p1 (.p1 .d)))))))) hp (.refl _) (.refl _) (.refl _) (.refl _)) fun s=>Tp (.t2 (.t0 .e)) ?_
  rw[show r.do_ 1 a b=(r,1) from Ah ⟨.inl rfl,by omega⟩]
  refine OA 4 ?_
  exact Cu (Rr ⟨rfl,L,s,.refl _,rfl⟩)
 obtain⟨i,hi⟩:∃i:Nat,a5=(i:Int):=⟨a5.toNat,by omega⟩
 subst hi
 obtain rfl:a=(i:Int)+1:=by omega
 obtain⟨n,hn⟩:∃n,r.nds[i]? =some n:=⟨_,Ae (by omega)⟩
 obtain⟨k,hk⟩:∃k,ks[i]? =some k:=⟨_,Ae (by omega)⟩
 have l:(ks.map EK.v)[i]? =some k.v:=by rw[Aq,hk];rfl
 have hst:=h.nd i n hn
 have hio:=hst.tkOut hc ht
 rw[show r.do_ 1 ((i:Int)+1) b=(r.doN i n.tick,0) by rw[<-MD hn];unfold CI.do_;rw[Aa (by omega),Aa (by omega),Aa (by omega),Ah rfl,show((i:Int)+1-1).toNat=i by omega]]
 refine Cx (ZC (.p7 .d) hk hn) ?_
 rintro _ ⟨s,Y,rfl⟩
 refine CO (fun w hw=>hw.sqNN (ao:=I) at3 (by omega)) fun⟨g,hgg⟩=>?_
 subst hgg
 refine OA 10 ?_
 refine O1 Rv ?_
 refine OA 10 ?_
 refine O1 (Km i u66) ?_
 refine O1 (YV u33 l) ?_
 refine Oc rfl (en 20) rfl (.p9 (.p0 .d)) (Nd k s L n 0 N0 (1+8*t+8) (hst.tkOk hc ht)) ?_
 rintro _ _ ⟨rfl,L2,P,d,rfl⟩
 refine OA 8 ?_
 refine O1 (Km i u66) ?_
 refine O1 (YV u33 l) ?_
 refine Oc rfl (en 22) rfl (.p9 .d) (Iz k P L2 n.tick) ?_
 rintro _ _ ⟨Z,oa,oc,mcs,rfl,D,rfl⟩
 refine Oi (Cv.up (B:=DH (Ee L2) (ks.eraseIdx i) (r.nds.eraseIdx i)) s8 (fun _ h=>h.mono fun _ _ _ h=>Ee.le d _ _ _ h)) ?_
 refine CL (ZN (.p10 (.p8 .d)) (Ab.1 hk).1 (Ab.1 hn).1) ?_
 rintro _ ⟨S10,rfl⟩
 rw[Dc hk]
 refine CL (Zk (K:=(⟨p,H,x,y,some ⟨g,0,none⟩,u,F,G,f,j,e,q⟩:Ed)) (r:=r.setN i n.tick.took) (L:=L2) (.p0 (.p0 (.p0 (.p0 (.p0 (.p0 (.p4 (.p0 .d)))))))) (hp.setN2 _ _) d (.refl _) d d) ?_
 rintro _ ⟨S11,rfl⟩
 refine Oc rfl (en 21) rfl (.p3 (.p1 (.p1 .d))) (Hw (⟨p,H,x,y,some ⟨g,0,none⟩,u,F,G,f,j,e,q⟩:Ed) S11 L2 (r.setN i n.tick.took) (t+1) (40000000*t) (h.net.le (AL t) (Al _)) n.tick.outs (by have:=hio.2;omega) hio.1 oa oc mcs D) ?_
 rintro _ _ ⟨rfl,N,S12,A,rfl⟩
 refine OA 5 ?_
 exact Cu (CB rfl rfl (.cons _ (.refl _)) ⟨rfl,N,S12,d.trans A,rfl⟩)
theorem Xg(K:Ed)(S:N_)(L:PL)(r:CI)(c:CfM)(t:Nat)(hc:c.Sm)(h:r.St c t)(ht:t+1<=640)(a b:Int)(ha: -9223372036854775808<=a/\a<9223372036854775808)(sv:Value)(hb: -9223372036854775808<=b/\b<9223372036854775808)(i:∃m n sc,sv= .slice m n sc):Sp P0 8 [Cr K.p,.agg [Cs 6,Cs a,Cs b,sv].toArray] [cm S (FF K L r),pool L] fun v h=>v= Cs (r.do_ 6 a b).2/\∃L' o,Le L L'/\h=[cm o (FF K L' (r.do_ 6 a b).1),pool L']:=by
 obtain⟨p,k,x,y,u,w,F,G,e,d,f,l⟩:=K
 obtain⟨m,n,sc,rfl⟩:=i
 obtain⟨a5,g,A⟩:=GR ha
 have _ht:=ht
 refine Sq Tryz.func8 fun w0 b_=>?_
 refine Cx (Zr (.p0 .d)) ?_
 rintro _ ⟨M,N,ecs,ks,q,H,I,hp,rfl⟩
 dsimp only[Lw,NZ,QM]
 have hnn:r.nds.length=e:=hp.nn
 have hkn:r.cls.length=d:=hp.kn
 have hkl:ks.length=e:=hp.ks
 have D:l.length=d:=hp.qs
 have C:e<=3:=by have:=h.nn;have:=hc.nodes;omega
 have B:d<=3:=by have:=h.kn;have:=hc.clients;omega
 rw[show r.do_ 6 a b=(r.setT (r.net.cut a b),0) by unfold CI.do_;rw[Aa (by omega),Aa (by omega),Aa (by omega),Aa (by omega),Aa (by omega),Aa (by omega),Aa (by omega),Aa (by omega),Ah rfl]]
 refine OA 2 ?_
 refine O6 YR fun b3=>?_
 refine OA 6 ?_
 refine O1 (YK (v':=.bool false) (Zh rfl rfl rfl u31) rfl) ?_
 refine OA 7 ?_
 refine O1 (YK (v':=Cs a5) (ZM rfl rfl rfl) (by rw[g])) ?_
 refine OA 12 ?_
 refine O1 Gf ?_
 refine OA 5 ?_
 refine O1 Gf ?_
 refine OA 5 ?_
 refine O1 Gf ?_
 refine OA 4 ?_
 refine O1 Gf ?_
 refine OA 5 ?_
 refine O1 Gf ?_
 refine OA 6 ?_
 refine O1 Gf ?_
 refine OA 5 ?_
 refine O1 Gf ?_
 refine OA 4 ?_
 refine O1 Gf ?_
 refine OA 13 ?_
 refine O1 Gf ?_
 refine OA 5 ?_
 refine O1 Gf ?_
 refine OA 6 ?_
 refine O1 Gf ?_
 refine OA 5 ?_
 refine O1 Gf ?_
 refine OA 4 ?_
 refine O1 Gf ?_
 refine OA 5 ?_
 refine O1 Rv ?_
 refine OA 3 ?_
 refine Cw (.s (.t (.s7 (.t .d)))) rfl (fun j=>false) ?_
 intro E
 refine DA [0,1,2,3,4,5,6,7] ?_
 refine Da 8 ?_
 refine DB rfl rfl (en 31) rfl (.p6 .d) (cut_spec k q L r.net a b ha hb) ?_
 rintro _ _ ⟨rfl,J,rfl⟩
 refine ys (D0 (Tx (Zk (K:=(⟨p,k,x,y,u,w,F,G,e,d,f,l⟩:Ed)) (r:=r.setT (r.net.cut a b)) (L:=L) (.p1 (.p1 (.p1 (.p1 (.p1 (.p4 (.p1 (.p1 .d)))))))) ⟨hp.dps,hp.ks,hp.qs,hp.nn,hp.kn,hp.ev⟩ (.refl _) (.refl _) (.refl _) (.refl _)) fun s=>Tp (.t2 (.t0 .e)) (OA 4 ?_)))
 exact Cu (Rr ⟨rfl,L,s,.refl _,rfl⟩)
theorem Xp(K:Ed)(S:N_)(L:PL)(r:CI)(c:CfM)(t:Nat)(hc:c.Sm)(h:r.St c t)(ht:t+1<=640)(a b:Int)(ha: -9223372036854775808<=a/\a<9223372036854775808)(sv:Value)(i:∃l m sc,sv= .slice l m sc):Sp P0 8 [Cr K.p,.agg [Cs 7,Cs a,Cs b,sv].toArray] [cm S (FF K L r),pool L] fun v h=>v= Cs (r.do_ 7 a b).2/\∃L' n,Le L L'/\h=[cm n (FF K L' (r.do_ 7 a b).1),pool L']:=by
 obtain⟨p,j,w,x,s,u,D,E,e,d,f,k⟩:=K
 obtain⟨l,m,sc,rfl⟩:=i
 obtain⟨a5,g,y⟩:=GR ha
 have _ht:=ht
 refine Sq Tryz.func8 fun w0 b_=>?_
 refine Cx (Zr (.p0 .d)) ?_
 rintro _ ⟨I,J,ecs,ks,o,F,G,hp,rfl⟩
 dsimp only[Lw,NZ,QM]
 have hnn:r.nds.length=e:=hp.nn
 have hkn:r.cls.length=d:=hp.kn
 have hkl:ks.length=e:=hp.ks
 have C:k.length=d:=hp.qs
 have B:e<=3:=by have:=h.nn;have:=hc.nodes;omega
 have A:d<=3:=by have:=h.kn;have:=hc.clients;omega
 rw[show r.do_ 7 a b=(r.setT r.net.heal,0) by unfold CI.do_;rw[Aa (by omega),Aa (by omega),Aa (by omega),Aa (by omega),Aa (by omega),Aa (by omega),Aa (by omega),Aa (by omega),Aa (by omega),Ah rfl]]
 refine OA 2 ?_
 refine O6 YR fun b3=>?_
 refine OA 6 ?_
 refine O1 (YK (v':=.bool false) (Zh rfl rfl rfl u31) rfl) ?_
 refine OA 7 ?_
 refine O1 (YK (v':=Cs a5) (ZM rfl rfl rfl) (by rw[g])) ?_
 refine OA 12 ?_
 refine O1 Gf ?_
 refine OA 5 ?_
 refine O1 Gf ?_
 refine OA 5 ?_
 refine O1 Gf ?_
 refine OA 4 ?_
 refine O1 Gf ?_
 refine OA 5 ?_
 refine O1 Gf ?_
 refine OA 6 ?_
 refine O1 Gf ?_
 refine OA 5 ?_
 refine O1 Gf ?_
 refine OA 4 ?_
 refine O1 Gf ?_
 refine OA 13 ?_
 refine O1 Gf ?_
 refine OA 5 ?_
 refine O1 Gf ?_
 refine OA 6 ?_
 refine O1 Gf ?_
 refine OA 5 ?_
 refine O1 Gf ?_
 refine OA 4 ?_
 refine O1 Gf ?_
 refine OA 5 ?_
 refine O1 Gf ?_
 refine OA 5 ?_
 refine O1 Rv ?_
 refine OA 8 ?_
 refine Oc rfl (en 32) rfl (.p6 .d) (Pb j o L r.net) ?_
 rintro _ _ ⟨rfl,H,rfl⟩
 refine On (Tx (Zk (K:=(⟨p,j,w,x,s,u,D,E,e,d,f,k⟩:Ed)) (r:=r.setT (r.net.heal)) (L:=L) (.p1 (.p1 (.p1 (.p1 (.p1 (.p4 (.p1 (.p1 .d)))))))) ⟨hp.dps,hp.ks,hp.qs,hp.nn,hp.kn,hp.ev⟩ (.refl _) (.refl _) (.refl _) (.refl _)) fun q=>Tp (.t2 (.t0 .e)) (OA 4 ?_))
 exact Cu (Rr ⟨rfl,L,q,.refl _,rfl⟩)
theorem Yj(K:Ed)(S:N_)(L:PL)(r:CI)(c:CfM)(t:Nat)(hc:c.Sm)(h:r.St c t)(ht:t+1<=640)(a b:Int)(ha: -9223372036854775808<=a/\a<9223372036854775808)(sv:Value)(H:∃P Q sc,sv= .slice P Q sc):Sp P0 8 [Cr K.p,.agg [Cs 2,Cs a,Cs b,sv].toArray] [cm S (FF K L r),pool L] fun v h=>v= Cs (r.do_ 2 a b).2/\∃L' T,Le L L'/\h=[cm T (FF K L' (r.do_ 2 a b).1),pool L']:=by
 obtain⟨p,M,D,E,A,C,O,J,k,f,e,j⟩:=K
 obtain⟨P,Q,sc,rfl⟩:=H
 obtain⟨a5,G,V⟩:=GR ha
 have _ht:=ht
 refine Sq Tryz.func8 fun w0 b_=>?_
 refine Cx (Zr (.p0 .d)) ?_
 rintro _ ⟨va,vc,ecs,ks,Z,S4,S5,hp,rfl⟩
 dsimp only[Lw,NZ,QM]
 have hnn:r.nds.length=k:=hp.nn
 have hkn:r.cls.length=f:=hp.kn
 have hkl:ks.length=k:=hp.ks
 have Y:j.length=f:=hp.qs
 have X:k<=3:=by have:=h.nn;have:=hc.nodes;omega
 have W:f<=3:=by have:=h.kn;have:=hc.clients;omega
 refine OA 2 ?_
 refine O6 YR fun b3=>?_
 refine OA 6 ?_
 refine O1 (YK (v':=.bool false) (Zh rfl rfl rfl u31) rfl) ?_
 refine OA 7 ?_
 refine O1 (YK (v':=Cs a5) (ZM rfl rfl rfl) (by rw[G])) ?_
 refine OA 12 ?_
 refine O1 Gf ?_
 refine OA 5 ?_
 refine O1 Gf ?_
 refine OA 5 ?_
 refine O1 Gf ?_
 refine OA 4 ?_
 refine O1 Gf ?_
 refine OA 5 ?_
 refine O1 Rv ?_
 refine OA 4 ?_
 refine CQ 46 (a5<0∨f<=a5) ?_ ?_
 ·refine OA 4 ?_
  refine CJ 38 rfl (fun o=>?_) (fun o=>?_)
  ·refine OA 9 ?_
   exact Ex
  refine OA 9 ?_
  exact Ex
 refine Cy rfl (fun s=>?_) (fun s=>?_)
 ·refine Tx (Zk (K:=(⟨p,M,D,E,A,C,O,J,k,f,e,j⟩:Ed)) (r:=r) (L:=L) (.p1 (.p1 (.p1 (.p1 (.p1 (.p1 (.p1 (.p1 .d)))))))) hp (.refl _) (.refl _) (.refl _) (.refl _)) fun N=>Tp (.t2 (.t0 .e)) ?_
  rw[show r.do_ 2 a b=(r,1) by unfold CI.do_;rw[Aa (by omega),Ah ⟨rfl,by omega⟩]]
  refine OA 4 ?_
  exact Cu (Rr ⟨rfl,L,N,.refl _,rfl⟩)
 obtain⟨i,hi⟩:∃i:Nat,a5=(i:Int):=⟨a5.toNat,by omega⟩
 subst hi
 obtain rfl:a=(i:Int)+1:=by omega
 obtain⟨x,hx⟩:∃n,r.cls[i]? =some n:=⟨_,Ae (by omega)⟩
 obtain⟨q,hq⟩:∃q,j[i]? =some q:=⟨_,Ae (by omega)⟩
 have l:(j.map DG)[i]? =some (Cr q):=by rw[Aq,hq];rfl
 have hst:=h.cl i x hx
 rw[show r.do_ 2 ((i:Int)+1) b=(r.doneC i x.tick,0) by unfold CI.do_;rw[Aa (by omega),Aa (by omega),Aa (by omega),Aa (by omega),Ah rfl,show((i:Int)+1-1).toNat=i by omega];unfold CI.tickC;rw[hx]]
 refine Cx (ZC (.p8 .d) hq hx) ?_
 rintro _ ⟨N,S7,rfl⟩
 refine Tx (Cv.clU (.p9 .d)) fun U=>CO (fun w hw=>hw.sqNN (ao:=O) at4 (by omega)) fun⟨g,hgg⟩=>?_
 subst hgg
 refine OA 10 ?_
 refine O1 Gf ?_
 refine OA 5 ?_
 refine O1 Rv ?_
 refine OA 10 ?_
 refine O1 (Km i u67) ?_
 refine O1 (YV u75 l) ?_
 refine Oc rfl (en 23) rfl (.p10 (.p0 .d)) (LC q U L x _ hst.fit (by omega)) ?_
 rintro _ _ ⟨rfl,u,S9,d,rfl⟩
 refine OA 8 ?_
 refine O1 (Km i u67) ?_
 refine O1 (YV u75 l) ?_
 obtain⟨y,hy⟩:∃y,y=x.tick:=⟨_,rfl⟩
 have hys:=hst.tick hc
 rw[<-hy]at hys ⊢
 have hyp:=hys.fit.post.out;have hye:=hys.fit.events;have hre:=h.ev
 have I:(r.setC i y).cls[i]? =some y:=by show(r.cls.set i y)[i]? =_;rw[Bj (Ab.1 hx).1]
 refine Oi (Cv.up (B:=Eg u q y) s9 Eg.of) ?_
 refine Oi (Cv.up (B:=DH (Eg u) (j.eraseIdx i) (r.cls.eraseIdx i)) s8 (fun _ h=>h.mono fun _ _ _ h=>Eg.le d _ _ _ h)) ?_
 refine CL (ZN (.p9 (.p8 .d)) (Ab.1 hq).1 (Ab.1 hx).1) ?_
 rintro _ ⟨S10,rfl⟩
 rw[Dc hq]
 refine CL (Zk (K:=(⟨p,M,D,E,A,C,some ⟨g,0,none⟩,J,k,f,e,j⟩:Ed)) (r:=r.setC i y) (L:=u) (.p0 (.p0 (.p0 (.p0 (.p0 (.p0 (.p0 (.p2 .d)))))))) (hp.setC2 _ _) d d (.refl _) d) ?_
 rintro _ ⟨S11,rfl⟩
 refine Oc rfl (en 24) rfl (.p2 (.p1 .d)) (HQ (⟨p,M,D,E,A,C,some ⟨g,0,none⟩,J,k,f,e,j⟩:Ed) S11 u (r.setC i y) (t+1) (40000000*t) i q y hq I (h.net.le (AL t) (Al _)) (by omega) (fun m hm=>(hys.post.out m hm).le (Af _)) (by show r.ev.length+_<=_;omega)) ?_
 rintro _ _ ⟨rfl,R,S12,F,rfl⟩
 refine OA 5 ?_
 exact Cu (CB rfl rfl (.cons _ (.refl _)) ⟨rfl,R,S12,d.trans F,by rw[KL];rfl⟩)
theorem Xt(K:Ed)(S:N_)(L:PL)(r:CI)(c:CfM)(t:Nat)(hc:c.Sm)(h:r.St c t)(ht:t+1<=640)(a b:Int)(ha: -9223372036854775808<=a/\a<9223372036854775808)(sv:Value)(R:GLB L)(E:∃N O sc,sv= .slice N O sc):Sp P0 8 [Cr K.p,.agg [Cs 9,Cs a,Cs b,sv].toArray] [cm S (FF K L r),pool L] fun v h=>v= Cs (r.do_ 9 a b).2/\∃L' Q,Le L L'/\h=[cm Q (FF K L' (r.do_ 9 a b).1),pool L']:=by
 obtain⟨p,I,y,A,J,x,G,H,j,l,f,s⟩:=K
 obtain⟨N,O,sc,rfl⟩:=E
 obtain⟨a5,C,T⟩:=GR ha
 have _ht:=ht
 refine Sq Tryz.func8 fun w0 b_=>?_
 refine Cx (Zr (.p0 .d)) ?_
 rintro _ ⟨va,vc,ecs,ks,X,Y,Z,hp,rfl⟩
 dsimp only[Lw,NZ,QM]
 have hnn:r.nds.length=j:=hp.nn
 have hkn:r.cls.length=l:=hp.kn
 have hkl:ks.length=j:=hp.ks
 have W:s.length=l:=hp.qs
 have V:j<=3:=by have:=h.nn;have:=hc.nodes;omega
 have U:l<=3:=by have:=h.kn;have:=hc.clients;omega
 refine OA 2 ?_
 refine O6 YR fun b3=>?_
 refine OA 6 ?_
 refine O1 (YK (v':=.bool false) (Zh rfl rfl rfl u31) rfl) ?_
 refine OA 7 ?_
 refine O1 (YK (v':=Cs a5) (ZM rfl rfl rfl) (by rw[C])) ?_
 refine OA 12 ?_
 refine O1 Gf ?_
 refine OA 5 ?_
 refine O1 Gf ?_
 refine OA 5 ?_
 refine O1 Rv ?_
 refine OA 6 ?_
 refine DX [23,24,25,26,27,28,29,30,31,32,33] 33 (a5<0∨j<=a5) ?_ ?_
 ·refine OA 4 ?_
  refine CJ 25 rfl (fun m=>?_) (fun m=>?_)
  ·refine OA 9 ?_
   exact Ku
  refine OA 9 ?_
  exact Ku
 refine Cy rfl (fun o=>?_) (fun o=>?_)
 ·refine Tx (Zk (K:=(⟨p,I,y,A,J,x,G,H,j,l,f,s⟩:Ed)) (r:=r) (L:=L) (.p1 (.p1 (.p1 (.p1 (.p1 (.p1 (.p1 (.p1 .d)))))))) hp (.refl _) (.refl _) (.refl _) (.refl _)) fun u=>Tp (.t2 (.t0 .e)) ?_
  rw[show r.do_ 9 a b=(r,1) from Ah ⟨.inr (.inr (.inl rfl)),by omega⟩]
  refine OA 4 ?_
  exact Cu (Rr ⟨rfl,L,u,.refl _,rfl⟩)
 obtain⟨i,hi⟩:∃i:Nat,a5=(i:Int):=⟨a5.toNat,by omega⟩
 subst hi
 obtain rfl:a=(i:Int)+1:=by omega
 obtain⟨n,hn⟩:∃n,r.nds[i]? =some n:=⟨_,Ae (by omega)⟩
 obtain⟨k,hk⟩:∃k,ks[i]? =some k:=⟨_,Ae (by omega)⟩
 have D:(ks.map EK.v)[i]? =some k.v:=by rw[Aq,hk];rfl
 have hst:=h.nd i n hn
 have F:r.isUp i=n.up:=by unfold CI.isUp;rw[hn]
 rw[show r.do_ 9 ((i:Int)+1) b=if n.up=true then (r,51)else (r.start i,0) by unfold CI.do_;rw[Aa (by omega),Aa (by omega),Aa (by omega),Aa (by omega),Aa (by omega),Aa (by omega),Aa (by omega),Aa (by omega),Aa (by omega),Aa (by omega),Aa (by omega),Ah rfl,show((i:Int)+1-1).toNat=i by omega,F]]
 refine Cx (ZC (.p7 .d) hk hn) ?_
 rintro _ ⟨u,S7,rfl⟩
 refine CO (fun w hw=>hw.sqNN (ao:=J) at3 (by omega)) fun⟨g,hgg⟩=>?_
 subst hgg
 refine OA 10 ?_
 refine O1 Gf ?_
 refine OA 5 ?_
 refine O1 Gf ?_
 refine OA 6 ?_
 refine O1 Gf ?_
 refine OA 5 ?_
 refine O1 Gf ?_
 refine OA 4 ?_
 refine O1 Gf ?_
 refine OA 5 ?_
 refine O1 Gf ?_
 refine OA 5 ?_
 refine O1 Gf ?_
 refine OA 5 ?_
 refine O1 Gf ?_
 refine OA 5 ?_
 refine O1 Rv ?_
 refine OA 11 ?_
 refine O1 (Km i u66) ?_
 refine O1 (YV u33 D) ?_
 refine Oc rfl (en 18) rfl (.p9 .d) (Jp k u L n) ?_
 rintro _ _ ⟨rfl,S8,rfl⟩
 refine O1 (YK (v':=.bool n.up) (Ct.not rfl rfl) (by cases n.up<;>rfl)) ?_
 refine On (Tx (ZN (.p10 (.p9 .d)) (Ab.1 hk).1 (Ab.1 hn).1) fun S10=>?_)
 rw[Dc hk,Dc hn]
 refine Tx (Zk (K:=(⟨p,I,y,A,some ⟨g,0,none⟩,x,G,H,j,l,f,s⟩:Ed)) (r:=r) (L:=L) (.p1 (.p1 (.p1 (.p1 (.p1 (.p1 (.p3 (.p1 .d)))))))) hp (.refl _) (.refl _) (.refl _) (.refl _)) fun S11=>CE rfl (fun d=>?_) (fun d=>?_)
 ·rw[Ah d]
  refine Tp (.t2 (.t0 .e)) (OA 4 ?_)
  exact Cu (Rr ⟨rfl,L,S11,.refl _,rfl⟩)
 have M:n.up=false:=by
  cases e:n.up with
  |true=>rw[e]at d;cases d
  |false=>rfl
 have hrc:=h.cf
 have hnn2:=h.nn
 rw[Aa (by rw[M];exact fun q=>by cases q)]
 refine OA 5 ?_
 refine Oc rfl (en 34) rfl (.p2 (.p0 .d)) (LI (⟨p,I,y,A,some ⟨g,0,none⟩,x,G,H,j,l,f,s⟩:Ed) S11 L r i t (1+8*t) n hn M R (by rw[hrc];exact hc) (by rw[hrc];exact hst.1) (by omega) (by rw[hrc];omega)) ?_
 rintro _ _ ⟨rfl,P,S12,B,rfl⟩
 refine OA 2 ?_
 exact Cu (CB rfl rfl (.cons _ (.refl _)) ⟨rfl,P,S12,B,rfl⟩)
theorem Xl(K:Ed)(S:N_)(L:PL)(r:CI)(c:CfM)(t:Nat)(hc:c.Sm)(h:r.St c t)(ht:t+1<=640)(a b:Int)(ha: -9223372036854775808<=a/\a<9223372036854775808)(sv:Value)(zs:List Int)(y:zs.length<=maxLen)(x:∃s sc,sv= .slice s zs.length sc/\Reads (pool L) s (iv zs)):Sp P0 8 [Cr K.p,.agg [Cs 8,Cs a,Cs b,sv].toArray] [cm S (FF K L r),pool L] fun v h=>v= Cs (r.do_ 8 a b).2/\∃L' M,Le L L'/\h=[cm M (FF K L' (r.do_ 8 a b).1),pool L']:=by
 obtain⟨p,J,F,G,D,E,H,I,f,q,e,A⟩:=K
 obtain⟨s,sc,rfl,hz⟩:=x
 obtain⟨a5,u,O⟩:=GR ha
 have _ht:=ht
 refine Sq Tryz.func8 fun w0 b_=>?_
 refine Cx (Zr (.p0 .d)) ?_
 rintro _ ⟨va,vc,ecs,ks,V,W,X,hp,rfl⟩
 dsimp only[Lw,NZ,QM]
 have hnn:r.nds.length=f:=hp.nn
 have hkn:r.cls.length=q:=hp.kn
 have hkl:ks.length=f:=hp.ks
 have T:A.length=q:=hp.qs
 have R:f<=3:=by have:=h.nn;have:=hc.nodes;omega
 have P:q<=3:=by have:=h.kn;have:=hc.clients;omega
 refine OA 2 ?_
 refine O6 YR fun b3=>?_
 refine OA 6 ?_
 refine O1 (YK (v':=.bool false) (Zh rfl rfl rfl u31) rfl) ?_
 refine OA 7 ?_
 refine O1 (YK (v':=Cs a5) (ZM rfl rfl rfl) (by rw[u])) ?_
 refine OA 12 ?_
 refine O1 Gf ?_
 refine OA 5 ?_
 refine O1 Rv ?_
 refine OA 6 ?_
 refine DX [23,24,25,26,27,28,29,30,31,32,33] 33 (a5<0∨f<=a5) ?_ ?_
 ·refine OA 4 ?_
  refine CJ 25 rfl (fun m=>?_) (fun m=>?_)
  ·refine OA 9 ?_
   exact Ku
  refine OA 9 ?_
  exact Ku
 refine Cy rfl (fun o=>?_) (fun o=>?_)
 ·refine Tx (Zk (K:=(⟨p,J,F,G,D,E,H,I,f,q,e,A⟩:Ed)) (r:=r) (L:=L) (.p1 (.p1 (.p1 (.p1 (.p1 (.p1 (.p1 (.p1 .d)))))))) hp (.refl _) (.refl _) (.refl _) (.refl _)) fun C=>Tp (.t2 (.t0 .e)) ?_
  rw[show r.do_ 8 a b=(r,1) from Ah ⟨.inr (.inl rfl),by omega⟩]
  refine OA 4 ?_
  exact Cu (Rr ⟨rfl,L,C,.refl _,rfl⟩)
 obtain⟨i,hi⟩:∃i:Nat,a5=(i:Int):=⟨a5.toNat,by omega⟩
 subst hi
 obtain rfl:a=(i:Int)+1:=by omega
 obtain⟨n,hn⟩:∃n,r.nds[i]? =some n:=⟨_,Ae (by omega)⟩
 obtain⟨k,hk⟩:∃k,ks[i]? =some k:=⟨_,Ae (by omega)⟩
 have Q:(ks.map EK.v)[i]? =some k.v:=by rw[Aq,hk];rfl
 have hst:=h.nd i n hn
 have hd:(e.map DG)[i]? =some (Cr k.dp):=by rw[show e=ks.map EK.dp from hp.dps,Aq,Aq,hk];rfl
 rw[show r.do_ 8 ((i:Int)+1) b=(r.setN i ⟨false,n.x⟩,0) by unfold CI.do_;rw[Aa (by omega),Aa (by omega),Aa (by omega),Aa (by omega),Aa (by omega),Aa (by omega),Aa (by omega),Aa (by omega),Aa (by omega),Aa (by omega),Ah rfl,show((i:Int)+1-1).toNat=i by omega];unfold CI.crash;rw[hn]]
 refine Cx (ZC (.p7 .d) hk hn) ?_
 rintro _ ⟨C,Y,rfl⟩
 refine Cx Cv.ndX ?_
 rintro _ ⟨d,N,l,rfl⟩
 refine CO (fun w hw=>hw.sqNN (ao:=D) at3 (by omega)) fun⟨g,hgg⟩=>?_
 subst hgg
 refine CO (fun w hw=>hw.sqNN (ao:=F) at2 (by omega)) fun⟨g2,hgg2⟩=>?_
 subst hgg2
 refine OA 10 ?_
 refine O1 Gf ?_
 refine OA 5 ?_
 refine O1 Gf ?_
 refine OA 6 ?_
 refine O1 Gf ?_
 refine OA 5 ?_
 refine O1 Gf ?_
 refine OA 4 ?_
 refine O1 Gf ?_
 refine OA 5 ?_
 refine O1 Gf ?_
 refine OA 5 ?_
 refine O1 Gf ?_
 refine OA 5 ?_
 refine O1 Rv ?_
 refine OA 10 ?_
 refine O1 (Km i u66) ?_
 refine O4 LO.sqS ?_
 refine On (Cw (.s (.t (.t (.s5 (.t .d))))) rfl (fun j=>false) ?_)
 intro U
 refine DA [0,1,2,3,4] ?_
 refine D1 5 rfl (Km i u65) ?_
 refine D1 6 rfl (YV u49 hd) ?_
 refine DA [7,8] ?_
 refine Da 9 ?_
 refine DB rfl rfl (en 33) rfl (.p10 (.p0 .d)) (RH k.dp N d l.ok s sc zs (pool L) hz y) ?_
 rintro _ _ ⟨rfl,Z,rfl⟩
 refine ys (D0 (Ti (Cv.up (B:=Ee L ⟨k.dp,none⟩ ⟨false,n.x⟩) s10 (QaE (l.crash zs))) (Tx (ZN (.p10 (.p8 .d)) (by omega) (by omega)) fun S10=>?_)))
 rw[show(ks.map EK.v).set i (.pointer none)=(ks.set i ⟨k.dp,none⟩).map EK.v by rw[List.map_set];rfl]
 refine Tx (Zk (K:=(⟨p,J,some ⟨g2,0,none⟩,G,some ⟨g,0,none⟩,E,H,I,f,q,e,A⟩:Ed)) (r:=r.setN i ⟨false,n.x⟩) (L:=L) (.p0 (.p0 (.p0 (.p0 (.p0 (.p0 (.p3 (.p0 .d)))))))) (hp.setN hk none _) (.refl _) (.refl _) (.refl _) (.refl _)) fun S11=>Tp (.t2 (.t1 .e)) (OA 4 ?_)
 exact Cu (Rr ⟨rfl,L,S11,.refl _,rfl⟩)
theorem Yf(K:Ed)(S:N_)(L:PL)(r:CI)(c:CfM)(t:Nat)(hc:c.Sm)(h:r.St c t)(ht:t+1<=640)(a b:Int)(ha: -9223372036854775808<=a/\a<9223372036854775808)(sv:Value)(k:Int)(hk:k<1∨10<k)(i:∃l m sc,sv= .slice l m sc):Sp P0 8 [Cr K.p,.agg [Cs k,Cs a,Cs b,sv].toArray] [cm S (FF K L r),pool L] fun v h=>v= Cs (r.do_ k a b).2/\∃L' n,Le L L'/\h=[cm n (FF K L' (r.do_ k a b).1),pool L']:=by
 obtain⟨p,E,u,w,q,s,C,D,e,d,f,j⟩:=K
 obtain⟨l,m,sc,rfl⟩:=i
 obtain⟨a5,g,x⟩:=GR ha
 have _ht:=ht
 refine Sq Tryz.func8 fun w0 b_=>?_
 refine Cx (Zr (.p0 .d)) ?_
 rintro _ ⟨I,J,ecs,ks,F,G,H,hp,rfl⟩
 dsimp only[Lw,NZ,QM]
 have hnn:r.nds.length=e:=hp.nn
 have hkn:r.cls.length=d:=hp.kn
 have hkl:ks.length=e:=hp.ks
 have B:j.length=d:=hp.qs
 have A:e<=3:=by have:=h.nn;have:=hc.nodes;omega
 have y:d<=3:=by have:=h.kn;have:=hc.clients;omega
 refine OA 2 ?_
 refine O6 YR fun b3=>?_
 refine OA 6 ?_
 refine O1 (YK (v':=.bool false) (Zh rfl rfl rfl u31) rfl) ?_
 refine OA 7 ?_
 refine O1 (YK (v':=Cs a5) (ZM rfl rfl rfl) (by rw[g])) ?_
 refine OA 12 ?_
 refine O1 (YK (v':=.bool false) (Ct.eql rfl rfl rfl) (by simp;omega)) ?_
 refine OA 5 ?_
 refine O1 (YK (v':=.bool false) (Ct.eql rfl rfl rfl) (by simp;omega)) ?_
 refine OA 5 ?_
 refine O1 (YK (v':=.bool false) (Ct.eql rfl rfl rfl) (by simp;omega)) ?_
 refine OA 4 ?_
 refine O1 (YK (v':=.bool false) (Ct.eql rfl rfl rfl) (by simp;omega)) ?_
 refine OA 5 ?_
 refine O1 (YK (v':=.bool false) (Ct.eql rfl rfl rfl) (by simp;omega)) ?_
 refine OA 6 ?_
 refine O1 (YK (v':=.bool false) (Ct.eql rfl rfl rfl) (by simp;omega)) ?_
 refine OA 5 ?_
 refine O1 (YK (v':=.bool false) (Ct.eql rfl rfl rfl) (by simp;omega)) ?_
 refine OA 4 ?_
 refine O1 (YK (v':=.bool false) (Ct.eql rfl rfl rfl) (by simp;omega)) ?_
 refine OA 13 ?_
 refine O1 (YK (v':=.bool false) (Ct.eql rfl rfl rfl) (by simp;omega)) ?_
 refine OA 5 ?_
 refine O1 (YK (v':=.bool false) (Ct.eql rfl rfl rfl) (by simp;omega)) ?_
 refine OA 6 ?_
 refine O1 (YK (v':=.bool false) (Ct.eql rfl rfl rfl) (by simp;omega)) ?_
 refine OA 5 ?_
 refine O1 (YK (v':=.bool false) (Ct.eql rfl rfl rfl) (by simp;omega)) ?_
 refine OA 4 ?_
 refine O1 (YK (v':=.bool false) (Ct.eql rfl rfl rfl) (by simp;omega)) ?_
 refine OA 5 ?_
 refine O1 (YK (v':=.bool false) (Ct.eql rfl rfl rfl) (by simp;omega)) ?_
 refine OA 5 ?_
 refine O1 (YK (v':=.bool false) (Ct.eql rfl rfl rfl) (by simp;omega)) ?_
 refine OA 5 ?_
 refine O1 (YK (v':=.bool false) (Ct.eql rfl rfl rfl) (by simp;omega)) ?_
 refine OA 5 ?_
 refine O1 (YK (v':=.bool false) (Ct.eql rfl rfl rfl) (by simp;omega)) ?_
 refine OA 5 ?_
 refine O1 (YK (v':=.bool false) (Ct.eql rfl rfl rfl) (by simp;omega)) ?_
 refine OA 7 ?_
 refine Tx (Zk (K:=(⟨p,E,u,w,q,s,C,D,e,d,f,j⟩:Ed)) (r:=r) (L:=L) (.p1 (.p1 (.p1 (.p1 (.p1 (.p1 (.p1 (.p1 .d)))))))) hp (.refl _) (.refl _) (.refl _) (.refl _)) fun o=>Tp (.t2 (.t0 .e)) ?_
 rw[show r.do_ k a b=(r,1) by unfold CI.do_;rw[Aa (by omega),Aa (by omega),Aa (by omega),Aa (by omega),Aa (by omega),Aa (by omega),Aa (by omega),Aa (by omega),Aa (by omega),Aa (by omega),Aa (by omega),Aa (by omega)]]
 exact Cu (Rr ⟨rfl,L,o,.refl _,rfl⟩)
def CI.One(r:CI):Prop:=∃x y,r.nds=[⟨true,x⟩]/\r.cls=[y]
section
variable {r:CI}
theorem CI.One.doneN(h:r.One)(i:Nat)(x:CR):(r.doneN i x).One:=by
 obtain⟨a,b,h1,h2⟩:=h
 cases i with
 |zero=>exact⟨x.noOut,b,by show r.nds.set 0 _=_;rw[h1];rfl,h2⟩
 |succ i=>exact⟨a,b,by show r.nds.set (i+1) _=_;rw[h1];rfl,h2⟩
theorem CI.One.doneC(h:r.One)(i:Nat)(x:De):(r.doneC i x).One:=by
 obtain⟨a,b,h1,h2⟩:=h
 cases i with
 |zero=>exact⟨a,x.cleared,h1,by show r.cls.set 0 _=_;rw[h2];rfl⟩
 |succ i=>exact⟨a,b,h1,by show r.cls.set (i+1) _=_;rw[h2];rfl⟩
theorem CI.One.tickN(h:r.One)(i:Nat):(r.tickN i).One:=by
 unfold CI.tickN;split
 ·exact h.doneN _ _
 ·exact h
theorem CI.One.inN(h:r.One)(i:Nat)(m:Db):(r.inN i m).One:=by
 unfold CI.inN;split
 ·exact h.doneN _ _
 ·exact h
theorem CI.One.inC(h:r.One)(i:Nat)(m:Db):(r.inC i m).One:=by
 unfold CI.inC;split
 ·exact h.doneC _ _
 ·exact h
theorem CI.One.come(h:r.One)(to:Int)(b:N_):(r.come to b).One:=by
 unfold CI.come
 repeat' split
 ·exact h
 ·exact h.inN _ _
 ·exact h.inC _ _
 ·exact h
theorem CI.One.take_(h:r.One)(l k:Int):(r.take_ l k).One:=by
 unfold CI.take_
 split
 ·exact CI.One.come (r:=r.setT (r.net.take_ l k).1) h _ _
 ·exact h
end
theorem JM:∀(k:Nat) (s:CI×Nat),s.2<=(ZI k s).2
 |0,s=>Al _
 |k+1,s=>by
  unfold ZI
  split
  ·exact Al _
  ·exact AA (AL _) (JM k (s.1.take_ (s.1.net.links.headD 0) 0,s.2+1))
theorem Rp(s:CI×Nat):s.2+2<=(CI.round s).2:=JM 4000 ((s.1.tickN 0).tickC 0,s.2+2)
theorem Wd:∀(n:Nat) (s:CI×Nat),s.2<=(ZV n s).2
 |0,_=>Al _
 |n+1,s=>AA (AA (BF _ 2) (Rp s)) (Wd n (CI.round s))
theorem Dn.St.lkok{t:Dn}{a b:Nat}(h:t.St a b){l:Int}(hl:l∈t.links):QK l:=by
 have hm:l∈t.ways.map (·.1):=(Bq _ _).mem_iff.1 hl
 obtain⟨p,hp,rfl⟩:=AZ.1 hm
 exact(h.way p hp).1
theorem OI{t:Dn}{a b:Nat}(h:t.St a b):t.links.length<=500:=by
 have:t.links.length=(t.ways.map (·.1)).length:=(Bq _ _).length_eq
 rw[this,AP];exact h.fewW
def CI.act(r:CI)(k l q:Int):CI:=if k=3 then r.take_ l q else if k=4 then r.setT (r.net.drop l q).1 else r.setT (r.net.twice l q).1
def CI.acted(r:CI)(k:Int)(i:Nat)(l q:Int):CI:=if k<3+(i:Int)then r.act k l q else r
theorem do_act{r:CI}{k a b:Int}(hk:k=3∨k=4∨k=5):r.do_ k a b=if r.net.n=0 then (r,5)else (r.act k (r.lnk a) (r.pos a b),0):=by
 unfold CI.do_ CI.act
 rw[Aa (by omega),Aa (by omega)]
 by_cases hn:r.net.n=0
 ·rw[Ah ⟨hk,hn⟩,Ah hn]
 ·rw[Aa (fun q=>hn q.2),Aa hn,Aa (by omega),Aa (by omega)]
  rcases hk with rfl|rfl|rfl<;>rfl
def OU(K:Ed):Nat->Value
 |0=>.func (.func 28) #[.pointer (some ⟨K.p,0,none⟩)] #[]
 |1=>.func (.func 29) #[.pointer (some ⟨K.np,0,none⟩)] #[]
 |_=>.func (.func 30) #[.pointer (some ⟨K.np,0,none⟩)] #[]
def factV(K:Ed):V_:=[Cs 3,OU K 0,Cs 4,OU K 1,Cs 5,OU K 2]
theorem factF_sh(K:Ed)(i:Nat):∃f us,OU K i= .func (.func f) us #[]:=by
 rcases i with _|_|i<;>exact⟨_,_,rfl⟩
theorem factV_at(K:Ed){i:Nat}(hi:i<3):∀q u,([Value.int .i64 (3+(i:Int)),OU K i]:V_)[q]? =some u->(factV K)[i*2+q]? =some u:=by
 rcases (show i=0∨i=1∨i=2 by omega)with rfl|rfl|rfl<;>rintro(_|_|q) u h<;>first|exact h|cases h
theorem act_cl(K:Ed)(S:N_)(L:PL)(r:CI)(c:CfM)(t:Nat)(hc:c.Sm)(h:r.St c t)(ht:t+1<=640)(l q:Int)(hl:QK l)(i:Nat)(hi:i<3):
  Cl P0 (OU K i) [gA (FB l),Cs q] [cm S (FF K L r),pool L] fun _ h=>∃L' f,Le L L'/\h=[cm f (FF K L' (r.act (3+(i:Int)) l q)),pool L']:=by
 have hf:=h.net.fit
 rcases (show i=0∨i=1∨i=2 by omega)with rfl|rfl|rfl
 ·exact⟨_,[_],[],rfl,(en 28),(Nn K S L r c t hc h ht l q hl).imp fun _ _ v h ⟨_,L2,S2,hL,e⟩=>YM ⟨L2,S2,hL,e⟩⟩
 ·exact⟨_,[_],[],rfl,(en 29),Sp.pre (fun _ _=>Zr (.p0 .d)) fun _ ⟨g,vc,ecs,ks,S3,S4,S5,hp,e⟩=>by
   subst e
   exact((Uk K.np S3 L r.net _ hf (by omega) l q).frame (.p6 .d)).imp fun _ _ v h ⟨_,⟨_,S2,h2⟩,h3⟩=>by
    subst h2 h3
    exact(Zk (K:=K) (r:=r.setT (r.net.drop l q).1) (L:=L) (.p1 (.p1 (.p1 (.p1 (.p1 (.p3 (.p1 (.p1 .d)))))))) ⟨hp.dps,hp.ks,hp.qs,hp.nn,hp.kn,hp.ev⟩ (.refl _) (.refl _) (.refl _) (.refl _)).then fun _ ⟨d,e⟩=>by
     subst e
     exact(YN (.t1 (.t0 .e))).then fun _ e=>YM ⟨L,d,.refl _,e⟩⟩
 ·exact⟨_,[_],[],rfl,(en 30),Sp.pre (fun _ _=>Zr (.p0 .d)) fun _ ⟨g,vc,ecs,ks,S3,S4,S5,hp,e⟩=>by
   subst e
   exact((SG K.np S3 L r.net _ hf (by omega) (fun k x e b hb=>by have:=((h.net.way _ (HG e)).2.2 b hb).byt.1;omega) l q).frame (.p6 (.p0 .d))).imp fun _ _ v h ⟨_,⟨_,L2,S2,hL,h2⟩,h3⟩=>by
    subst h2 h3
    exact(Zk (K:=K) (r:=r.setT (r.net.twice l q).1) (L:=L2) (.p0 (.p0 (.p0 (.p0 (.p0 (.p2 (.p0 (.p0 .d)))))))) ⟨hp.dps,hp.ks,hp.qs,hp.nn,hp.kn,hp.ev⟩ (.refl _) hL hL hL).then fun _ ⟨d,e⟩=>by
     subst e
     exact(YN (.t1 (.t0 .e))).then fun _ e=>YM ⟨L2,d,hL,e⟩⟩
theorem YE(K:Ed)(S:N_)(L:PL)(r:CI)(c:CfM)(t:Nat)(hc:c.Sm)(h:r.St c t)(ht:t+1<=640)(a b:Int)(ha: -9223372036854775808<=a/\a<9223372036854775808)(sv:Value)(k:Int)(hk:k=3∨k=4∨k=5)(a8:∃X Y sc,sv= .slice X Y sc):Sp P0 8 [Cr K.p,.agg [Cs k,Cs a,Cs b,sv].toArray] [cm S (FF K L r),pool L] fun v h=>v= Cs (r.do_ k a b).2/\∃L' S',Le L L'/\h=[cm S' (FF K L' (r.do_ k a b).1),pool L']:=by
 obtain⟨p,w,E,F,C,D,I,J,A,H,n,B⟩:=K
 obtain⟨X,Y,sc,rfl⟩:=a8
 obtain⟨a5,a1,b0⟩:=GR ha
 have hnt:=h.net
 rw[do_act hk]
 refine Sq Tryz.func8 fun w0 b_=>?_
 refine Cx (Zr (.p0 .d)) ?_
 rintro _ ⟨va,vc,ecs,ks,Z,S4,S5,hp,rfl⟩
 dsimp only[Lw,NZ,QM]
 refine OA 2 ?_
 refine O6 YR fun b3=>?_
 refine OA 6 ?_
 refine O1 (YK (v':=.bool false) (Zh rfl rfl rfl u31) rfl) ?_
 refine OA 7 ?_
 refine O1 (YK (v':=Cs a5) (ZM rfl rfl rfl) (by rw[a1])) ?_
 refine OA 15 ?_
 refine Cy rfl (fun d=>absurd d (by omega)) fun d=>?_
 refine OA 5 ?_
 refine Cy rfl (fun d=>absurd d (by omega)) fun d=>?_
 refine OA 5 ?_
 refine Cy rfl (fun d=>absurd d (by omega)) fun d=>?_
 refine OA 4 ?_
 refine Cy rfl (fun d=>absurd d (by omega)) fun d=>?_
 refine OA 5 ?_
 refine Cy rfl (fun O=>absurd O (by omega)) fun O=>?_
 refine OA 6 ?_
 refine CP (fun _:Unit=>[(0,Cr p),(3,Cr b3),(47,.bool true)]) (fun _=>[pool L,blk p (.cells (QM (⟨p,w,E,F,C,D,I,J,A,H,n,B⟩:Ed) r (.slice va r.ev.length vc)).toArray 70 (0,0)),sq E A F 49 1 (n.map DG),sq C A D 33 1 (ks.map EK.v),sq I H J 75 1 (B.map DG),sq va r.ev.length vc 62 3 ecs,cm Z (Fi w L r.net),cm S4 (DH (Ee L) ks r.nds),cm S5 (DH (Eg L) B r.cls),blk b3 (.cells [Cs k,Cs a,Cs b,.slice X Y sc].toArray 38 (0,0))]) (fun _=>True) ?_ ?_
 ·refine Cy rfl (fun f=>?_) (fun f=>?_)
  ·refine Tk ?_
   exact⟨(),trivial,⟨rfl,rfl,CT rfl (congrArg Value.bool (AG f)),trivial⟩,.refl _⟩
  refine OA 5 ?_
  refine Cy rfl (fun f=>?_) (fun f=>?_)
  ·refine Tk ?_
   exact⟨(),trivial,⟨rfl,rfl,CT rfl (congrArg Value.bool (AG f)),trivial⟩,.refl _⟩
  refine Tr (O1 (YK (v':=.bool true) (Ct.eql rfl rfl rfl) (congrArg Value.bool (AG (by omega)))) ?_)
  refine OA 2 ?_
  exact⟨(),trivial,Sb3,.refl _⟩
 rintro⟨⟩ _
 conv=>arg 4;dsimp only
 conv=>arg 5;dsimp only
 refine CE rfl (fun f=>?_) (fun f=>?_)
 ·refine OA 6 ?_
  refine Oc rfl (en 19) rfl (.p6 .d) (TF w Z L r.net) ?_
  rintro _ _ ⟨rfl,S6,rfl⟩
  refine OA 2 ?_
  refine Cy rfl (fun o=>?_) (fun o=>?_)
  ·rw[Ah o]
   refine Tx (Zk (K:=(⟨p,w,E,F,C,D,I,J,A,H,n,B⟩:Ed)) (r:=r) (L:=L) (.p1 (.p1 (.p1 (.p1 (.p1 (.p4 (.p1 (.p1 .d)))))))) hp (.refl _) (.refl _) (.refl _) (.refl _)) fun S7=>Tp (.t2 (.t0 .e)) (OA 4 ?_)
   exact Cu (Rr ⟨rfl,L,S7,.refl _,rfl⟩)
  rw[Aa o]
  refine OA 13 ?_
  refine Cy rfl (fun P=>absurd P (by omega)) fun P=>?_
  refine OA 5 ?_
  refine Cy rfl (fun Q=>absurd Q (by omega)) fun Q=>?_
  refine OA 6 ?_
  refine CP (fun _:Unit=>[(0,Cr p),(3,Cr b3),(98,.bool true)]) (fun _=>[pool L,blk p (.cells (QM (⟨p,w,E,F,C,D,I,J,A,H,n,B⟩:Ed) r (.slice va r.ev.length vc)).toArray 70 (0,0)),sq E A F 49 1 (n.map DG),sq C A D 33 1 (ks.map EK.v),sq I H J 75 1 (B.map DG),sq va r.ev.length vc 62 3 ecs,cm S4 (DH (Ee L) ks r.nds),cm S5 (DH (Eg L) B r.cls),blk b3 (.cells [Cs k,Cs a,Cs b,.slice X Y sc].toArray 38 (0,0)),cm S6 (Fi w L r.net)]) (fun _=>True) ?_ ?_
  ·refine Cy rfl (fun m=>?_) (fun m=>?_)
   ·refine Tk ?_
    exact⟨(),trivial,⟨rfl,rfl,CT rfl (congrArg Value.bool (AG m)),trivial⟩,.refl _⟩
   refine OA 5 ?_
   refine Cy rfl (fun m=>?_) (fun m=>?_)
   ·refine Tk ?_
    exact⟨(),trivial,⟨rfl,rfl,CT rfl (congrArg Value.bool (AG m)),trivial⟩,.refl _⟩
   refine Tr (O1 (YK (v':=.bool true) (Ct.eql rfl rfl rfl) (congrArg Value.bool (AG (by omega)))) ?_)
   refine OA 2 ?_
   exact⟨(),trivial,Sb3,.refl _⟩
  rintro⟨⟩ _
  conv=>arg 4;dsimp only
  conv=>arg 5;dsimp only
  refine CE rfl (fun m=>?_) (fun m=>?_)
  ·refine OA 6 ?_
   refine Oc rfl (en 25) rfl (.p9 .d) (Nf w S6 L r.net hnt.ways (by have:=hnt.fewW;omega)) ?_
   rintro _ _ ⟨na,nc,S7,rfl,rfl⟩
   refine OA 2 ?_
   obtain⟨a3,a4⟩:=hnt.links o
   have hlf:=OI hnt
   have hlp:=List.length_pos_iff.2 a3
   have hm:=BR a (show(r.net.links.length:Int)≠0 by omega)
   have hm2:=BI a (show(0:Int)<r.net.links.length by omega)
   obtain⟨j,hj⟩:∃j:Nat,a%(r.net.links.length:Int)=(j:Int):=⟨(a%(r.net.links.length:Int)).toNat,by omega⟩
   obtain⟨l,U⟩:∃l,r.net.links[j]? =some l:=⟨_,Ae (by omega)⟩
   have hlk:r.lnk a=l:=by
    show r.net.links.getD (a%r.net.links.length).toNat 0=l
    rw[hj,Bf,AB,U];rfl
   obtain⟨hlo,b1⟩:=a4 l (Aj U)
   have hlen:r.net.len l<=500:=by
    obtain⟨x,hx⟩:∃x,x=r.net.way l:=⟨_,rfl⟩
    have:=hnt.n
    show((r.net.way l).length:Int)<=500
    unfold Dn.way
    cases e:alk l r.net.ways with
    |none=>simp
    |some y=>have:=Qp (HG e);dsimp only[Option.getD]at this ⊢;omega
   obtain⟨q,hq⟩:∃q,q=r.pos a b:=⟨_,rfl⟩
   have a6:b%r.net.len l=q:=by rw[hq];unfold CI.pos;rw[hlk]
   rw[<-hq,hlk]
   have hcl:∀z u,(FB l)[z]? =some u->(r.net.links.flatMap FB)[j*2+z]? =some u:=ED (g:=FB) (s:=2) (fun _=>rfl) U
   have hg1:=PJ a r.net.links.length (by omega)
   rw[hj]at hg1
   have hg2:=PJ b (r.net.len l) (by omega)
   rw[a6]at hg2
   refine CM at10 Reads.sq (hcl 0 _ rfl) fun ad a2=>?_
   subst a2
   refine OA 7 ?_
   refine O5 (Zc rfl (en 26) rfl (hg1)) ?_
   refine O1 (Jt j u77) ?_
   refine O1 (YW (j:=j*2) u80 Reads.sq hcl rfl) ?_
   refine O6 (YQ zr80) fun b7=>?_
   refine OA 3 ?_
   refine Cw (.s (.t (.s6 (.t (.s2 (.t .d)))))) rfl (fun j=>false) ?_
   intro a7
   refine DA [0,1,2,3,4,5,6] ?_
   refine Da 7 ?_
   refine DB rfl rfl (en 27) rfl (.p9 .d) (WV w S7 L r.net l) ?_
   rintro _ _ ⟨rfl,S8,rfl⟩
   refine ys (Da 8 ?_)
   refine Gz rfl (Zc rfl (en 26) rfl (hg2)) ?_
   refine D1 9 rfl FC ?_
   refine OA 2 ?_
   refine Cw (.s (.t .d)) rfl (fun j=>false) ?_
   intro a7
   refine D1 0 rfl DC ?_
   refine D1 1 rfl (Qa2 (xs:=[.tmp 124]) (ys:=[]) (us:=[_]) (vs:=[]) rfl rfl rfl) ?_
   refine DA [2,3,4,5,6] ?_
   refine D1 7 rfl (Qa2 (xs:=[.tmp 130]) (ys:=[]) (us:=[_]) (vs:=[]) rfl rfl rfl) ?_
   refine DA [8,9,10,11,12] ?_
   refine D1 13 rfl (Qa2 (xs:=[.tmp 136]) (ys:=[]) (us:=[_]) (vs:=[]) rfl rfl rfl) ?_
   refine DA [14,17] ?_
   refine Da 15 ?_
   refine D6 rfl (Lbs [Cs 0,.nilFunc,Cs 0,.nilFunc,Cs 0,.nilFunc] u86) ?_
   rintro _ _ ⟨N,rfl,rfl⟩
   refine ys (D1 16 rfl (MV u86) ?_)
   refine D0 (Tx (Zk (K:=(⟨p,w,E,F,C,D,I,J,A,H,n,B⟩:Ed)) (r:=r) (L:=L) (.p1 (.p1 (.p1 (.p1 (.p1 (.p6 (.p1 (.p1 .d)))))))) hp (.refl _) (.refl _) (.refl _) (.refl _)) fun S9=>Tp (.t1 (.t2 (.t2 (.t2 (.t0 .e))))) (Tb (CD (fun((i,L2,R,M):Nat×PL×N_×CI)=>[(3,Cr b3),(7,Cr b7),(8,Cs q),(139,.slice (some ⟨N,0,none⟩) 3 3),(140,Cs 3),(141,Cs (i:Int))]) (fun(i,L2,R,M)=>[blk b3 (.cells [Cs k,Cs a,Cs b,.slice X Y sc].toArray 38 (0,0)),blk b7 (.cells (FB l).toArray 80 (0,0)),blk N (.cells (factV (⟨p,w,E,F,C,D,I,J,A,H,n,B⟩:Ed)).toArray 85 (0,0)),cm R (FF (⟨p,w,E,F,C,D,I,J,A,H,n,B⟩:Ed) L2 M),pool L2]) (fun(i,L2,R,M)=>i<=3/\Le L L2/\M=r.acted k i l q) (fun(i,_)=>3-i) (0,L,S9,r) ?_ ?_)))
   ·exact⟨⟨Af _,.refl _,(Aa (by omega)).symm⟩,Sb6,.refl _⟩
   rintro⟨i,L2,R,M⟩ ⟨hi,T,V⟩
   conv=>arg 7;dsimp only
   conv=>arg 8;dsimp only
   refine OA 5 ?_
   refine Cy rfl (fun W=>?_) (fun W=>?_)
   ·have hav:=factV_at (⟨p,w,E,F,C,D,I,J,A,H,n,B⟩:Ed) (i:=i) (by omega)
    have hac:=fun S' L' r' (h':CI.St r' c t)=>act_cl (⟨p,w,E,F,C,D,I,J,A,H,n,B⟩:Ed) S' L' r' c t hc h' ht l q hlo i (by omega)
    obtain⟨ff,fu,hfv⟩:=factF_sh (⟨p,w,E,F,C,D,I,J,A,H,n,B⟩:Ed) i
    rw[hfv]at hav hac
    refine OA 5 ?_
    refine O1 (Jt i u86) ?_
    refine O1 (YW (j:=i*2) u85 Reads.blk hav rfl) ?_
    refine O6 (YQ zr85) fun a9=>?_
    refine OA 10 ?_
    refine Cy rfl (fun G=>?_) (fun G=>?_)
    ·obtain rfl:M=r:=V.trans (Aa (by omega))
     refine OA 5 ?_
     refine O2 (LO.cl (ys:=[.tmp 152,.tmp 153]) (vs:=[gA (FB l),Cs q]) rfl rfl rfl (.p3 (.p3 .d)) (hac R L2 M h)) ?_
     rintro _ _ ⟨_,⟨L3,Z,a0,rfl⟩,rfl⟩
     refine OA 5 ?_
     exact⟨(i+1,L3,Z,_),⟨⟨by omega,T.trans a0,by unfold CI.acted;rw[Ah (by omega),G]⟩,⟨rfl,rfl,rfl,rfl,rfl,Dd rfl (by omega),trivial⟩,.cons_cons _ (.cons_cons _ (.cons_cons _ (.cons _ (.refl _))))⟩,by simp only;omega⟩
    refine OA 5 ?_
    exact⟨(i+1,L2,R,M),⟨⟨by omega,T,by rw[V];unfold CI.acted;by_cases e:k<3+(i:Int);(·rw[Ah e,Ah (by omega)]);(·rw[Aa e,Aa (by omega)])⟩,⟨rfl,rfl,rfl,rfl,rfl,Dd rfl (by omega),trivial⟩,.cons_cons _ (.cons_cons _ (.cons_cons _ (.cons_cons _ (.cons_cons _ (.cons _ (.refl _))))))⟩,by simp only;omega⟩
   obtain rfl:i=3:=by omega
   rw[show r.act k l q=M from(Ah (by omega)).symm.trans V.symm]
   refine Tp (.t3 (.t3 .e)) (OA 5 ?_)
   exact Cu (Rr ⟨rfl,L2,R,T,rfl⟩)
  cases m
 cases f
theorem ID(K:Ed)(S:N_)(L:PL)(r:CI)(c:CfM)(t:Nat)(hc:c.Sm)(h:r.St c t)(ht:t+1<=640)(a b:Int)(ha: -9223372036854775808<=a/\a<9223372036854775808)(sv:Value)(l:GLB L)(hb: -9223372036854775808<=b/\b<9223372036854775808)(zs:List Int)(i:zs.length<=maxLen)(g:∃f sc,sv= .slice f zs.length sc/\Reads (pool L) f (iv zs))(k:Int)(hk:k≠10):Sp P0 8 [Cr K.p,.agg [Cs k,Cs a,Cs b,sv].toArray] [cm S (FF K L r),pool L] fun v h=>v= Cs (r.do_ k a b).2/\∃L' j,Le L L'/\h=[cm j (FF K L' (r.do_ k a b).1),pool L']:=by
 have d:∃f m sc,sv= .slice f m sc:=let ⟨f,sc,e,_⟩:=g;⟨f,_,sc,e⟩
 by_cases h0:k<1∨10<k
 ·exact Yf K S L r c t hc h ht a b ha sv k h0 d
 by_cases h3:k=3∨k=4∨k=5
 ·exact YE K S L r c t hc h ht a b ha sv k h3 d
 rcases (show k=1∨k=2∨k=6∨k=7∨k=8∨k=9 by omega)with rfl|rfl|rfl|rfl|rfl|rfl
 ·exact XV K S L r c t hc h ht a b ha sv d
 ·exact Yj K S L r c t hc h ht a b ha sv d
 ·exact Xg K S L r c t hc h ht a b ha sv hb d
 ·exact Xp K S L r c t hc h ht a b ha sv d
 ·exact Xl K S L r c t hc h ht a b ha sv zs i g
 ·exact Xt K S L r c t hc h ht a b ha sv l d
theorem XH{n j:Nat}{s F:CI×Nat}(hj:j<n)(h:ZV (n-j) s=F):ZV (n-(j+1)) (CI.round s)=F:=by
 rw[show n-j=n-(j+1)+1 by omega]at h;exact h
theorem UK{i:Nat}{s G:CI×Nat}{l:Int}(hi:i<4000)(h:ZI (4000-i) s=G)(hl:s.1.net.links[0]? =some l):ZI (4000-(i+1)) (s.1.take_ l 0,s.2+1)=G:=by
 obtain⟨d,hd⟩:∃d,4000-(i+1)=d:=⟨_,rfl⟩
 rw[show 4000-i=d+1 by omega]at h
 rw[hd]
 unfold ZI at h
 have hh:s.1.net.links.headD 0=l:=by
  cases e:s.1.net.links with
  |nil=>rw[e]at hl;cases hl
  |cons a b=>rw[e]at hl;cases hl;rfl
 rw[Aa (fun e=>by rw[e]at hl;cases hl),hh]at h
 exact h
theorem Xn{k:Nat}{s:CI×Nat}(h:s.1.net.links=[]):ZI k s=s:=by
 cases k with
 |zero=>rfl
 |succ k=>unfold ZI;rw[Ah h]
theorem SR{α:Type}{xs:List α}(h:xs.length=1):∃x,xs=[x]:=by
 match xs,h with
 |[x],_=>exact⟨x,rfl⟩
theorem Uo(K:Ed)(S:N_)(L:PL)(r:CI)(c:CfM)(t:Nat)(hc:c.Sm)(h:r.St c t)(h1:r.One)(n:Nat)(hn:n<=1000)(Z:(ZV n (r.setT r.net.heal,t)).2<=600):
  Sp P0 16 [Cr K.p,Cs n] [cm S (FF K L r),pool L] fun v h=>v= .tuple #[]/\∃K' L' S',Le L L'/\K'.p=K.p/\h=[cm S' (FF K' L' (ZV n (r.setT r.net.heal,t)).1),pool L']:=by
 obtain⟨p,I,M,N,ca,J,la,Q,nk,kk,b,C⟩:=K
 obtain⟨F,hF⟩:∃F,F=ZV n (r.setT r.net.heal,t):=⟨_,rfl⟩
 rw[<-hF]at Z ⊢
 refine Sq Tryz.func16 fun w0 b_=>?_
 refine Cx (Zr (.p0 .d)) ?_
 rintro _ ⟨va,vc,ecs,ks,S3,D,S5,hp,rfl⟩
 dsimp only[Lw,NZ,QM]
 have hnn:nk=1:=by
  obtain⟨x,y,hx,hy⟩:=h1
  have q:r.nds.length=nk:=hp.nn
  rw[hx]at q;exact q.symm
 have hkn:kk=1:=by
  obtain⟨x,y,hx,hy⟩:=h1
  have q:r.cls.length=kk:=hp.kn
  rw[hy]at q;exact q.symm
 subst hnn hkn
 refine CO (fun w hw=>hw.sqNN (ao:=ca) at3 (by omega)) fun⟨g,hgg⟩=>?_
 subst hgg
 refine CO (fun w hw=>hw.sqNN (ao:=la) at4 (by omega)) fun⟨g2,hgg2⟩=>?_
 subst hgg2
 refine OA 4 ?_
 refine O1 (YK (v':=.bool false) (Zh rfl rfl rfl u31) rfl) ?_
 refine OA 9 ?_
 refine Oc rfl (en 32) rfl (.p6 .d) (Pb I S3 L r.net) ?_
 rintro _ _ ⟨rfl,S6,rfl⟩
 refine On (Tx (Zk (K:=(⟨p,I,M,N,some ⟨g,0,none⟩,J,some ⟨g2,0,none⟩,Q,1,1,b,C⟩:Ed)) (r:=r.setT r.net.heal) (L:=L) (.p1 (.p1 (.p1 (.p1 (.p1 (.p3 (.p1 (.p1 .d)))))))) ⟨hp.dps,hp.ks,hp.qs,hp.nn,hp.kn,hp.ev⟩ (.refl _) (.refl _) (.refl _) (.refl _)) fun S7=>Tp (.t1 (.t0 .e)) (OA 6 ?_))
 refine CD (fun((j,L2,W,s):Nat×PL×N_×(CI×Nat))=>[(0,Cr p),(16,Cs n),(17,Cs (j:Int))]) (fun(j,L2,W,s)=>[cm W (FF (⟨p,I,M,N,some ⟨g,0,none⟩,J,some ⟨g2,0,none⟩,Q,1,1,b,C⟩:Ed) L2 s.1),pool L2]) (fun(j,L2,W,s)=>j<=n/\Le L L2/\s.1.St c s.2/\s.1.One/\ZV (n-j) s=F) (fun(j,_)=>n-j) (0,L,S7,(r.setT r.net.heal,t)) ?_ ?_
 ·exact⟨⟨Af _,.refl _,h.setT h.net.heal,h1,hF.symm⟩,Sb3,.refl _⟩
 clear hp
 rintro⟨j,L2,W,s⟩ ⟨hj,Y,hst,T,hcm⟩
 conv=>arg 7;dsimp only
 conv=>arg 8;dsimp only
 refine OA 5 ?_
 refine Cy rfl (fun a0=>?_) (fun a0=>?_)
 ·have hcm2:=XH (by omega) hcm
  obtain⟨G,hG⟩:∃G,G=CI.round s:=⟨_,rfl⟩
  rw[<-hG]at hcm2
  have hGle:=Wd (n-(j+1)) G
  have hsle:=Rp s
  rw[hcm2]at hGle
  rw[<-hG]at hsle
  obtain⟨x,y,hx,hy⟩:=id T
  refine Cx (Zr (.p0 .d)) ?_
  rintro _ ⟨va,vc,ecs,ks,S3,D,S5,hp,rfl⟩
  dsimp only[Lw,NZ,QM]
  obtain⟨k,a7⟩:=SR (show ks.length=1 from hp.ks)
  have hk:ks[0]? =some k:=by rw[a7];rfl
  have hn0:s.1.nds[0]? =some ⟨true,x⟩:=by rw[hx];rfl
  have U:(ks.map EK.v)[0]? =some k.v:=by rw[Aq,hk];rfl
  have hst0:=hst.nd 0 _ hn0
  have hio:=hst0.tkOut hc (by omega)
  have hs1:=hst.tickN hc (by omega) 0
  have ho1:=T.tickN 0
  rw[MD hn0]at hs1 ho1
  have hG2:ZI 4000 ((s.1.doN 0 (⟨true,x⟩:Fz).tick).tickC 0,s.2+2)=G:=by rw[hG,<-MD hn0];rfl
  refine Cx (ZC (.p7 .d) hk hn0) ?_
  rintro _ ⟨S6,S7,rfl⟩
  refine OA 14 ?_
  refine Ho 2 ?_
  refine Dv ?_
  refine OA 12 ?_
  refine O1 (Km 0 u66) ?_
  refine O1 (YV u33 U) ?_
  refine OA 7 ?_
  refine Oc rfl (en 18) rfl (.p8 .d) (Jp k S6 L2 ⟨true,x⟩) ?_
  rintro _ _ ⟨rfl,S8,rfl⟩
  refine OA 10 ?_
  refine O1 (Km 0 u66) ?_
  refine O1 (YV u33 U) ?_
  refine Oc rfl (en 20) rfl (.p9 (.p0 .d)) (Nd k S8 L2 ⟨true,x⟩ 0 N0 (1+8*s.2+8) (hst0.tkOk hc (by omega))) ?_
  rintro _ _ ⟨rfl,L3,X,O,rfl⟩
  refine OA 8 ?_
  refine O1 (Km 0 u66) ?_
  refine O1 (YV u33 U) ?_
  refine Oc rfl (en 22) rfl (.p8 .d) (Iz k X L3 (⟨true,x⟩:Fz).tick) ?_
  rintro _ _ ⟨S10,oa,oc,mcs,rfl,a9,rfl⟩
  refine Oi (Cv.up (B:=DH (Ee L3) (ks.eraseIdx 0) (s.1.nds.eraseIdx 0)) s7 (fun _ h=>h.mono fun _ _ _ h=>Ee.le O _ _ _ h)) ?_
  refine CL (ZN (.p9 (.p7 .d)) (Ab.1 hk).1 (Ab.1 hn0).1) ?_
  rintro _ ⟨S11,rfl⟩
  rw[Dc hk]
  refine CL (Zk (K:=(⟨p,I,M,N,some ⟨g,0,none⟩,J,some ⟨g2,0,none⟩,Q,1,1,b,C⟩:Ed)) (r:=s.1.setN 0 (⟨true,x⟩:Fz).tick.took) (L:=L3) (.p0 (.p0 (.p0 (.p0 (.p0 (.p0 (.p3 (.p0 .d)))))))) (hp.setN2 _ _) O (.refl _) O O) ?_
  rintro _ ⟨S12,rfl⟩
  refine Oc rfl (en 21) rfl (.p2 (.p0 (.p0 .d))) (Hw (⟨p,I,M,N,some ⟨g,0,none⟩,J,some ⟨g2,0,none⟩,Q,1,1,b,C⟩:Ed) S12 L3 (s.1.setN 0 (⟨true,x⟩:Fz).tick.took) (s.2+1) (40000000*s.2) (hst.net.le (AL s.2) (Al _)) (⟨true,x⟩:Fz).tick.outs (by have:=hio.2;omega) hio.1 oa oc mcs a9) ?_
  rintro _ _ ⟨rfl,d,S13,f,rfl⟩
  refine OA 5 ?_
  refine Dv ?_
  refine OA 9 ?_
  clear hp
  obtain⟨s1,E⟩:∃s1,s1=s.1.doN 0 (⟨true,x⟩:Fz).tick:=⟨_,rfl⟩
  rw[<-E]at hs1 ho1 hG2
  rw[show(s.1.setN 0 (⟨true,x⟩:Fz).tick.took).sends (⟨true,x⟩:Fz).tick.outs=s1 from E.symm]
  clear E
  obtain⟨x1,y1,b4,b2⟩:=id ho1
  refine Cx (Zr (.p0 .d)) ?_
  rintro _ ⟨va,vc,ecs,ks,S3,D,S5,hp,rfl⟩
  dsimp only[Lw,NZ,QM]
  obtain⟨q,b0⟩:=SR (show C.length=1 from hp.qs)
  have hq:C[0]? =some q:=by rw[b0];rfl
  have H:s1.cls[0]? =some y1:=by rw[b2];rfl
  have b1:(C.map DG)[0]? =some (Cr q):=by rw[Aq,hq];rfl
  have hys0:=hs1.cl 0 y1 H
  refine Cx (ZC (.p8 .d) hq H) ?_
  rintro _ ⟨S6,S7,rfl⟩
  refine Tx (Cv.clU (.p8 .d)) fun S8=>OA 9 ?_
  refine Ho 2 ?_
  refine Dv ?_
  refine OA 11 ?_
  refine O1 (Km 0 u67) ?_
  refine O1 (YV u75 b1) ?_
  refine OA 5 ?_
  refine Oc rfl (en 23) rfl (.p9 (.p0 .d)) (LC q S8 d y1 _ hys0.fit (by omega)) ?_
  rintro _ _ ⟨rfl,V,X,o,rfl⟩
  refine OA 4 ?_
  obtain⟨z,hz⟩:∃z,z=y1.tick:=⟨_,rfl⟩
  have hys:=hys0.tick hc
  have hG3:ZI 4000 (s1.doneC 0 z,s.2+2)=G:=by rw[<-hG2,hz];unfold CI.tickC;rw[H]
  have R:(s1.doneC 0 z).St c (s.2+2):=by have:=hs1.tickC hc (by omega) 0;unfold CI.tickC at this;rw[H]at this;rw[hz];exact this
  have ho2:=ho1.doneC 0 z
  rw[<-hz]at hys ⊢
  have hyp:=hys.fit.post.out;have hye:=hys.fit.events;have hre:=hs1.ev
  have b3:(s1.setC 0 z).cls[0]? =some z:=by show(s1.cls.set 0 z)[0]? =_;rw[Bj (Ab.1 H).1]
  refine Oi (Cv.up (B:=Eg V q z) s8 Eg.of) ?_
  refine Oi (Cv.up (B:=DH (Eg V) (C.eraseIdx 0) (s1.cls.eraseIdx 0)) s7 (fun _ h=>h.mono fun _ _ _ h=>Eg.le o _ _ _ h)) ?_
  refine CL (ZN (.p8 (.p7 .d)) (Ab.1 hq).1 (Ab.1 H).1) ?_
  rintro _ ⟨S10,rfl⟩
  rw[Dc hq]
  refine CL (Zk (K:=(⟨p,I,M,N,some ⟨g,0,none⟩,J,some ⟨g2,0,none⟩,Q,1,1,b,C⟩:Ed)) (r:=s1.setC 0 z) (L:=V) (.p0 (.p0 (.p0 (.p0 (.p0 (.p0 (.p0 (.p1 .d)))))))) (hp.setC2 _ _) o o (.refl _) o) ?_
  rintro _ ⟨S11,rfl⟩
  refine Oc rfl (en 24) rfl (.p1 (.p0 .d)) (HQ (⟨p,I,M,N,some ⟨g,0,none⟩,J,some ⟨g2,0,none⟩,Q,1,1,b,C⟩:Ed) S11 V (s1.setC 0 z) (s.2+2) (40000000*(s.2+1)) 0 q z hq b3 (hs1.net.le (AL _) (Al _)) (by omega) (fun m hm=>(hys.post.out m hm).le (Af _)) (by show s1.ev.length+_<=_;omega)) ?_
  rintro _ _ ⟨rfl,L6,S12,a3,rfl⟩
  refine OA 5 ?_
  refine Dv ?_
  refine OA 8 ?_
  clear hp
  rw[KL]
  obtain⟨s2,E⟩:∃s2,s2=s1.doneC 0 z:=⟨_,rfl⟩
  rw[<-E]at R ho2 hG3 ⊢
  clear E
  have a4:Le L L6:=Y.trans (O.trans (f.trans (o.trans a3)))
  refine OA 3 ?_
  refine CP (fun((d,D,u):PL×N_×(CI×Nat))=>[(0,Cr p),(16,Cs n),(17,Cs (j:Int))]) (fun(d,D,u)=>[cm D (FF (⟨p,I,M,N,some ⟨g,0,none⟩,J,some ⟨g2,0,none⟩,Q,1,1,b,C⟩:Ed) d u.1),pool d]) (fun(d,D,u)=>Le L d/\u.1.St c u.2/\u.1.One/\u=G) ?_ ?_
  ·refine Tb (CD (fun((i,d,D,u):Nat×PL×N_×(CI×Nat))=>[(0,Cr p),(16,Cs n),(17,Cs (j:Int)),(82,Cs (i:Int))]) (fun(i,d,D,u)=>[cm D (FF (⟨p,I,M,N,some ⟨g,0,none⟩,J,some ⟨g2,0,none⟩,Q,1,1,b,C⟩:Ed) d u.1),pool d]) (fun(i,d,D,u)=>i<=4000/\Le L d/\u.1.St c u.2/\u.1.One/\ZI (4000-i) u=G) (fun(i,_)=>4000-i) (0,L6,S12,(s2,s.2+2)) ?_ ?_)
   ·exact⟨⟨Af _,a4,R,ho2,hG3⟩,Sb4,.refl _⟩
   clear R ho2 hG3 hG2 hs1 ho1 hys
   rintro⟨i,d,D,u⟩ ⟨hi,f,e,P,A⟩
   conv=>arg 7;dsimp only
   conv=>arg 8;dsimp only
   refine OA 5 ?_
   refine Cy rfl (fun a1=>?_) (fun a1=>?_)
   ·have hdle:=JM (4000-i) u
    rw[A]at hdle
    refine Cx (Zr (.p0 .d)) ?_
    rintro _ ⟨va,vc,ecs,ks,S5,S6,S7,hp,rfl⟩
    dsimp only[Lw,NZ,QM]
    refine OA 9 ?_
    refine Oc rfl (en 25) rfl (.p6 .d) (Nf I S5 d u.1.net e.net.ways (by have:=e.net.fewW;omega)) ?_
    rintro _ _ ⟨na,nc,S8,rfl,rfl⟩
    refine OA 2 ?_
    have hlf:=OI e.net
    refine Tx (Zk (K:=(⟨p,I,M,N,some ⟨g,0,none⟩,J,some ⟨g2,0,none⟩,Q,1,1,b,C⟩:Ed)) (r:=u.1) (L:=d) (.p1 (.p1 (.p1 (.p1 (.p1 (.p3 (.p1 (.p1 .d)))))))) hp (.refl _) (.refl _) (.refl _) (.refl _)) fun X=>OA 7 ?_
    refine Cy rfl (fun a2=>?_) (fun a2=>?_)
    ·have a8:u.1.net.links=[]:=List.length_eq_zero_iff.1 (by omega)
     rw[Xn a8]at A
     refine Tp (.t2 (.t0 .e)) (Te ?_)
     exact⟨(d,X,u),⟨f,e,P,A⟩,Sb3,.refl _⟩
    obtain⟨l,hl⟩:∃l,u.1.net.links[0]? =some l:=⟨_,Ae (by omega)⟩
    have hdr2:=UK (by omega) A hl
    have hule:=JM (4000-(i+1)) (u.1.take_ l 0,u.2+1)
    rw[hdr2]at hule
    have hule:u.2+1<=G.2:=hule
    have hlo:=e.net.lkok (Aj hl)
    have hcl:∀z v,(FB l)[z]? =some v->(u.1.net.links.flatMap FB)[0*2+z]? =some v:=ED (g:=FB) (s:=2) (fun _=>rfl) hl
    refine CM at1 Reads.sq (hcl 0 _ rfl) fun ad a5=>?_
    subst a5
    refine OA 4 ?_
    refine O1 (Jt 0 u77) ?_
    refine O1 (YW (j:=0*2) u80 Reads.sq hcl rfl) ?_
    refine Oc rfl (en 28) rfl (.p2 (.p0 .d)) (Nn (⟨p,I,M,N,some ⟨g,0,none⟩,J,some ⟨g2,0,none⟩,Q,1,1,b,C⟩:Ed) X d u.1 c u.2 hc e (by omega) l 0 hlo) ?_
    rintro _ _ ⟨rfl,V,S10,o,rfl⟩
    refine OA 5 ?_
    exact⟨(i+1,V,S10,(u.1.take_ l 0,u.2+1)),⟨⟨by omega,f.trans o,e.take_ hc (by omega) l 0,P.take_ l 0,hdr2⟩,⟨rfl,rfl,rfl,Dd rfl (by omega),trivial⟩,.cons _ (.refl _)⟩,by simp only;omega⟩
   obtain rfl:i=4000:=by omega
   have A:u=G:=A
   refine Te ?_
   exact⟨(d,D,u),⟨f,e,P,A⟩,Sb3,.refl _⟩
  clear R ho2 hG3 hG2 hs1 ho1 hys
  rintro⟨d,D,u⟩ ⟨f,e,P,rfl⟩
  conv=>arg 4;dsimp only
  conv=>arg 5;dsimp only
  refine OA 4 ?_
  exact⟨(j+1,d,D,u),⟨⟨by omega,f,e,P,hcm2⟩,⟨rfl,rfl,Dd rfl (by omega),trivial⟩,.refl _⟩,by simp only;omega⟩
 have a6:j=n:=by omega
 subst a6
 rw[Cb]at hcm
 have hcm:s=F:=hcm
 subst hcm
 refine Te ?_
 exact Ef rfl (.refl _) ⟨rfl,(⟨p,I,M,N,some ⟨g,0,none⟩,J,some ⟨g2,0,none⟩,Q,1,1,b,C⟩:Ed),L2,W,Y,rfl,rfl⟩
section
open Go Go.ChangeShapes Go.WideShapes Go.Deep
def allL(W:World):PL:=(List.range W.heap.size).map fun k=>(k,(W.heap[k]?).getD (.cells #[] 0 (0,0)))
theorem allL_ids(W:World):(allL W).map (·.1)=List.range W.heap.size:=by
 unfold allL
 rw[List.map_map]
 exact List.map_id _
theorem Td{W:World}{k:Nat}{o:Obj}(h:W.heap[k]? =some o):(k,o)∈allL W:=by
 have hk:k<W.heap.size:=(Bb.1 h).1
 refine AZ.2 ⟨k,List.mem_range.2 hk,?_⟩
 rw[h];rfl
theorem allL_own(W:World):CX W ([pool (allL W)].flatMap CW.ids) [pool (allL W)] W:=by
 have hid:[pool (allL W)].flatMap CW.ids=List.range W.heap.size:=by
  show(allL W).map (·.1)++[]=_
  rw[AH,allL_ids]
 refine⟨rfl,rfl,rfl,Al _,fun _ _ _=>rfl,fun r hr=>?_,?_,fun r hr i hi=>.inr ?_⟩
 ·rw[Ap.1 hr]
  intro p hp
  obtain⟨k,hk,rfl⟩:=AZ.1 hp
  have hk:=List.mem_range.1 hk
  show W.heap[k]? =some ((W.heap[k]?).getD _)
  rw[BS hk];rfl
 ·rw[hid];exact List.nodup_range
 ·rw[Ap.1 hr]at hi
  show i∈(pool (allL W)).ids++[]
  rw[AH];exact hi
theorem allL_law{P:Program}{f:FuncId}{vs:V_}{W:World}(h:Sp P f vs [pool (allL W)] fun v h=>v= .bool true/\∃L',Le (allL W) L'/\h=[pool L']):Calls P f vs.toArray W fun e w'=>e= .returned (.bool true)/\Go.RowKit.Below W.heap.size W w':=
 Calls.mono (h W (allL_own W)) fun _ w' ⟨v,h',he,⟨hv,L',hL,hh⟩,o⟩=>by
  subst hv hh
  refine⟨he,o.os,o.tape,o.output,o.size,fun k hk=>?_⟩
  have hp:=o.mine (pool L') (Ap.2 rfl) _ (hL _ (Td (BS hk)))
  have hp:w'.heap[k]? =some (W.heap[k]):=hp
  rw[hp,BS hk]
theorem PAt.all{W:World}{a:Addr}{v:Value}(h:W.cell? a=some v):PAt (allL W) a v:=by
 obtain⟨b,off,sp⟩:=a
 unfold World.cell? at h
 split at h
 ·rename_i cs T c hb
  cases sp with
  |none=>exact⟨rfl,cs,T,c,Td hb,by simpa using h⟩
  |some _=>cases h
 ·cases h
structure SpM where
 k:Int
 n:Int
 i:Int
 ks:List Int
def SpR(L:PL)(c:V_)(s:SpM):Prop:=∃b d,c=[Cs s.k,Cs s.n,Cs s.i,.slice b s.ks.length d]/\PSl L (.slice b s.ks.length d) s.ks.length (iv s.ks)/\(-9223372036854775808<=s.n/\s.n<9223372036854775808)/\(-9223372036854775808<=s.i/\s.i<9223372036854775808)
theorem SpR.le{L L':PL}(k:Le L L'){c:V_}{s:SpM}(h:SpR L c s):SpR L' c s:=by
 obtain⟨b,d,e,h1,h2⟩:=h
 exact⟨b,d,e,h1.le k,h2⟩
theorem SpR.len{L:PL}(c:V_)(s:SpM)(h:SpR L c s):c.length=4:=by obtain⟨_,_,rfl,_⟩:=h;rfl
theorem II{α:Type}(c:Nat->α->Prop):∀n:Nat,(∀i,i<n->∃a,c i a)->∃l:List α,l.length=n/\∀j a,l[j]? =some a->c j a
 |0,_=>⟨[],rfl,fun j a h=>by cases h⟩
 |n+1,h=>by
  obtain⟨l,hl,hp⟩:=II c n fun i hi=>h i (by omega)
  obtain⟨a,ha⟩:=h n (by omega)
  refine⟨l++[a],by simp[hl],fun j b hj=>?_⟩
  by_cases e:j<n
  ·rw[Bh (by omega)]at hj
   exact hp j b hj
  ·have hlt:=(Ab.1 hj).1
   simp only[List.length_append,List.length_singleton]at hlt
   obtain rfl:j=l.length:=by omega
   rw[Bl (by omega)]at hj
   simp at hj
   subst hj
   rw[hl];exact ha
theorem WI{L:PL}{a:Addr}:∀(ss:List SpM) (off:Nat),(∀j s,ss[j]? =some s->∃cs,SpR L cs s/\∀q u,cs[q]? =some u->PAt L (a.add ((off+j)*4+q)) u)->∃scs,Rws (SpR L) scs ss/\∀q u,scs[q]? =some u->PAt L (a.add (off*4+q)) u
 |[],_,_=>⟨[],.nil,fun _ _ h=>by cases h⟩
 |s::ss,off,h=>by
  obtain⟨cs,h1,h2⟩:=h 0 s rfl
  obtain⟨scs,h3,h4⟩:=WI ss (off+1) fun j s' hj=>by
   obtain⟨cs',k1,k2⟩:=h (j+1) s' hj
   exact⟨cs',k1,fun q u hq=>by rw[show(off+1+j)*4+q=(off+(j+1))*4+q by omega];exact k2 q u hq⟩
  have hl:=SpR.len _ _ h1
  refine⟨cs++scs,.cons h1 h3,fun q u hq=>?_⟩
  by_cases e:q<4
  ·rw[Bh (by omega)]at hq
   have:=h2 q u hq
   rwa [show off+0=off from rfl]at this
  ·rw[Bl (by omega)]at hq
   have:=h4 (q-cs.length) u hq
   rwa [show(off+1)*4+(q-cs.length)=off*4+q by omega]at this
theorem wfI{a:Int}(h:(Lit.int .i64 a).wf=true): -9223372036854775808<=a/\a<9223372036854775808:=by have:=wf_i64 h;omega
section
variable {H:Type}{enc:TypeId×Value->H}{P:Program}{W:World}{base:Nat}{spare:Nat->Bool}{held:Bool}{f_:Nat}
theorem OC{t e:TypeId}{cs:V_}{x:DataW H×List MemPlace}(ht:P.underlying t=some (.slice e))(he:P.underlying e=some (.int .i64))(k:P.cellsOf e=1)(h:DataW.trod enc P W base spare held f_ t cs=some x):
  ∃(zs:List Int) (a:A_) (cap:Nat),cs=[.slice a zs.length cap]/\PSl (allL W) (.slice a zs.length cap) zs.length (iv zs):=by
 rcases open_slice1 ht k h with ⟨h0,_⟩|⟨a,len,cap,m,n,V,D,o,b,hb,hl,hm,c,_,hx⟩
 ·exact⟨[],none,0,h0,none,0,rfl,Al _,Af _,fun i u h=>by cases h⟩
 ·have l:len<=m:=by rw[c];split<;>omega
  obtain⟨zs,g,hz⟩:=II (fun j (z:Int)=>PAt (allL W) (a.add j) (Cs z)) len fun i hi=>by
   obtain⟨h1,h2⟩:=hx i (by omega)
   obtain⟨z,e1,_,_⟩:=DataW.trod_int he h2
   simp at e1
   rw[e1]at h1
   exact⟨z,PAt.all h1⟩
  refine⟨zs,some a,cap,by rw[b,g],some a,cap,rfl,by omega,by omega,fun i u d=>⟨a,rfl,?_⟩⟩
  unfold iv at d
  rw[Aq]at d
  obtain⟨z,f,rfl⟩:=Option.map_eq_some_iff.1 d
  exact hz i z f
theorem MG{t:TypeId}{b:Array Field}{cs:V_}{x:DataW H×List MemPlace}(hs:P.underlying t=some (.struct b))(h:DataW.trod enc P W base spare held f_ t cs=some x):
  cs.length=P.cellsOf t/\∃n:Nat,∀(j:Nat) (f:Field),b[j]? =some f->∃y,DataW.trod enc P W base spare held n f.type ((cs.drop f.offset).take (P.cellsOf f.type))=some y:=by
 obtain⟨xs,n,_,_,hlen,hxl,hf⟩:=DataW.trod_struct hs h
 refine⟨hlen,n,fun j f hj=>?_⟩
 have hjl:j<b.size:=(Bb.1 hj).1
 have h1:=hf j f hj
 rw[Ae (show j<xs.length by omega)]at h1
 exact⟨_,h1⟩
end
open Go.Cru Go.ChangeShapes Go.WideShapes Go.Deep
section
variable {H:Type}{enc:TypeId×Value->H}{W:World}{base:Nat}{spare:Nat->Bool}{held:Bool}{f_:Nat}
def i64F(P:Program)(b:Array Field)(j off:Nat):Bool:=match b[j]? with
 |some f=>Nat.beq f.offset off && Nat.beq (P.cellsOf f.type) 1 && match P.underlying f.type with
  |some (.int .i64)=>true
  |_=>false
 |_=>false
theorem DY{P:Program}{b:Array Field}{j off:Nat}{cs:V_}{n:Nat}(h:i64F P b j off=true)(hf:∀(j:Nat) (f:Field),b[j]? =some f->∃y,DataW.trod enc P W base spare held n f.type ((cs.drop f.offset).take (P.cellsOf f.type))=some y):∃z:Int,(cs.drop off).take 1=[Cs z]/\(-9223372036854775808<=z/\z<9223372036854775808):=by
 unfold i64F at h
 split at h
 ·rename_i f hj
  rw[Br,Br]at h
  obtain⟨⟨h1,h2⟩,h3⟩:=h
  split at h3
  ·rename_i c
   obtain⟨y,hy⟩:=hf j f hj
   rw[BK h1,BK h2]at hy
   obtain⟨z,e,_,hw⟩:=DataW.trod_int c hy
   exact⟨z,e,wfI hw⟩
  ·cases h3
 ·cases h
theorem Xa{cs:V_}{x:DataW H×List MemPlace}(h:DataW.trod enc P0 W base spare held f_ 38 cs=some x):∃s,SpR (allL W) cs s:=by
 obtain⟨hl,n,hf⟩:=MG u38 h
 rw[show P0.cellsOf 38=4 by kernel_rfl]at hl
 match cs,hl with
 |[d,c1,c2,b],_=>
  obtain⟨k,e0,_⟩:=DY (j:=0) (off:=0) (by kernel_rfl) hf
  obtain⟨nn,e1,w1⟩:=DY (j:=1) (off:=1) (by kernel_rfl) hf
  obtain⟨i,e2,c⟩:=DY (j:=2) (off:=2) (by kernel_rfl) hf
  obtain⟨y,e3⟩:=hf 3 _ rfl
  obtain⟨zs,a,cap,e4,hp⟩:=OC u28 u3 (by kernel_rfl) e3
  cases e0;cases e1;cases e2
  have e4:[b]=[Value.slice a zs.length cap]:=e4
  cases e4
  exact⟨⟨k,nn,i,zs⟩,a,cap,rfl,hp,w1,c⟩
theorem open_script{r:Reach}{g:Nat}{v:Value}{d:DataW H}{p:List MemPlace}(hv:Value.okWide P0 W r g 27 v)(h:DataW.Trod enc P0 W base spare held 27 v d p):
  ∃(a:A_) (cap:Nat) (ss:List SpM) (scs:V_),v= .slice a ss.length cap/\ss.length<=maxLen/\Rws (SpR (allL W)) scs ss/\PSl (allL W) (.slice a ss.length cap) ss.length scs:=by
 obtain⟨a1,c,b,rfl⟩:=okWide_slice u27 hv
 obtain⟨f_,hf⟩:=h
 rcases open_slice u27 hf with ⟨h0,_⟩|⟨a,len,cap,m,n,D,l,e,hb,hl,hm,f,_,hx⟩
 ·simp[Value.cells]at h0
  obtain⟨rfl,rfl,rfl⟩:=h0
  exact⟨none,0,[],[],rfl,Af _,.nil,none,0,rfl,Al _,Af _,fun i u h=>by cases h⟩
 ·simp[Value.cells]at e
  obtain⟨rfl,rfl,rfl⟩:=e
  have k:c<=m:=by rw[f];split<;>omega
  obtain⟨ss,hsl,hsp⟩:=II (fun j (s:SpM)=>∃cs,SpR (allL W) cs s/\∀q u,cs[q]? =some u->PAt (allL W) (a.add ((0+j)*4+q)) u) c fun i hi=>by
   obtain⟨cs',hc,ht⟩:=hx i (by omega)
   rw[show P0.cellsOf 38=4 by kernel_rfl]at hc
   obtain⟨s,hs⟩:=Xa ht
   obtain⟨_,hcl,hat⟩:=World.cells?_some hc
   refine⟨s,cs',hs,fun q u hq=>PAt.all ?_⟩
   have:=hat q (by have:=(Ab.1 hq).1;omega)
   rw[hq,Go.Cru.add_add]at this
   rw[AE];exact this
  obtain⟨scs,h1,h2⟩:=WI ss 0 hsp
  refine⟨some a,b,ss,scs,by rw[hsl],by omega,h1,some a,b,rfl,by omega,by omega,fun q u hq=>⟨a,rfl,?_⟩⟩
  have:=h2 q u hq
  rwa [Nat.zero_mul,AE]at this
theorem open_nums{r:Reach}{f:Nat}{v:Value}{d:DataW H}{p:List MemPlace}(hv:Value.okWide P0 W r f 28 v)(h:DataW.Trod enc P0 W base spare held 28 v d p):
  ∃(a:A_) (cap:Nat) (zs:List Int),v= .slice a zs.length cap/\zs.length<=maxLen/\PSl (allL W) (.slice a zs.length cap) zs.length (iv zs):=by
 obtain⟨a1,c,b,rfl⟩:=okWide_slice u28 hv
 obtain⟨f_,hf⟩:=h
 obtain⟨zs,a,cap,e,hp⟩:=OC u28 u3 (by kernel_rfl) hf
 simp[Value.cells]at e
 obtain⟨rfl,rfl,rfl⟩:=e
 exact⟨a1,b,zs,rfl,by obtain⟨_,_,_,_,h,_⟩:=id hp;exact h,hp⟩
theorem open_conf{r:Reach}{E:Nat}{v:Value}{d:DataW H}{p:List MemPlace}(hv:Value.okWide P0 W r E 26 v)(h:DataW.Trod enc P0 W base spare held 26 v d p):
  ∃c:CfM,v= .agg (cfv c).toArray/\c.seed<18446744073709551616:=by
 obtain⟨cs,rfl,_⟩:=okWide_struct u26 hv
 obtain⟨f_,hf⟩:=h
 obtain⟨hl,n,hf⟩:=MG u26 hf
 rw[show P0.cellsOf 26=16 by kernel_rfl]at hl
 obtain⟨cs⟩:=cs
 have hl:cs.length=16:=by simpa [Value.cells] using hl
 match cs,hl with
 |[S,c1,c2,T,U,V,X,Y,Z,F,m,o,q,s,t,u],_=>
  obtain⟨I,e0,_⟩:=DY (j:=0) (off:=0) (by kernel_rfl) hf
  obtain⟨J,e1,_⟩:=DY (j:=1) (off:=1) (by kernel_rfl) hf
  obtain⟨K,e2,_⟩:=DY (j:=2) (off:=2) (by kernel_rfl) hf
  obtain⟨L,e3,_⟩:=DY (j:=3) (off:=3) (by kernel_rfl) hf
  obtain⟨M,e4,_⟩:=DY (j:=4) (off:=4) (by kernel_rfl) hf
  obtain⟨N,e5,_⟩:=DY (j:=5) (off:=5) (by kernel_rfl) hf
  obtain⟨O,e6,_⟩:=DY (j:=6) (off:=6) (by kernel_rfl) hf
  obtain⟨P,e7,_⟩:=DY (j:=7) (off:=7) (by kernel_rfl) hf
  obtain⟨Q,e8,_⟩:=DY (j:=8) (off:=8) (by kernel_rfl) hf
  obtain⟨y9,e9⟩:=hf 9 _ rfl
  obtain⟨x9,e9,_,G⟩:=DataW.trod_int u22 e9
  obtain⟨s9,rfl,D⟩:=wf_u64 G
  obtain⟨R,w⟩:=hf 10 _ rfl
  obtain⟨_,n2,b⟩:=MG u24 w
  obtain⟨e,x,_⟩:=DY (j:=0) (off:=0) (by kernel_rfl) b
  obtain⟨f,f1,_⟩:=DY (j:=1) (off:=1) (by kernel_rfl) b
  obtain⟨g,y,_⟩:=DY (j:=2) (off:=2) (by kernel_rfl) b
  obtain⟨i,A,_⟩:=DY (j:=3) (off:=3) (by kernel_rfl) b
  obtain⟨k,B,_⟩:=DY (j:=4) (off:=4) (by kernel_rfl) b
  obtain⟨l,C,_⟩:=DY (j:=5) (off:=5) (by kernel_rfl) b
  cases e0;cases e1;cases e2;cases e3;cases e4;cases e5;cases e6;cases e7;cases e8
  have e9:[F]=[Value.int .u64 s9]:=e9
  have x:[m]=[Value.int .i64 e]:=x
  have f1:[o]=[Value.int .i64 f]:=f1
  have y:[q]=[Value.int .i64 g]:=y
  have A:[s]=[Value.int .i64 i]:=A
  have B:[t]=[Value.int .i64 k]:=B
  have C:[u]=[Value.int .i64 l]:=C
  cases e9;cases x;cases f1;cases y;cases A;cases B;cases C
  exact⟨⟨I,J,K,L,M,N,O,P,Q,s9,⟨e,f,g,i,k,l⟩⟩,rfl,D⟩
end
end
theorem alive_ev{F:CI×Nat}(h:VA F=true):F.2<=600/\∃a e o,F.1.ev=[a,e]/\a.ops.length<=1000/\e.kind=2/\e.ops=[o]/\o.val=16:=by
 unfold VA at h
 obtain⟨r,k⟩:=F
 rw[Br]at h
 obtain⟨h1,h2⟩:=h
 refine⟨of_decide_eq_true h1,?_⟩
 dsimp only at h2 ⊢
 split at h2
 ·rename_i a e he
  rw[Br,Br]at h2
  obtain⟨⟨h3,h4⟩,h5⟩:=h2
  split at h5
  ·rename_i o ho
   exact⟨a,e,o,he,of_decide_eq_true h3,of_decide_eq_true h4,ho,of_decide_eq_true h5⟩
  ·cases h5
 ·cases h2
theorem KE:Im.Sm:=⟨⟨by decide,by decide,by decide,by decide,by decide,by decide,by decide,by decide,rfl,by decide,⟨by decide,by decide,by decide,by decide,by decide,by decide,by decide⟩,by decide⟩,by decide,by decide,by decide,by decide,by decide,by decide,by decide,rfl⟩
theorem EO{x:Int}{y:Nat}(hy:y<9223372036854775808):∃a:Int,Fx .i64 x y=a/\0<=a/\a<=y:=by
 have h1:(BitVec.ofInt 64 x&&&BitVec.ofInt 64 (y:Int)).toNat<=y:=by
  rw[Ch,bv 64 y (by omega)];exact Nat.and_le_right
 refine⟨_,rfl,?_⟩
 show 0<=IntKind.i64.wrap ((BitVec.ofInt 64 x&&&BitVec.ofInt 64 (y:Int)).toNat:Int)/\IntKind.i64.wrap ((BitVec.ofInt 64 x&&&BitVec.ofInt 64 (y:Int)).toNat:Int)<=y
 rw[DU (BA h1 hy)]
 omega
theorem Vy(L:PL)(D:GLB L):Sp P0 4 [] [pool L] fun v h=>v= .bool true/\∃L',Le L L'/\h=[pool L']:=by
 obtain⟨F,k⟩:∃F,F=ZV 20 (CI.new Im,0):=⟨_,rfl⟩
 obtain⟨t,J,e,o,hev,hal,hek,c,f⟩:=alive_ev (F:=F) (by rw[k];exact Yw)
 have hlen:F.1.ev.length=2:=by rw[hev];rfl
 have hlo:e.ops.length=1:=by rw[c];rfl
 have i:(e.ops.flatMap Et)[2]? =some (Cs 16):=by rw[c,<-f];rfl
 have hv0:(e.ops.flatMap Et)[0]? =some (Cs o.kind):=by rw[c];rfl
 refine Sq Tryz.func4 fun w0 b_=>?_
 refine OA 8 ?_
 refine Oc rfl (en 15) rfl (.p0 .d) (NT Im KE L D) ?_
 rintro _ _ ⟨K,L1,y,n,G,E,rfl,rfl⟩
 refine OA 10 ?_
 refine O1 (YK (v':=.bool false) (Ct.neq rfl rfl rfl) rfl) ?_
 refine OA 10 ?_
 refine Oc rfl (en 16) rfl (.p0 (.p0 .d)) (Uo K y L1 (CI.new Im) Im 0 KE (CI.new_st KE) ⟨_,_,rfl,rfl⟩ 20 (by omega) (by have:=t;rw[k]at this;exact this)) ?_
 rintro _ _ ⟨rfl,u,L2,A,p,l,rfl⟩
 refine On ?_
 rw[show(ZV 20 ((CI.new Im).setT (CI.new Im).net.heal,0)).1=F.1 by rw[k];rfl,<-l]
 refine OA 3 ?_
 refine Oc rfl (en 17) rfl (.p0 (.p0 .d)) (Qf u A L2 F.1 (by omega) (by rw[hev];intro x hx;rcases AW.1 hx with rfl|hx;(·omega);(·rw[Ap.1 hx];omega))) ?_
 rintro _ _ ⟨oa,oc,H,w,I,q,rfl,hr,rfl⟩
 refine OA 2 ?_
 obtain⟨C,⟨M,rfl,d⟩,b⟩:=hr.at (s:=3) Iq.len (show F.1.ev[1]? =some e by rw[hev];rfl)
 obtain⟨N,O,rfl,_,_⟩:=d.sh
 refine CM at2 Reads.sq (b 0 _ rfl) fun ad r=>?_
 subst r
 refine CM at1 d.rd hv0 fun B g=>?_
 subst g
 refine OA 4 ?_
 refine O1 (YK (v':=.bool true) (Ct.eql rfl rfl rfl) (congrArg Value.bool (AG (by omega)))) ?_
 refine OA 2 ?_
 refine O1 (Jt 1 u58) ?_
 refine O1 (Qah (m:=1*3) 0 rfl rfl u62 rfl rfl) ?_
 refine O1 (Ct.reads (j:=1*3+0) rfl rfl at2 Reads.sq u3 rfl (b 0 _ rfl)) ?_
 refine O1 (YK (v':=.bool true) (Ct.eql rfl rfl rfl) (congrArg Value.bool (AG (by omega)))) ?_
 refine OA 3 ?_
 refine O1 (Jt 1 u58) ?_
 refine O1 (Qah (m:=1*3) 2 rfl rfl u62 rfl rfl) ?_
 refine O1 (Ct.reads (j:=1*3+2) rfl rfl at2 Reads.sq u60 rfl (b 2 _ rfl)) ?_
 refine O1 (MV u60) ?_
 refine O1 (YK (v':=.bool true) (Ct.eql rfl rfl rfl) (congrArg Value.bool (AG (by omega)))) ?_
 refine OA 3 ?_
 refine O1 (Jt 1 u58) ?_
 refine O1 (Qah (m:=1*3) 2 rfl rfl u62 rfl rfl) ?_
 refine O1 (Ct.reads (j:=1*3+2) rfl rfl at2 Reads.sq u60 rfl (b 2 _ rfl)) ?_
 refine O1 (Jt 0 u60) ?_
 refine O1 (Qah (m:=0*3) 2 rfl rfl u64 rfl rfl) ?_
 refine O1 (Ct.reads (j:=0*3+2) rfl rfl at1 d.rd u3 rfl i) ?_
 refine O1 (YK (v':=.bool true) (Ct.eql rfl rfl rfl) (congrArg Value.bool (AG (by rfl)))) ?_
 refine OA 3 ?_
 refine Tp (.t1 .e) ?_
 exact Cu (Rr ⟨rfl,w,n.trans (p.trans q),rfl⟩)
theorem fit_spec(c:CfM)(hs:c.seed<18446744073709551616):Sp P0 5 [.agg (cfv c).toArray] [] fun v h=>∃p,p.Sm/\v= .agg (cfv p).toArray/\h=[]:=by
 obtain⟨q,e0,H,u0⟩:∃a,Fx .i64 c.nodes 1023=a/\0<=a/\a<=1023:=EO (y:=1023) (by decide)
 obtain⟨a1,e1,I,M⟩:∃a,Fx .i64 c.shards 1=a/\0<=a/\a<=1:=EO (y:=1) (by decide)
 obtain⟨a2,e2,J,N⟩:∃a,Fx .i64 c.clients 1023=a/\0<=a/\a<=1023:=EO (y:=1023) (by decide)
 obtain⟨a3,e3,K,u3⟩:∃a,Fx .i64 c.level 1=a/\0<=a/\a<=1:=EO (y:=1) (by decide)
 obtain⟨a4,e4,A,u4⟩:∃a,Fx .i64 c.txns 3=a/\0<=a/\a<=3:=EO (y:=3) (by decide)
 obtain⟨a5,e5,L,u5⟩:∃a,Fx .i64 c.patience 3=a/\0<=a/\a<=3:=EO (y:=3) (by decide)
 obtain⟨b,j,r,B⟩:∃a,Fx .i64 c.plan.keys 3=a/\0<=a/\a<=3:=EO (y:=3) (by decide)
 obtain⟨d,k,s,C⟩:∃a,Fx .i64 c.plan.most 3=a/\0<=a/\a<=3:=EO (y:=3) (by decide)
 obtain⟨e,l,t,D⟩:∃a,Fx .i64 c.plan.reads 7=a/\0<=a/\a<=7:=EO (y:=7) (by decide)
 obtain⟨f,m,u,E⟩:∃a,Fx .i64 c.plan.writes 7=a/\0<=a/\a<=7:=EO (y:=7) (by decide)
 obtain⟨g,n,w,F⟩:∃a,Fx .i64 c.plan.both 7=a/\0<=a/\a<=7:=EO (y:=7) (by decide)
 obtain⟨i,o,x,G⟩:∃a,Fx .i64 c.plan.scans 3=a/\0<=a/\a<=3:=EO (y:=3) (by decide)
 have hm:2*(1+a2%3)*a4<=400:=by
  have h1:2*(1+a2%3)<=6:=by omega
  have:=Int.mul_le_mul h1 u4 A (by decide)
  omega
 refine Sq Tryz.func5 fun w0 b_=>?_
 refine OA 2 ?_
 refine O6 YR fun b1=>?_
 refine O6 (YQ zr26) fun b2=>?_
 refine OA 5 ?_
 refine O1 (YT (Za rfl rfl rfl) e0) ?_
 refine O1 (Ct.rem rfl rfl rfl (by omega) (by omega)) ?_
 refine OA 8 ?_
 refine O1 (YT (Za rfl rfl rfl) e1) ?_
 refine OA 8 ?_
 refine O1 (YT (Za rfl rfl rfl) e2) ?_
 refine O1 (Ct.rem rfl rfl rfl (by omega) (by omega)) ?_
 refine OA 8 ?_
 refine O1 (YT (Za rfl rfl rfl) e3) ?_
 refine OA 8 ?_
 refine O1 (YT (Za rfl rfl rfl) e4) ?_
 refine OA 7 ?_
 refine O1 (YT (Za rfl rfl rfl) e5) ?_
 refine OA 24 ?_
 refine O1 (YT (Za rfl rfl rfl) j) ?_
 refine OA 10 ?_
 refine O1 (YT (Za rfl rfl rfl) k) ?_
 refine OA 10 ?_
 refine O1 (YT (Za rfl rfl rfl) l) ?_
 refine OA 9 ?_
 refine O1 (YT (Za rfl rfl rfl) m) ?_
 refine OA 9 ?_
 refine O1 (YT (Za rfl rfl rfl) n) ?_
 refine OA 10 ?_
 refine O1 (YT (Za rfl rfl rfl) o) ?_
 refine OA 9 ?_
 exact Cu (Em u26 (An _) ⟨⟨1+q%3,1+a1,1+a2%3,1+a3,a4,3+a5,1048576,1048576,0,c.seed,⟨1+b,1+d,e,f,1+g,i⟩⟩,⟨⟨by dsimp only;omega,by dsimp only;omega,by dsimp only;omega,by dsimp only;omega,by dsimp only;omega,by dsimp only;omega,by dsimp only;omega,by dsimp only;omega,rfl,hs,⟨by dsimp only;omega,by dsimp only;omega,by dsimp only;omega,by dsimp only;omega,by dsimp only;omega,by dsimp only;omega,by dsimp only;omega⟩,hm⟩,by dsimp only;omega,by dsimp only;omega,by dsimp only;omega,by dsimp only;omega,by dsimp only;omega,by dsimp only;omega,by dsimp only;omega,rfl⟩,rfl,rfl⟩)
theorem run_spec(L:PL)(A:GLB L)(c:CfM)(hc:c.Sm)(y:A_)(sc:Nat)(ss:List SpM)(scs:V_)(hsl:ss.length<=maxLen)(x:Rws (SpR L) scs ss)(hps:∀L',Le L L'->Reads (pool L') y scs):
  Sp P0 6 [.agg (cfv c).toArray,.slice y ss.length sc,.bool false] [pool L] fun v h=>∃K L' E r t,Le L L'/\CI.St r c t/\t<=500/\v= .pointer (some ⟨K.p,0,none⟩)/\h=[cm E (FF K L' r),pool L']:=by
 have hsl2:=hsl
 unfold maxLen at hsl2
 refine Sq Tryz.func6 fun w0 b_=>?_
 refine OA 2 ?_
 refine O6 YR fun b3=>?_
 refine OA 5 ?_
 refine Oc rfl (en 15) rfl (.p0 .d) (NT c hc L A) ?_
 rintro _ _ ⟨K,L1,F,o,J,I,rfl,rfl⟩
 refine OA 10 ?_
 refine O1 (YK (v':=.bool false) (Ct.neq rfl rfl rfl) rfl) ?_
 refine OA 13 ?_
 refine CD (fun((i,L2,d,r):Nat×PL×N_×CI)=>[(1,.slice y ss.length sc),(2,.bool false),(7,Cr K.p),(9,Cs (i:Int))]) (fun(i,L2,d,r)=>[cm d (FF K L2 r),pool L2]) (fun(i,L2,d,r)=>i<=500/\i<=ss.length/\Le L L2/\r.St c i) (fun(i,_)=>ss.length-i) (0,L1,F,CI.new c) ?_ ?_
 ·exact⟨⟨Af _,Af _,o,CI.new_st hc⟩,Sb4,.cons _ (.refl _)⟩
 rintro⟨i,L2,d,r⟩ ⟨hi,M,b,hst⟩
 conv=>arg 7;dsimp only
 conv=>arg 8;dsimp only
 refine OA 2 ?_
 refine CQ 29 (i<ss.length/\i<500) ?_ ?_
 ·refine OA 6 ?_
  refine CJ 26 rfl (fun g=>?_) (fun g=>?_)
  ·refine OA 4 ?_
   exact Ex
  refine OA 4 ?_
  exact Ex
 refine Cy rfl (fun k=>?_) (fun k=>?_)
 ·obtain⟨s,hs⟩:∃s,ss[i]? =some s:=⟨_,Ae (by omega)⟩
  obtain⟨N,w,e⟩:=x.at (s:=4) SpR.len hs
  obtain⟨B,C,rfl,f,hn,u⟩:=w.le b
  have hrd:=hps L2 b
  refine CM at1 hrd (e 0 _ rfl) fun ad q=>?_
  subst q
  have hks3:=f
  obtain⟨_,_,e0,_,hkl,_⟩:=hks3
  cases e0
  refine OA 7 ?_
  refine O1 (Jt i u27) ?_
  refine O1 (YW (j:=i*4) u38 hrd e rfl) ?_
  refine O6 (YQ zr38) fun H=>?_
  refine OA 4 ?_
  refine DX [36,37,38,39,40,41,42,43,44,45,46,47,48] 48 (10<s.ks.length∨s.k=10) ?_ ?_
  ·refine OA 6 ?_
   refine CJ 40 rfl (fun l=>?_) (fun l=>?_)
   ·refine OA 9 ?_
    exact Ku
   refine OA 4 ?_
   refine CJ 44 rfl (fun m=>?_) (fun m=>?_)
   ·refine OA 5 ?_
    exact Ku
   refine OA 5 ?_
   exact Ku
  refine Cy rfl (fun n=>?_) (fun n=>?_)
  ·refine OA 6 ?_
   exact⟨(i+1,L2,d,r),⟨⟨by omega,by omega,b,hst.le (AL i)⟩,⟨rfl,rfl,rfl,Dd rfl (by omega),trivial⟩,.cons_cons _ (.cons_cons _ (.cons _ (.refl _)))⟩,by simp only;omega⟩
  refine OA 4 ?_
  refine Oc rfl (en 8) rfl (.p0 (.p0 .d)) (ID K d L2 r c i hc hst (by omega) s.n s.i hn (.slice B s.ks.length C) (A.le b) u s.ks hkl ⟨B,C,rfl,Reads.pool f⟩ s.k (by omega)) ?_
  rintro _ _ ⟨rfl,D,G,p,rfl⟩
  refine OA 6 ?_
  exact⟨(i+1,D,G,_),⟨⟨by omega,by omega,b.trans p,hst.do_ hc (by omega) s.k s.n s.i⟩,⟨rfl,rfl,rfl,Dd rfl (by omega),trivial⟩,.cons _ (.refl _)⟩,by simp only;omega⟩
 refine OA 6 ?_
 exact Cu (CB rfl rfl (.refl _) ⟨K,L2,d,r,i,b,hst,hi,rfl,rfl⟩)

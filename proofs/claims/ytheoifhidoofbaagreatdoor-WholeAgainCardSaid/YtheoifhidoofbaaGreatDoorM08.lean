import Derived.Test.YtheoifhidoofbaaGreatDoorM07
set_option maxRecDepth 100000
set_option maxHeartbeats 2000000
namespace Go.Cru
open Go Go.Proofs
open Go.Proofs.Tryz renaming prog→P0
theorem goE_same(c:De)(t:CG):(c.goE t).post=c.post/\(c.goE t).gen=c.gen/\(c.goE t).txn=c.txn/\(c.goE t).events.length<=c.events.length+1:=by
 unfold De.goE
 split
 ·exact⟨rfl,rfl,rfl,by show(c.events++[_]).length<=_;rw[Ac];exact Al _⟩
 ·exact⟨rfl,rfl,rfl,AL _⟩
theorem VT(p:Prop)[Decidable p](b:Bool):(decide p && !b)=decide (p/\b=false):=by cases b<;>simp
theorem Vc(p:Nat)(S:N_)(L:PL)(c:CG):Sp P0 128 [Cr p] [cm S (Ev p L c)] fun v h=>v= .bool (decide (c.stage=8))/\∃b,h=[cm b (Ev p L c)]:=
 Qa6 fun _ ⟨oa,oc,vb,e,ho⟩=>by
  subst e
  exact((YA p c oa oc vb).frame (.p0 .d)).imp fun _ _ v h ⟨_,⟨h1,h2⟩,h3⟩=>by
   subst h1 h2 h3
   exact Cv.then (YL (.p1 (.p0 .d)) (A:=Ev p L c) ⟨oa,oc,vb,rfl,ho⟩) fun _ ⟨d,e⟩=>YM ⟨rfl,d,e⟩
theorem Sk(p:Nat)(S:N_)(L:PL)(c:CG):Sp P0 61 [Cr p] [cm S (Ev p L c)] fun v h=>v= .bool (c.doubt && decide (c.result=0))/\∃b,h=[cm b (Ev p L c)]:=
 Qa6 fun _ ⟨oa,oc,vb,e,ho⟩=>by
  subst e
  exact((Vb p c oa oc vb).frame (.p0 .d)).imp fun _ _ v h ⟨_,⟨h1,h2⟩,h3⟩=>by
   subst h1 h2 h3
   exact Cv.then (YL (.p1 (.p0 .d)) (A:=Ev p L c) ⟨oa,oc,vb,rfl,ho⟩) fun _ ⟨d,e⟩=>YM ⟨rfl,d,e⟩
theorem Rf(q:Nat)(S:N_)(L:PL)(c:De)(d:c.txn=none):Sp P0 65 [Cr q] [cm S (GS q L c),pool L] fun v h=>v= .tuple #[]/\∃L' g,Le L L'/\h=[cm g (GS q L' c.go1),pool L']:=by
 have e:c.go1=c:=by unfold De.go1;rw[d]
 have b:∀f,tvP c.txn f= .pointer none:=fun f=>by rw[d];rfl
 rw[e]
 refine Sq Tryz.func65 fun w0 b_=>?_
 refine Cx (Cv.op (.p0 .d)) ?_
 rintro _ ⟨_,⟨m,n,f,j,Sp,St,k,l,ecs,rfl,hev⟩,rfl⟩
 rw[b]
 refine OA 7 ?_
 refine O1 (YK (v':=.bool true) (Zh rfl rfl rfl u142) rfl) ?_
 refine OA 2 ?_
 refine Cu ?_
 refine Me rfl (Cv.then (YL (.p1 (.p1 (.p1 (.p1 (.p1 .d))))) (A:=GS q L c) ⟨m,n,f,j,Sp,St,k,l,ecs,by rw[b],hev⟩) ?_)
 rintro _ ⟨i,rfl⟩
 exact Cv.then (YN (.t1 (.t0 .e))) fun _ e=>YM ⟨rfl,L,i,.refl _,e⟩
theorem Tg(q:Nat)(S:N_)(L:PL)(c:De)(t:CG)(I:c.txn=some t)(b:Nat)(hf:c.post.Fit b)(hb:b<1073741824)(ht:t.Fit)(he:c.events.length<1000000):Sp P0 65 [Cr q] [cm S (GS q L c),pool L] fun v h=>v= .tuple #[]/\∃L' S',Le L L'/\h=[cm S' (GS q L' c.go1),pool L']:=by
 have e:c.go1=if t.stage=8 then (c.goE t).noT else (c.goE t).goN t:=by unfold De.go1;rw[I]
 have U:∀m,tvP c.txn m= .pointer (some ⟨m,0,none⟩):=fun m=>by rw[I];rfl
 rw[e]
 refine Sq Tryz.func65 fun w0 b_=>?_
 refine Cx (Cv.op (.p0 .d)) ?_
 rintro _ ⟨_,⟨E,u,m,N,Sp,St,W,X,ecs,rfl,hev⟩,rfl⟩
 rw[U]
 refine Cx (Cv.up (B:=Ev m L t) s4 (fun _ h=>by rw[I]at h;exact h)) ?_
 rintro _ rfl
 refine OA 18 ?_
 refine Oc rfl (en 127) rfl (.p4 (.p0 .d)) (Ra m St L t ht) ?_
 rintro _ _ ⟨L2,V,v2,n,rfl,J,rfl⟩
 obtain⟨Z,rc,rfl,_,_⟩:=J.sh
 obtain⟨rs,D⟩:∃x,x=t.res:=⟨_,rfl⟩
 rw[<-D]at J
 rw[show t.res=rs from D.symm]
 refine OA 7 ?_
 refine CQ 27 (rs.1≠0/\c.told=false) ?_ ?_
 ·refine OA 4 ?_
  refine IQ 21 rfl (fun l=>?_) (fun l=>?_)
  ·refine OA 7 ?_
   first|exact EW rfl (congrArg Value.bool (by rw[<-VT,AG (show rs.1≠0 from l)];rfl))|exact EW rfl (congrArg Value.bool (AX (fun h=>h.1 l)).symm)
  refine OA 7 ?_
  first|exact EW rfl (congrArg Value.bool (by rw[<-VT,AG (show rs.1≠0 from l)];rfl))|exact EW rfl (congrArg Value.bool (AX (fun h=>h.1 l)).symm)
 refine CP (fun((i,k,f):A_×Nat×V_)=>[(0,Cr q)]) (fun(i,k,f)=>[cm N (QB E c.gen),cm Sp (DV u L c.post),cm V (Ev m L2 t),pool L2,QQ q (c.goE t) E u (Cr m) (.slice i (c.goE t).events.length k),sq i (c.goE t).events.length k 62 3 f]) (fun(_,_,f)=>Rws (Iq L2) f (c.goE t).events) ?_ ?_
 ·refine Cy rfl (fun w=>?_) (fun w=>?_)
  ·have T:c.goE t=(c.evt rs.1 rs.2).tell:=by unfold De.goE;rw[<-D];exact Ah w
   refine OA 5 ?_
   refine Oc rfl (en 62) rfl (.p0 (.p2 .d)) (GY q c E u _ W c.events.length X (by omega) ecs rs.1 Z _ rc) ?_
   rintro _ _ ⟨rfl,F,G,rfl⟩
   refine OA 7 ?_
   rw[T]
   exact⟨(F,G,ecs++[Cs rs.1,Cs c.id,.slice Z rs.2.length rc]),(hev.mono fun _ _ h=>Iq.le n h).snoc ⟨_,rfl,J⟩,⟨rfl,trivial⟩,by show List.Sublist [_,_,_,_,QQ q (c.evt rs.1 rs.2).tell E u (Cr m) (.slice F (c.events++[_]).length G),sq F (c.events++[_]).length G 62 3 _] _;rw[Ac];exact .refl _⟩
  have T:c.goE t=c:=by unfold De.goE;rw[<-D];exact Aa w
  refine Tp (.t1 (.t1 (.t2 (.t2 (.t0 (.t0 .e)))))) (Tk ?_)
  rw[T]
  exact⟨(W,X,ecs),hev.mono fun _ _ h=>Iq.le n h,⟨rfl,trivial⟩,.refl _⟩
 rintro⟨i,k,f⟩ g
 change Rws (Iq L2) f (c.goE t).events at g
 obtain⟨g1,g2,g3,g4⟩:=goE_same c t
 rw[<-g1]at hf
 rw[<-g1,<-g2]
 obtain⟨d,hd⟩:∃d,d=c.goE t:=⟨_,rfl⟩
 rw[<-hd]at g hf g1 g2 g3 g4 ⊢
 refine Ti (Cv.up (B:=DV u L2 d.post) s1 (DV.le n)) (OA 7 ?_)
 refine Oc rfl (en 128) rfl (.p2 .d) (Vc m V L2 t) ?_
 rintro _ _ ⟨rfl,S3,rfl⟩
 refine On (Cy rfl (fun y=>?_) (fun y=>?_))
 ·rw[Ah y]
  refine OA 7 ?_
  refine Tx (YL (a:=[]) .d (A:=Od 0 L2 none) rfl) fun St2=>Cu ?_
  refine Me rfl (Cv.then (YL (.p3 (.p0 (.p0 (.p3 (.p1 .d))))) (A:=GS q L2 d.noT) ⟨E,u,0,N,Sp,St2,i,k,f,rfl,g⟩) ?_)
  rintro _ ⟨K,rfl⟩
  exact Cv.then (YN (.t2 (.t0 .e))) fun _ e=>YM ⟨rfl,L2,K,n,e⟩
 rw[Aa y]
 refine OA 7 ?_
 refine Oc rfl (en 129) rfl (.p5 (.p2 .d)) (PK m S3 L2 t ht) ?_
 rintro _ _ ⟨C,K,cs,o,rfl,Y,O,rfl⟩
 obtain⟨s,hnx⟩:∃x,x=t.next:=⟨_,rfl⟩
 have hgo:d.goN t=if s.2.2=true/\d.post.open_=false then {d with txn:=some s.1,post:=d.post.askA s.2.1}else {d with txn:=some s.1}:=by rw[hnx];rfl
 rw[hgo]
 rw[<-hnx]at Y O ⊢
 obtain⟨wv,rv,rfl,Q,P⟩:=Y
 obtain⟨xa,xc,rfl,_,_⟩:=id Q.sh
 obtain⟨ya,yc,rfl,_,_⟩:=id P.sh
 refine OA 3 ?_
 refine O6 (YQ zr212) fun b4=>?_
 refine OA 3 ?_
 refine Ti (Cv.up (B:=DV u C d.post) s1 (DV.le o)) (OA 4 ?_)
 refine Df 52 rfl (fun p=>?_) (fun p=>?_)
 ·refine OA 4 ?_
  refine Oc rfl (en 130) rfl (.p1 .d) (UO u Sp C d.post) ?_
  rintro _ _ ⟨rfl,Sp2,rfl⟩
  refine OA 3 ?_
  refine CE rfl (fun r=>?_) (fun r=>?_)
  ·rw[Ah ⟨p,by simpa using r⟩]
   refine Cw (.s (.t (.s3 (.t .d)))) rfl (fun j=>false) ?_
   intro a0
   refine DA [0,1,2,3,4] ?_
   refine Da 5 ?_
   refine DB rfl rfl (en 118) rfl (.p6 (.p4 .d)) (Pp u Sp2 C d.post b hf hb s.2.1 _ ⟨_,_,rfl,Q,P⟩ O) ?_
   rintro _ _ ⟨rfl,R,Sp3,H,rfl⟩
   refine ys (D0 (Dk rfl (Cv.then (Cv.up (B:=Od m R (some s.1)) s3 (fun _ h=>Ev.le H _ h)) fun _ e=>?_)))
   subst e
   refine Cv.then (YL (.p1 (.p0 (.p3 (.p1 (.p0 .d))))) (A:=GS q R {d with txn:=some s.1,post:=d.post.askA s.2.1}) ⟨E,u,m,N,Sp3,K,i,k,f,rfl,g.mono fun _ _ h=>Iq.le (o.trans H) h⟩) ?_
   rintro _ ⟨M,rfl⟩
   exact Cv.then (YN (.t2 (.t1 .e))) fun _ e=>YM ⟨rfl,R,M,n.trans (o.trans H),e⟩
  rw[Aa (fun h=>by rw[h.2]at r;cases r)]
  refine Tk (Dk rfl (Cv.then (Cv.up (B:=Od m C (some s.1)) s3 (fun _ h=>h)) fun _ e=>?_))
  subst e
  refine Cv.then (YL (.p1 (.p0 (.p4 (.p1 (.p0 .d))))) (A:=GS q C {d with txn:=some s.1}) ⟨E,u,m,N,Sp2,K,i,k,f,rfl,g.mono fun _ _ h=>Iq.le o h⟩) ?_
  rintro _ ⟨M,rfl⟩
  exact Cv.then (YN (.t2 (.t0 .e))) fun _ e=>YM ⟨rfl,C,M,n.trans o,e⟩
 rw[Aa (fun h=>by rw[h.1]at p;cases p)]
 refine OA 10 ?_
 refine Dk rfl (Cv.then (Cv.up (B:=Od m C (some s.1)) s4 (fun _ h=>h)) fun _ e=>?_)
 subst e
 refine Cv.then (YL (.p2 (.p0 (.p0 (.p1 (.p0 .d))))) (A:=GS q C {d with txn:=some s.1}) ⟨E,u,m,N,Sp,K,i,k,f,rfl,g.mono fun _ _ h=>Iq.le o h⟩) ?_
 rintro _ ⟨M,rfl⟩
 exact Cv.then (YN (.t2 (.t0 .e))) fun _ e=>YM ⟨rfl,C,M,n.trans o,e⟩
theorem FT(q:Nat)(S:N_)(L:PL)(c:De)(b:Nat)(hf:c.post.Fit b)(hb:b<1073741824)(ht:∀t,c.txn=some t->t.Fit)(he:c.events.length<1000000):Sp P0 65 [Cr q] [cm S (GS q L c),pool L] fun v h=>v= .tuple #[]/\∃L' d,Le L L'/\h=[cm d (GS q L' c.go1),pool L']:=by
 cases h:c.txn with
 |none=>exact Rf q S L c h
 |some t=>exact Tg q S L c t h b hf hb (ht t h) he
theorem Tm(q:Nat)(S:N_)(L:PL)(c:De):Sp P0 67 [Cr q] [cm S (GS q L c)] fun v h=>∃d oa oc mcs,v= .slice oa c.post.out.length oc/\Rws (Gu L) mcs c.post.out/\h=[cm d (GS q L {c with post:={c.post with out:=[]}}),sq oa c.post.out.length oc 138 12 mcs]:=by
 refine Sq Tryz.func67 fun w0 b_=>?_
 refine Cx (Cv.op (.p0 .d)) ?_
 rintro _ ⟨_,⟨j,b,k,f,Sp,St,g,i,ecs,rfl,hev⟩,rfl⟩
 refine OA 18 ?_
 refine Oc rfl (en 55) rfl (.p2 .d) (Nu b Sp L c.post) ?_
 rintro _ _ ⟨Sp2,oa,oc,mcs,rfl,hm,rfl⟩
 refine OA 2 ?_
 refine Tx (YL (.p0 (.p0 (.p2 (.p0 (.p0 .d))))) (A:=GS q L {c with post:={c.post with out:=[]}}) ⟨j,b,k,f,Sp2,St,g,i,ecs,rfl,hev⟩) fun e=>Tp (.t1 (.t0 .e)) ?_
 exact Cu (CB rfl rfl (.refl _) ⟨e,oa,oc,mcs,rfl,hm,rfl⟩)
theorem Of(q:Nat)(S:N_)(L:PL)(c:De):Sp P0 66 [Cr q] [cm S (GS q L c)] fun v h=>∃b oa oc ecs,v= .slice oa c.events.length oc/\Rws (Iq L) ecs c.events/\h=[cm b (GS q L {c with events:=[]}),sq oa c.events.length oc 62 3 ecs]:=by
 refine Sq Tryz.func66 fun w0 b_=>?_
 refine Cx (Cv.op (.p0 .d)) ?_
 rintro _ ⟨_,⟨i,j,k,e,Sp,St,f,g,ecs,rfl,hev⟩,rfl⟩
 refine OA 32 ?_
 refine Ti (Cv.nil 62 3) (Tx (YL (.p0 (.p0 (.p0 (.p0 (.p1 .d))))) (A:=GS q L {c with events:=[]}) ⟨i,j,k,e,Sp,St,none,0,[],rfl,.nil⟩) fun d=>Tp (.t1 (.t0 .e)) ?_)
 exact Cu (CB rfl rfl (.refl _) ⟨d,f,g,ecs,rfl,hev,rfl⟩)
theorem Vz(q:Nat)(S:N_)(L:PL)(c:De)(d:c.txn=none)(m:Db)(i g:Value)(hl:EI L i m.list)(hd:Bs L g m.data):Sp P0 137 [Cr q,.agg (GL m i g).toArray] [cm S (GS q L c),pool L] fun v h=>v= .tuple #[]/\∃L' k,Le L L'/\h=[cm k (GS q L' (c.in_ m)),pool L']:=by
 have e:c.in_ m=c:=by unfold De.in_;rw[d]
 have b:∀f,tvP c.txn f= .pointer none:=fun f=>by rw[d];rfl
 rw[e]
 obtain⟨u,w,rfl,_,_⟩:=hl.sh
 obtain⟨x,y,rfl,_,_⟩:=hd.sh
 refine Sq Tryz.func137 fun w0 b_=>?_
 refine Cx (Cv.op (.p0 .d)) ?_
 rintro _ ⟨_,⟨r,t,f,n,Sp,St,o,p,ecs,rfl,hev⟩,rfl⟩
 rw[b]
 refine OA 2 ?_
 refine O6 YR fun b3=>?_
 refine OA 3 ?_
 refine Cw (.s (.t .d)) rfl (fun j=>false) ?_
 intro s
 refine DA [0,1,2,3,4,5,6] ?_
 refine D1 7 rfl (YK (v':=.bool true) (Zh rfl rfl rfl u142) rfl) ?_
 refine DA [8,9,10,11,12,13,14,15,16,17,18] ?_
 refine OA 2 ?_
 refine Cu ?_
 refine Me rfl (Cv.then (YL (.p1 (.p1 (.p1 (.p1 (.p1 .d))))) (A:=GS q L c) ⟨r,t,f,n,Sp,St,o,p,ecs,by rw[b],hev⟩) ?_)
 rintro _ ⟨l,rfl⟩
 exact Cv.then (YN (.t2 (.t0 .e))) fun _ e=>YM ⟨rfl,L,l,.refl _,e⟩
theorem Vm(q:Nat)(S:N_)(L:PL)(c:De)(t:CG)(y:c.txn=some t)(b:Nat)(hf:c.post.Fit b)(hb:b<1073741824)(ht:t.Fit)(hc:t.Cur)(he:c.events.length<1000000)(hid:c.id<=16)(m:Db)(P K:Value)(hl:EI L P m.list)(hd:Bs L K m.data)(hdl:m.data.length<=1048576)(hv:m.view<=1099511627776)
  (F:(c.post.in_ m).1.Fit b) (H:(t.in_ (c.post.in_ m).2.1).Fit):Sp P0 137 [Cr q,.agg (GL m P K).toArray] [cm S (GS q L c),pool L] fun v h=>v= .tuple #[]/\∃L' R,Le L L'/\h=[cm R (GS q L' (c.in_ m)),pool L']:=by
 have e:c.in_ m=if m.to≠100+c.id then c else if(c.post.in_ m).2.2=true then ({c with post:=(c.post.in_ m).1,txn:=some (t.in_ (c.post.in_ m).2.1)}:De).go1 else {c with post:=(c.post.in_ m).1}:=by unfold De.in_;rw[y]
 have C:∀f,tvP c.txn f= .pointer (some ⟨f,0,none⟩):=fun f=>by rw[y];rfl
 have hpin:=fun p S=>Np p S L c.post b hf m P K hl hd hdl hv
 rw[e]
 obtain⟨X,Y,rfl,_,_⟩:=hl.sh
 obtain⟨Z,yc,rfl,_,_⟩:=hd.sh
 obtain⟨r,hr⟩:∃r,r=c.post.in_ m:=⟨_,rfl⟩
 rw[<-hr]at hpin F H ⊢
 refine Sq Tryz.func137 fun w0 b_=>?_
 refine Cx (Cv.op (.p0 .d)) ?_
 rintro _ ⟨_,⟨w,i,f,E,Sp,St,s,u,ecs,rfl,hev⟩,rfl⟩
 rw[C]
 refine OA 2 ?_
 refine O6 YR fun b3=>?_
 refine OA 3 ?_
 refine Cw (.s (.t (.s4 (.t .d)))) rfl (fun j=>false) ?_
 intro G
 refine DA [0,1,2,3,4,5,6,7,8,9,10,11,12,13,14,15,16,17,18] ?_
 refine D0 (CH rfl (fun k=>?_) (fun k=>?_))
 ·rw[Ah k]
  refine Cu ?_
  refine Me rfl (Cv.then (YL (.p1 (.p1 (.p1 (.p1 (.p1 .d))))) (A:=GS q L c) ⟨w,i,f,E,Sp,St,s,u,ecs,by rw[C],hev⟩) ?_)
  rintro _ ⟨T,rfl⟩
  exact Cv.then (YN (.t2 (.t0 .e))) fun _ e=>YM ⟨rfl,L,T,.refl _,e⟩
 rw[Aa (fun h=>h k)]
 refine OA 2 ?_
 refine CP (fun((L2,Sp2,b4,n,o):PL×N_×Nat×A_×Nat)=>[(0,Cr q),(4,Cr b4),(5,.bool r.2.2)]) (fun(L2,Sp2,b4,n,o)=>[QQ q c w i (Cr f) (.slice s c.events.length u),cm E (QB w c.gen),cm St (Od f L c.txn),sq s c.events.length u 62 3 ecs,cm Sp2 (DV i L2 r.1),pool L2,blk b4 (.cells (Ue r.2.1 (.slice n r.2.1.vals.length o)).toArray 193 (0,0))]) (fun(L2,_,_,n,o)=>Le L L2/\Dx L2 (.slice n r.2.1.vals.length o) zv r.2.1.vals) ?_ ?_
 ·refine Cw (.s (.t (.s4 (.t .d)))) rfl (fun j=>Nat.beq j 10 || Nat.beq j 11) ?_
  intro G
  refine DA [0,1,2,3,4] ?_
  refine Jy 5 9 ?_ ?_
  ·refine DB rfl rfl (en 183) rfl (.p3 (.p0 .d)) (hpin i Sp) ?_
   rintro _ _ ⟨L2,Sp2,cs,d,rfl,M,N,rfl⟩
   refine ys ?_
   obtain⟨W,rfl,g⟩:=M
   obtain⟨n,o,rfl,_,_⟩:=id g.sh
   refine DA [6,7] ?_
   refine D2 8 rfl (fun _=>Yo) ?_
   refine Da 9 ?_
   refine D6 rfl (YQ Ib) ?_
   rintro _ _ ⟨b4,rfl,rfl⟩
   refine ys (Da 10 ?_)
   refine D8 rfl YO ?_
   refine Dp (Cv.to [QQ q c w i (Cr f) (.slice s c.events.length u),cm E (QB w c.gen),cm St (Od f L c.txn),sq s c.events.length u 62 3 ecs,cm Sp2 (DV i L2 r.1),pool L2,blk b4 (.cells (Ue r.2.1 (.slice n r.2.1.vals.length o)).toArray 193 (0,0))]) ?_;rintro _ rfl
   refine D2 11 rfl (fun _=>FC) ?_
   refine D0 ?_
   exact⟨(L2,Sp2,b4,n,o),⟨d,g⟩,Sb3,.refl _⟩
  refine D6 rfl (YQ Ib) ?_
  rintro _ _ ⟨b4,rfl,rfl⟩
  refine ys (Da 5 ?_)
  refine DB rfl rfl (en 183) rfl (.p3 (.p0 .d)) (hpin i Sp) ?_
  rintro _ _ ⟨L2,Sp2,cs,d,rfl,M,N,rfl⟩
  refine ys ?_
  obtain⟨W,rfl,g⟩:=M
  obtain⟨n,o,rfl,_,_⟩:=id g.sh
  refine DA [6,7] ?_
  refine D2 8 rfl (fun _=>Yo) ?_
  refine Da 10 ?_
  refine D8 rfl YO ?_
  refine Dp (Cv.to [QQ q c w i (Cr f) (.slice s c.events.length u),cm E (QB w c.gen),cm St (Od f L c.txn),sq s c.events.length u 62 3 ecs,cm Sp2 (DV i L2 r.1),pool L2,blk b4 (.cells (Ue r.2.1 (.slice n r.2.1.vals.length o)).toArray 193 (0,0))]) ?_;rintro _ rfl
  refine D2 11 rfl (fun _=>FC) ?_
  refine D0 ?_
  exact⟨(L2,Sp2,b4,n,o),⟨d,g⟩,Sb3,.refl _⟩
 rintro⟨L2,Sp2,b4,n,o⟩ ⟨d,g⟩
 refine Ti (Cv.up (B:=Ev f L2 t) s2 (fun _ h=>by rw[y]at h;exact Ev.le d _ h)) (OA 4 ?_)
 refine CE rfl (fun l=>?_) (fun l=>?_)
 ·rw[Ah l]
  refine Ts (Cw (.t (.s5 (.t .d))) rfl (fun j=>false) ?_)
  intro G
  refine DA [0,1,2,3,4] ?_
  refine Da 5 ?_
  refine DB rfl rfl (en 186) rfl (.p2 (.p4 .d)) (Ys f St L2 t ht hc r.2.1 _ g) ?_
  rintro _ _ ⟨rfl,I,U,D,rfl⟩
  refine ys (D0 (Ti (Cv.up (B:=DV i I r.1) s3 (DV.le D)) (Ti (Cv.up (B:=Od f I (some (t.in_ r.2.1))) s5 (fun _ h=>h)) (Tx (YL (.p0 (.p0 (.p1 (.p2 (.p0 .d))))) (A:=GS q I {c with post:=r.1,txn:=some (t.in_ r.2.1)}) ⟨w,i,f,E,Sp2,U,s,u,ecs,rfl,hev.mono fun _ _ h=>Iq.le (d.trans D) h⟩) fun V=>OA 2 ?_))))
  refine Oc rfl (en 65) rfl (.p2 (.p1 .d)) (FT q V I {c with post:=r.1,txn:=some (t.in_ r.2.1)} b F hb (fun x hx=>by cases hx;exact H) he) ?_
  rintro _ _ ⟨rfl,Q,J,O,rfl⟩
  refine On ?_
  exact Ef rfl (.cons _ (.refl _)) ⟨rfl,Q,J,d.trans (D.trans O),rfl⟩
 rw[Aa (by rw[l];exact AS)]
 refine Tk ?_
 refine Dk rfl (Cv.then (Cv.up (B:=Od f L2 c.txn) s2 (fun _ h=>by rw[y];exact h)) fun _ e=>?_)
 subst e
 refine Cv.then (YL (.p0 (.p0 (.p2 (.p0 (.p0 .d))))) (A:=GS q L2 {c with post:=r.1}) ⟨w,i,f,E,Sp2,St,s,u,ecs,by rw[C],hev.mono fun _ _ h=>Iq.le d h⟩) ?_
 rintro _ ⟨J,rfl⟩
 exact Cv.then (YN (.t2 (.t0 .e))) fun _ e=>YM ⟨rfl,L2,J,d,e⟩
theorem Du.Fit.le{c:Du}{b b':Nat}(h:c.Fit b)(k:b<=b'):c.Fit b':=⟨h.nodes,h.patience,⟨h.id.1,by have:=h.id.2;omega⟩,h.to,h.toO,h.age,h.lead,h.leadV,h.ready,AA h.out k⟩
theorem Qai{c:Du}{b:Nat}(h:c.Fit b):c.tick.Fit (b+1):=by
 have q1:=h.nodes;have q2:=h.age;have q3:=h.to;have q4:=h.patience;have q5:=h.id;have q6:=h.out
 have m1:=BR c.to (show c.nodes≠0 by omega);have m2:=BI c.to (show 0<c.nodes by omega)
 unfold Du.tick
 split
 ·split
  ·refine⟨h.nodes,h.patience,⟨q5.1,by show c.id<=_;omega⟩,⟨by show 0<=c.to%c.nodes+1;omega,by show c.to%c.nodes+1<=_;omega⟩,fun _=>by show 1<=c.to%c.nodes+1;omega,⟨AK 0,q4.1⟩,h.lead,h.leadV,h.ready,?_⟩
   show(c.out++[_]).length<=_
   rw[Ac];exact Ci q6
  ·exact⟨h.nodes,h.patience,⟨q5.1,by show c.id<=_;omega⟩,h.to,h.toO,⟨by show 0<=c.age+1;omega,by show c.age+1<=c.patience;omega⟩,h.lead,h.leadV,h.ready,AY q6⟩
 ·exact⟨h.nodes,h.patience,⟨q5.1,by omega⟩,h.to,h.toO,h.age,h.lead,h.leadV,h.ready,AY q6⟩
theorem Qbf{c:Du}{b:Nat}(h:c.Fit b):c.drop.Fit b:=⟨h.nodes,h.patience,h.id,h.to,fun e=>(by cases e),h.age,h.lead,h.leadV,h.ready,h.out⟩
structure CG.Good(t:CG):Prop where
 fit:t.Fit
 cur:t.Cur
 wait:t.wait=true->t.waited<t.patience
theorem CG.Good.tick{t:CG}(h:t.Good):t.tick.Good:=by
 unfold CG.tick
 split
 ·rename_i hw
  have:=h.wait hw
  have hf:=h.fit
  have h1:=hf.waited
  exact⟨⟨hf.ops,hf.key,hf.shards,hf.patience,hf.at_,⟨by show 0<=t.waited+1;omega,by show t.waited+1<=t.patience+1;omega⟩,hf.values⟩,h.cur,fun e=>(by cases e)⟩
 ·exact h
theorem QaB(id:Int)(ops:List Es)(c:Bool)(sh b:Int)(hl:ops.length<=1048576)(hk:∀o∈ops,0<=o.key/\o.key<=1099511627776)(hp:0<=b/\b<=1099511627776):(CG.new id ops c sh b).Good:=
 ⟨⟨hl,hk,by show 1<=min (max sh 1) 4/\min (max sh 1) 4<=4;omega,hp,⟨AK 0,by show(0:Int)<=5;decide⟩,⟨AK 0,by show 0<=b+1;omega⟩,trivial⟩,fun h=>(by rcases h with h|h<;>simp[CG.new]at h),fun e=>(by cases e)⟩
structure De.Fit(x:De)(b:Nat):Prop where
 c:x.c.Ok
 id:1<=x.id/\x.id<=16
 gen:x.gen.Ok b
 left:0<=x.left/\x.left<=100
 n:x.n<=b
 age:0<=x.age/\x.age<=50000+b
 txn:∀t,x.txn=some t->t.Good
 post:x.post.Fit b
 events:x.events.length<=b
theorem Qk(c:De):c.beg.events.length=c.events.length+1:=by show(c.events++[_]).length=_;rw[Ac];rfl
theorem Es.In.key{keys b:Int}{o:Es}(h:o.In keys b)(hk:keys<=16):0<=o.key/\o.key<=1099511627776:=⟨h.2.1,by have:=h.2.2.1;omega⟩
theorem or_id(n c:Nat)(hc:1<=c/\c<=16):((n+1)*2 ^ 4)|||(c-1)=16*(n+1)+(c-1):=or15 (n+1) c hc
theorem Qj(q:Nat)(S:N_)(L:PL)(c:De)(b:Nat)(hf:c.Fit b)(hb:b<800000)(p:c.txn=none):Sp P0 23 [Cr q] [cm S (GS q L c),pool L] fun v h=>v= .tuple #[]/\∃L' V,Le L L'/\h=[cm V (GS q L' c.tick),pool L']:=by
 have P:∀F,tvP c.txn F= .pointer none:=fun F=>by rw[p];rfl
 have e1:c.tick=(if 0<c.tk0.left then c.tk0.beg else c.tk0).go1:=by unfold De.tick De.tk1;rw[show c.tk0.txn=none from p];unfold De.tk2;rw[show c.tk0.txn=none from p]
 have q1:=hf.left;have q2:=hf.n;have q3:=hf.id;have q4:=hf.events;have q5:=hf.c.patience
 rw[e1]
 refine Sq Tryz.func23 fun w0 b_=>?_
 refine Cx (Cv.op (.p0 .d)) ?_
 rintro _ ⟨_,⟨s,r,F,I,Sp,St,D,E,ecs,rfl,hev⟩,rfl⟩
 rw[P]
 refine OA 14 ?_
 refine Oc rfl (en 54) rfl (.p3 (.p0 .d)) (JF r Sp L c.post b hf.post (by omega)) ?_
 rintro _ _ ⟨rfl,L2,Sp2,u,rfl⟩
 refine OA 8 ?_
 refine O1 (YK (v':=.bool false) (Ct.neqNil rfl rfl rfl u142) rfl) ?_
 refine OA 5 ?_
 have g:Rws (Iq L2) ecs c.tk0.events:=hev.mono fun _ _ h=>Iq.le u h
 have C:c.tk0.txn=none:=p
 have e:c.tk0.Fit (b+1):=⟨hf.c,hf.id,⟨hf.gen.p,hf.gen.client,AY hf.gen.n⟩,hf.left,AY hf.n,⟨hf.age.1,by have:=hf.age.2;show c.age<=_;omega⟩,hf.txn,Qai hf.post,AY hf.events⟩
 refine Ti (Cv.to [QQ q c.tk0 s r (.pointer none) (.slice D c.tk0.events.length E),cm I (QB s c.tk0.gen),sq D c.tk0.events.length E 62 3 ecs,cm Sp2 (DV r L2 c.tk0.post),pool L2]) ?_
 obtain⟨d,hd⟩:∃d,d=c.tk0:=⟨_,rfl⟩
 rw[<-hd]at g C e ⊢
 clear e1
 have pf:=e.post;have q1:=e.left;have q2:=e.n;have q3:=e.id;have q4:=e.events
 refine OA 5 ?_
 refine O1 (YK (v':=.bool true) (Zh rfl rfl rfl u142) rfl) ?_
 refine OA 8 ?_
 refine Cy rfl (fun k=>?_) (fun k=>?_)
 ·rw[Ah k]
  refine OA 23 ?_
  obtain⟨d2,f⟩:∃x:De,x= {d with left:=d.left-1,n:=d.n+1}:=⟨_,rfl⟩
  refine Ti (Cv.to [QQ q ({d with left:=d.left-1,n:=d.n+1}:De) s r (.pointer none) (.slice D d.events.length E),cm I (QB s d.gen),sq D d.events.length E 62 3 ecs,cm Sp2 (DV r L2 d.post),pool L2]) ?_
  rw[<-f]
  have X:d2.id=d.id:=by rw[f]
  have Y:d2.n=d.n+1:=by rw[f]
  have Z:d2.c=d.c:=by rw[f]
  refine OA 5 ?_
  refine Oc rfl (en 63) rfl (.p1 .d) (Ni s I d.gen (b+1) e.gen (by omega)) ?_
  rintro _ _ ⟨Q,R,Sg2,rfl,rfl⟩
  refine OA 2 ?_
  have hgo:=Qq e.gen (c:=16*((b+1:Nat):Int)+255) (AK _)
  have hkeys:=e.gen.p.keys
  have hmost:=e.gen.p.most
  refine Cx (Zg (.p3 (.p4 .d))) ?_
  rintro _ ⟨U,w,T,rfl⟩
  have t:Dx U (.slice Q d.gen.next.2.length R) Et d.gen.next.2:=T
  refine OA 4 ?_
  refine Oc rfl (en 62) rfl (.p0 (.p0 .d)) (GY q d2 s r (.pointer none) D d.events.length E (by omega) ecs 1 Q d.gen.next.2.length R) ?_
  rintro _ _ ⟨rfl,N,O,rfl⟩
  refine OA 2 ?_
  refine Cw (.s3 (.t .d)) rfl (fun j=>Nat.beq j 32) ?_
  intro W
  refine DA [0,1,2,3,4] ?_
  refine D1 5 rfl (Ct.shl (i:=d2.n) (m:=4) rfl rfl rfl (by decide) (DU (by omega))) ?_
  refine DA [6,7,8,9,10] ?_
  refine D1 11 rfl (YK (v':=Cs d.num) (Ct.or (i:=d2.n*2 ^ 4) (j:=d2.id-1) rfl rfl (Dd rfl (by omega)) (by omega) (by omega)) (by unfold De.num;rw[Y,X,or_id _ _ e.id])) ?_
  refine DA [12,13,14,15,16,17,18,19,20,21,22,23,24,25,26,27,28] ?_
  refine Da 29 ?_
  refine DB rfl rfl (en 64) rfl (.p2 .d) (MZ d.num d.gen.next.2 (decide (d2.c.level=2)) d2.c.shards d2.c.patience U Q R t (by omega)) ?_
  rintro _ _ ⟨G,St2,H,l,rfl,rfl⟩
  refine ys (D2 30 rfl (fun _=>Hl) ?_)
  refine D1 31 rfl (Ct.fld 6 21 21 u144) ?_
  refine Da 32 ?_
  refine D8 rfl YO ?_
  refine OA 13 ?_
  rw[Z]
  subst f
  refine Oi (Cv.up (B:=DV r H d.post) s0 (DV.le (w.trans l))) ?_
  refine Oi (Cv.up (B:=Od G H d.beg.txn) s4 (fun _ h=>h)) ?_
  refine CL (YL (.p2 (.p1 (.p0 (.p1 (.p0 .d))))) (A:=GS q H d.beg) ⟨s,r,G,Sg2,Sp2,St2,N,O,_,by rw[Qk];rfl,(g.mono fun _ _ h=>Iq.le (w.trans l) h).snoc ⟨_,rfl,t.le l⟩⟩) ?_
  rintro _ ⟨K,rfl⟩
  refine Oc rfl (en 65) rfl (.p1 (.p0 .d)) (FT q K H d.beg (b+1) pf (by omega) (fun x hx=>by cases hx;exact(QaB _ _ _ _ _ (by omega) (fun o ho=>(hgo.2.2.2.2.2 o ho).key hkeys.2) (by have:=e.c.patience;omega)).fit) (by rw[Qk];omega)) ?_
  rintro _ _ ⟨rfl,J,M,y,rfl⟩
  refine On ?_
  exact Ef rfl (.refl _) ⟨rfl,J,M,u.trans (w.trans (l.trans y)),rfl⟩
 rw[Aa k]
 refine OA 3 ?_
 refine CL (YL (a:=[]) .d (A:=Od F L2 none) rfl) ?_
 rintro _ ⟨St2,rfl⟩
 refine CL (YL (.p0 (.p0 (.p1 (.p2 (.p0 .d))))) (A:=GS q L2 d) ⟨s,r,F,I,Sp2,St2,D,E,ecs,by rw[C];rfl,g⟩) ?_
 rintro _ ⟨K,rfl⟩
 refine Oc rfl (en 65) rfl (.p1 (.p0 .d)) (FT q K L2 d (b+1) pf (by omega) (fun x hx=>by rw[C]at hx;cases hx) (by omega)) ?_
 rintro _ _ ⟨rfl,J,M,y,rfl⟩
 refine On ?_
 exact Ef rfl (.refl _) ⟨rfl,J,M,u.trans y,rfl⟩
def De.aged(c:De)(t:CG):De:={c with txn:=some t,age:=c.age+1}
def De.droP(c:De):De:={c with post:=c.post.drop}
theorem Xr(c:De)(t:CG)(h:c.txn=some t):c.tick=(if 40*c.c.patience<c.age+1 then (if 0<(((c.tk0.aged t.tick).droP.giveE t.tick).noT).left then (((c.tk0.aged t.tick).droP.giveE t.tick).noT).beg else ((c.tk0.aged t.tick).droP.giveE t.tick).noT)else c.tk0.aged t.tick).go1:=by
 unfold De.tick De.tk1
 rw[show c.tk0.txn=some t from h]
 show(De.tk2 (if 40*c.c.patience<c.age+1 then _ else _)).go1=_
 split
 ·rfl
 ·rfl
theorem Vq(c:De)(t:CG):(c.giveE t).post=c.post/\(c.giveE t).gen=c.gen/\(c.giveE t).c=c.c/\(c.giveE t).id=c.id/\(c.giveE t).left=c.left/\(c.giveE t).n=c.n/\(c.giveE t).age=c.age/\(c.giveE t).events.length<=c.events.length+1:=by
 unfold De.giveE
 split
 ·exact⟨rfl,rfl,rfl,rfl,rfl,rfl,rfl,by show(c.events++[_]).length<=_;rw[Ac];exact Al _⟩
 ·exact⟨rfl,rfl,rfl,rfl,rfl,rfl,rfl,AL _⟩
theorem PZ(q:Nat)(S:N_)(L:PL)(c:De)(b:Nat)(hf:c.Fit b)(hb:b<800000)(t:CG)(T:c.txn=some t):Sp P0 23 [Cr q] [cm S (GS q L c),pool L] fun v h=>v= .tuple #[]/\∃L' S',Le L L'/\h=[cm S' (GS q L' c.tick),pool L']:=by
 have a4:∀w,tvP c.txn w= .pointer (some ⟨w,0,none⟩):=fun w=>by rw[T];rfl
 have q1:=hf.left;have q2:=hf.n;have q3:=hf.id;have q4:=hf.events;have q5:=hf.c.patience;have q6:=hf.age
 have ht:=hf.txn t T
 rw[Xr c t T]
 refine Sq Tryz.func23 fun w0 b_=>?_
 refine Cx (Cv.op (.p0 .d)) ?_
 rintro _ ⟨_,⟨y,s,w,O,Sp,St,P,Q,ecs,rfl,hev⟩,rfl⟩
 rw[a4]
 refine Cx (Cv.up (B:=Ev w L t) s4 (fun _ h=>by rw[T]at h;exact h)) ?_
 rintro _ rfl
 refine OA 14 ?_
 refine Oc rfl (en 54) rfl (.p3 (.p0 .d)) (JF s Sp L c.post b hf.post (by omega)) ?_
 rintro _ _ ⟨rfl,L2,Sp2,D,rfl⟩
 refine OA 17 ?_
 refine Oc rfl (en 58) rfl (.p2 .d) (Tz w St L t ht.fit) ?_
 rintro _ _ ⟨rfl,St2,rfl⟩
 refine OA 12 ?_
 have G:Rws (Iq L2) ecs (c.tk0.aged t.tick).events:=hev.mono fun _ _ h=>Iq.le D h
 have g:(c.tk0.aged t.tick).Fit (b+1):=⟨hf.c,hf.id,⟨hf.gen.p,hf.gen.client,AY hf.gen.n⟩,hf.left,AY hf.n,⟨by show 0<=c.age+1;omega,by show c.age+1<=_;omega⟩,fun x hx=>(by cases hx;exact ht.tick),Qai hf.post,AY hf.events⟩
 have hat:(c.tk0.aged t.tick).txn=some t.tick:=rfl
 have hac:(c.tk0.aged t.tick).c=c.c:=rfl
 have a0:(c.tk0.aged t.tick).age=c.age+1:=rfl
 refine Ti (Cv.to [QQ q (c.tk0.aged t.tick) y s (Cr w) (.slice P (c.tk0.aged t.tick).events.length Q),cm O (QB y (c.tk0.aged t.tick).gen),sq P (c.tk0.aged t.tick).events.length Q 62 3 ecs,cm Sp2 (DV s L2 (c.tk0.aged t.tick).post),pool L2,cm St2 (Ev w L t.tick)]) ?_
 obtain⟨u,hu⟩:∃u,u=t.tick:=⟨_,rfl⟩
 obtain⟨a,ha⟩:∃a,a=c.tk0.aged t.tick:=⟨_,rfl⟩
 rw[<-ha]at G g hat hac a0 ⊢
 rw[<-hu]at hat ⊢
 rw[<-a0,<-hac]
 have p5:=g.c.patience
 refine Ts (Cw (.t .d) rfl (fun j=>false) ?_)
 intro a6
 refine DA [0,1,2,3,4,5,6,7] ?_
 refine Da 8 ?_
 refine Gz rfl (Zc rfl (en 59) rfl (Rz a.c ⟨by omega,by omega⟩)) ?_
 refine D1 9 rfl Xgt ?_
 refine D0 (Cy rfl (fun J=>?_) (fun J=>?_))
 ·rw[Ah J]
  refine OA 6 ?_
  refine Oc rfl (en 60) rfl (.p3 .d) (Vl s Sp2 L2 a.post) ?_
  rintro _ _ ⟨rfl,Sp3,rfl⟩
  refine On ?_
  obtain⟨y1,y2,y3,y4,y5,y6,y7,y8⟩:=Vq a.droP u
  refine Ti (Cv.to [QQ q a.droP y s (Cr w) (.slice P a.droP.events.length Q),cm O (QB y (a.droP.giveE u).gen),sq P a.droP.events.length Q 62 3 ecs,cm Sp3 (DV s L2 (a.droP.giveE u).post),pool L2,cm St2 (Ev w L u)] (by rw[y1,y2];repeat (first|exact .e|(apply Pk.t;focus (repeat (first|exact .t .d|apply DM.s)))))) ?_
  have hlen:a.droP.events.length<1073741824:=by have:=g.events;show a.events.length<_;omega
  have H:Rws (Iq L2) ecs a.droP.events:=G
  have y9:a.droP.events.length=a.events.length:=rfl
  have C:a.droP.giveE u=if a.droP.told=false then a.droP.evt (if(u.doubt && decide (u.result=0))=true then 4 else 3) []else a.droP:=rfl
  obtain⟨e,he⟩:∃e,e=a.droP:=⟨_,rfl⟩
  have z1:e.post=a.post.drop:=by rw[he];rfl
  rw[<-he]at hlen H C y1 y2 y3 y4 y5 y6 y7 y8 y9 ⊢
  refine OA 9 ?_
  refine CP (fun((St3,l,p,f):N_×A_×Nat×V_)=>[(0,Cr q)]) (fun(St3,l,p,f)=>[QQ q (e.giveE u) y s (Cr w) (.slice l (e.giveE u).events.length p),cm O (QB y (e.giveE u).gen),sq l (e.giveE u).events.length p 62 3 f,cm Sp3 (DV s L2 (e.giveE u).post),pool L2,cm St3 (Ev w L u)]) (fun(_,_,_,f)=>Rws (Iq L2) f (e.giveE u).events) ?_ ?_
  ·refine CE rfl (fun K=>?_) (fun K=>?_)
   ·rw[Ah (by simpa using K)]at C
    refine OA 11 ?_
    refine Oc rfl (en 61) rfl (.p5 .d) (Sk w St2 L u) ?_
    rintro _ _ ⟨rfl,St3,rfl⟩
    refine On (CP (fun(k:Int)=>[(0,Cr q),(2,Cs k)]) (fun _=>[QQ q e y s (Cr w) (.slice P e.events.length Q),cm O (QB y (e.giveE u).gen),sq P e.events.length Q 62 3 ecs,cm Sp3 (DV s L2 (e.giveE u).post),pool L2,cm St3 (Ev w L u)]) (fun k=>k=if(u.doubt && decide (u.result=0))=true then 4 else 3) ?_ ?_)
    ·refine CE rfl (fun M=>?_) (fun M=>?_)
     ·refine OA 3 ?_
      exact⟨4,by rw[Ah M],Sb2,.refl _⟩
     refine Tk ?_
     exact⟨3,by rw[Aa (by rw[M];exact AS)],Sb2,.refl _⟩
    intro k hk
    rw[<-hk]at C
    refine OA 3 ?_
    refine Oc rfl (en 62) rfl (.p0 (.p1 .d)) (GY q e y s (Cr w) P e.events.length Q hlen ecs k none 0 0) ?_
    rintro _ _ ⟨rfl,l,p,rfl⟩
    refine Oi (YN (.t4 (.t0 (.t3 (.t0 (.t0 (.t0 .e))))))) ?_
    refine On ?_
    exact⟨(St3,l,p,ecs++[Cs k,Cs e.id,.slice none 0 0]),by rw[C];exact H.snoc ⟨_,rfl,Dx.nil _ _⟩,⟨rfl,trivial⟩,by rw[C];show List.Sublist [QQ q (e.evt k []) y s (Cr w) (.slice l (e.events++[_]).length p),_,sq l (e.events++[_]).length p 62 3 _,_,_,_] _;rw[Ac];exact .refl _⟩
   rw[Aa (by simpa using K)]at C
   refine Tk ?_
   exact⟨(St2,P,Q,ecs),by rw[C];exact H,⟨rfl,trivial⟩,by rw[C];exact .refl _⟩
  rintro⟨St3,l,p,f⟩ U
  change Rws (Iq L2) f (e.giveE u).events at U
  refine OA 8 ?_
  have I:Rws (Iq L2) f (e.giveE u).noT.events:=U
  have X:(e.giveE u).noT.txn=none:=rfl
  have r:(e.giveE u).noT.Fit (b+2):=⟨by show(e.giveE u).c.Ok;rw[y3,he];exact g.c,by show 1<=(e.giveE u).id/\(e.giveE u).id<=16;rw[y4,he];exact g.id,by show(e.giveE u).gen.Ok _;rw[y2,he];exact⟨g.gen.p,g.gen.client,AY g.gen.n⟩,by show 0<=(e.giveE u).left/\(e.giveE u).left<=100;rw[y5,he];exact g.left,by show(e.giveE u).n<=_;rw[y6,he];exact AY g.n,
   by show 0<=(e.giveE u).age/\(e.giveE u).age<=_;rw[y7,he];have:=g.age;exact⟨this.1,by show a.age<=_;omega⟩,fun x hx=>(by cases hx),by show(e.giveE u).post.Fit _;rw[y1,z1];exact(Qbf g.post).le (by omega),by show(e.giveE u).events.length<=_;have:=g.events;omega⟩
  refine Ti (Cv.to [QQ q (e.giveE u).noT y s (.pointer none) (.slice l (e.giveE u).noT.events.length p),cm O (QB y (e.giveE u).noT.gen),sq l (e.giveE u).noT.events.length p 62 3 f,cm Sp3 (DV s L2 (e.giveE u).noT.post),pool L2]) ?_
  obtain⟨d,hd⟩:∃d,d=(e.giveE u).noT:=⟨_,rfl⟩
  rw[<-hd]at I X r ⊢
  have pf:=r.post;have q1:=r.left;have q2:=r.n;have q3:=r.id;have q4:=r.events
  refine OA 5 ?_
  refine O1 (YK (v':=.bool true) (Zh rfl rfl rfl u142) rfl) ?_
  refine OA 8 ?_
  refine Cy rfl (fun N=>?_) (fun N=>?_)
  ·rw[Ah N]
   refine OA 23 ?_
   obtain⟨d2,F⟩:∃x:De,x= {d with left:=d.left-1,n:=d.n+1}:=⟨_,rfl⟩
   refine Ti (Cv.to [QQ q ({d with left:=d.left-1,n:=d.n+1}:De) y s (.pointer none) (.slice l d.events.length p),cm O (QB y d.gen),sq l d.events.length p 62 3 f,cm Sp3 (DV s L2 d.post),pool L2]) ?_
   rw[<-F]
   have i1:d2.id=d.id:=by rw[F]
   have i2:d2.n=d.n+1:=by rw[F]
   have i3:d2.c=d.c:=by rw[F]
   refine OA 5 ?_
   refine Oc rfl (en 63) rfl (.p1 .d) (Ni y O d.gen (b+2) r.gen (by omega)) ?_
   rintro _ _ ⟨ga,gc,Sg2,rfl,rfl⟩
   refine OA 2 ?_
   have hgo:=Qq r.gen (c:=16*((b+2:Nat):Int)+255) (AK _)
   have hkeys:=r.gen.p.keys
   have hmost:=r.gen.p.most
   refine Cx (Zg (.p3 (.p4 .d))) ?_
   rintro _ ⟨L3,W,a5,rfl⟩
   have V:Dx L3 (.slice ga d.gen.next.2.length gc) Et d.gen.next.2:=a5
   refine OA 4 ?_
   refine Oc rfl (en 62) rfl (.p0 (.p0 .d)) (GY q d2 y s (.pointer none) l d.events.length p (by omega) f 1 ga d.gen.next.2.length gc) ?_
   rintro _ _ ⟨rfl,a2,a3,rfl⟩
   refine OA 2 ?_
   refine Cw (.s3 (.t .d)) rfl (fun j=>Nat.beq j 32) ?_
   intro a6
   refine DA [0,1,2,3,4] ?_
   refine D1 5 rfl (Ct.shl (i:=d2.n) (m:=4) rfl rfl rfl (by decide) (DU (by omega))) ?_
   refine DA [6,7,8,9,10] ?_
   refine D1 11 rfl (YK (v':=Cs d.num) (Ct.or (i:=d2.n*2 ^ 4) (j:=d2.id-1) rfl rfl (Dd rfl (by omega)) (by omega) (by omega)) (by unfold De.num;rw[i2,i1,or_id _ _ r.id])) ?_
   refine DA [12,13,14,15,16,17,18,19,20,21,22,23,24,25,26,27,28] ?_
   refine Da 29 ?_
   refine DB rfl rfl (en 64) rfl (.p2 .d) (MZ d.num d.gen.next.2 (decide (d2.c.level=2)) d2.c.shards d2.c.patience L3 ga gc V (by omega)) ?_
   rintro _ _ ⟨a1,St5,L4,R,rfl,rfl⟩
   refine ys (D2 30 rfl (fun _=>Hl) ?_)
   refine D1 31 rfl (Ct.fld 6 21 21 u144) ?_
   refine Da 32 ?_
   refine D8 rfl YO ?_
   refine OA 13 ?_
   rw[i3]
   subst F
   refine Oi (Cv.up (B:=DV s L4 d.post) s0 (DV.le (W.trans R))) ?_
   refine Oi (Cv.up (B:=Od a1 L4 d.beg.txn) s4 (fun _ h=>h)) ?_
   refine CL (YL (.p2 (.p1 (.p0 (.p1 (.p0 .d))))) (A:=GS q L4 d.beg) ⟨y,s,a1,Sg2,Sp3,St5,a2,a3,_,by rw[Qk];rfl,(I.mono fun _ _ h=>Iq.le (W.trans R) h).snoc ⟨_,rfl,V.le R⟩⟩) ?_
   rintro _ ⟨Z,rfl⟩
   refine Oc rfl (en 65) rfl (.p1 (.p0 .d)) (FT q Z L4 d.beg (b+2) pf (by omega) (fun x hx=>by cases hx;exact(QaB _ _ _ _ _ (by omega) (fun o ho=>(hgo.2.2.2.2.2 o ho).key hkeys.2) (by have:=r.c.patience;omega)).fit) (by rw[Qk];omega)) ?_
   rintro _ _ ⟨rfl,Y,S5,E,rfl⟩
   refine On ?_
   exact Ef rfl (.refl _) ⟨rfl,Y,S5,D.trans (W.trans (R.trans E)),rfl⟩
  rw[Aa N]
  refine OA 3 ?_
  refine CL (YL (a:=[]) .d (A:=Od w L2 none) rfl) ?_
  rintro _ ⟨St4,rfl⟩
  refine CL (YL (.p0 (.p0 (.p1 (.p2 (.p0 .d))))) (A:=GS q L2 d) ⟨y,s,w,O,Sp3,St4,l,p,f,by rw[X];rfl,I⟩) ?_
  rintro _ ⟨Z,rfl⟩
  refine Oc rfl (en 65) rfl (.p1 (.p0 .d)) (FT q Z L2 d (b+2) pf (by omega) (fun x hx=>by rw[X]at hx;cases hx) (by omega)) ?_
  rintro _ _ ⟨rfl,Y,S5,E,rfl⟩
  refine On ?_
  exact Ef rfl (.refl _) ⟨rfl,Y,S5,D.trans E,rfl⟩
 rw[Aa J]
 refine OA 21 ?_
 refine Oi (Cv.up (B:=Od w L2 a.txn) s5 (fun _ h=>by rw[hat];exact Ev.le D _ h)) ?_
 refine CL (YL (.p0 (.p0 (.p1 (.p2 (.p0 .d))))) (A:=GS q L2 a) ⟨y,s,w,O,Sp2,St2,P,Q,ecs,by rw[hat];rfl,G⟩) ?_
 rintro _ ⟨Z,rfl⟩
 refine Oc rfl (en 65) rfl (.p1 (.p0 .d)) (FT q Z L2 a (b+1) g.post (by omega) (fun x hx=>(g.txn x hx).fit) (by have:=g.events;omega)) ?_
 rintro _ _ ⟨rfl,Y,S5,E,rfl⟩
 refine On ?_
 exact Ef rfl (.refl _) ⟨rfl,Y,S5,D.trans E,rfl⟩
theorem LC(q:Nat)(S:N_)(L:PL)(c:De)(b:Nat)(hf:c.Fit b)(hb:b<800000):Sp P0 23 [Cr q] [cm S (GS q L c),pool L] fun v h=>v= .tuple #[]/\∃L' d,Le L L'/\h=[cm d (GS q L' c.tick),pool L']:=by
 cases h:c.txn with
 |none=>exact Qj q S L c b hf hb h
 |some t=>exact PZ q S L c b hf hb t h
def Jl(at_:Int)(r:HY):CF:=((((EV.int at_).int r.kind).int r.a).int r.b).num r.data.length
def Dj(at_:Int)(r:HY):N_:=(Jl at_ r).b++r.data
def unn4(b:N_)(at_ k a c:Int)(n:Nat×CC):Int×HY×Bool:=if n.2.bad≠0∨b.length<min n.1 65536 then (0,⟨0,0,0,[]⟩,false)else (at_,⟨k,a,c,b.drop (b.length-min n.1 65536)⟩,true)
def unn3(b:N_)(at_ k a:Int)(r:Int×CC):Int×HY×Bool:=unn4 b at_ k a r.1 r.2.num
def unn2(b:N_)(at_ k:Int)(r:Int×CC):Int×HY×Bool:=unn3 b at_ k r.1 r.2.int
def unn1(b:N_)(at_:Int)(r:Int×CC):Int×HY×Bool:=unn2 b at_ r.1 r.2.int
def unn0(b:N_)(r:Int×CC):Int×HY×Bool:=unn1 b r.1 r.2.int
def HV(b:N_):Int×HY×Bool:=unn0 b (⟨b,0,0⟩:CC).int
theorem IH(at_:Int)(r:HY)(hl:r.data.length<1099511627776):(Jl at_ r).Ok/\(Jl at_ r).n<=645:=by
 have k1:=CF.int_ok FL at_;have n1:=YU EV at_
 have k2:=CF.int_ok k1 r.kind;have n2:=YU (EV.int at_) r.kind
 have k3:=CF.int_ok k2 r.a;have n3:=YU ((EV.int at_).int r.kind) r.a
 have k4:=CF.int_ok k3 r.b;have n4:=YU (((EV.int at_).int r.kind).int r.a) r.b
 have n5:=ZA (w:=(((EV.int at_).int r.kind).int r.a).int r.b) (x:=r.data.length) (by omega)
 have h0:EV.n=0:=rfl
 exact⟨CF.num_ok k4 _,by unfold Jl;omega⟩
theorem Bs.drop{L:PL}{a:A_}{cap:Nat}{bs:N_}(h:Bs L (.slice a bs.length cap) bs){j:Nat}(hj:j<=bs.length):Bs L (.slice (EH a cap j 1) (bs.length-j) (cap-j)) (bs.drop j):=by
 have:=Bs.sub h hj (Al _)
 rwa [BJ]at this
theorem Lh(at_:Int)(r:HY)(d:Value)(L:PL)(hd:Bs L d r.data)(hl:r.data.length<1099511627776):Sp P0 102 [Cs at_,.agg (rcv r d).toArray] [pool L] fun v h=>∃a c,v= .slice a (Dj at_ r).length c/\h=[pool L,sq a (Dj at_ r).length c 5 1 ((Dj at_ r).map u8)]:=by
 obtain⟨o,p,rfl,_,_⟩:=hd.sh
 obtain⟨n,q⟩:=IH at_ r hl
 have k1:=CF.int_ok FL at_;have n1:=YU EV at_
 have k2:=CF.int_ok k1 r.kind;have n2:=YU (EV.int at_) r.kind
 have k3:=CF.int_ok k2 r.a;have n3:=YU ((EV.int at_).int r.kind) r.a
 have k4:=CF.int_ok k3 r.b;have n4:=YU (((EV.int at_).int r.kind).int r.a) r.b
 have h0:EV.n=0:=rfl
 have hwl:=n.len
 refine Sq Tryz.func102 fun w0 b_=>?_
 refine OA 2 ?_
 refine O6 YR fun b3=>?_
 refine OA 5 ?_
 refine O6 YR fun b=>?_
 refine OA 2 ?_
 refine Tp (.t0 (.t0 (.t0 (.n (T:=5) (sz:=1) .e)))) (Tx (YL (.p2 (.p2 .d)) (A:=Mt b EV) ⟨none,0,rfl⟩) fun e=>OA 4 ?_)
 refine Oc rfl (en 152) rfl (.p2 .d) (HM b e EV FL (by omega) at_) ?_
 rintro _ _ ⟨rfl,f,rfl⟩
 refine OA 6 ?_
 refine Oc rfl (en 152) rfl (.p2 .d) (HM b f _ k1 (by omega) r.kind) ?_
 rintro _ _ ⟨rfl,g,rfl⟩
 refine OA 6 ?_
 refine Oc rfl (en 152) rfl (.p2 .d) (HM b g _ k2 (by omega) r.a) ?_
 rintro _ _ ⟨rfl,i,rfl⟩
 refine OA 6 ?_
 refine Oc rfl (en 152) rfl (.p2 .d) (HM b i _ k3 (by omega) r.b) ?_
 rintro _ _ ⟨rfl,k,rfl⟩
 refine OA 7 ?_
 refine O1 (Zw rfl rfl u3 u22 (Eh (a:=r.data.length) (by omega))) ?_
 refine Oc rfl (en 121) rfl (.p2 .d) (Vt b k _ k4 (by omega) r.data.length (by omega)) ?_
 rintro _ _ ⟨rfl,l,rfl⟩
 refine OA 2 ?_
 refine Cw (.s (.t (.s .d))) rfl (fun j=>false) ?_
 intro m
 refine DA [0,2,3] ?_
 refine Da 1 ?_
 refine DB rfl rfl (en 123) rfl (.p2 .d) (PR b l (Jl at_ r) (by omega)) ?_
 rintro _ _ ⟨a,c,rfl,rfl⟩
 refine ys (Da 4 ?_)
 refine D6 rfl (ZH (ao:=a) Jf (Reads.pool hd.1)) ?_
 rintro _ _ ⟨a2,c2,rfl,rfl⟩
 refine ys (D1 5 rfl FC ?_)
 refine D0 (Tp (.t0 (.t1 .e)) ?_)
 exact Cu (CB rfl rfl (.refl _) ⟨a2,c2,by unfold Dj;rw[Ac],by unfold Dj;rw[Ac,AO]⟩)
theorem Th(a:A_)(cap:Nat)(b:N_)(L:PL)(hB:Bs L (.slice a b.length cap) b)(hb:b.length<=1048576):Sp P0 42 [.slice a b.length cap] [pool L] fun v h=>∃f,v= .tuple #[Cs (HV b).1,.agg (rcv (HV b).2.1 f).toArray,.bool (HV b).2.2]/\Bs L f (HV b).2.1.data/\h=[pool L]:=by
 have m:b.length<=cap:=by obtain⟨⟨_,_,e,h1,_⟩,_⟩:=id hB;cases e;exact h1
 have k0:(⟨b,0,0⟩:CC).Ok:=⟨hB.2,by show b.length<_;omega,Af _⟩
 obtain⟨r0,e0⟩:∃x:CC,x=⟨b,0,0⟩:=⟨_,rfl⟩
 unfold HV
 rw[<-e0]at k0 ⊢
 have k1:=CC.int_ok k0
 unfold unn0
 obtain⟨y1,f1⟩:∃x,x=r0.int:=⟨_,rfl⟩
 rw[<-f1]at k1 ⊢
 have k2:=CC.int_ok k1
 unfold unn1
 obtain⟨D,g⟩:∃x,x=y1.2.int:=⟨_,rfl⟩
 rw[<-g]at k2 ⊢
 have k3:=CC.int_ok k2
 unfold unn2
 obtain⟨E,i⟩:∃x,x=D.2.int:=⟨_,rfl⟩
 rw[<-i]at k3 ⊢
 have k4:=CC.int_ok k3
 unfold unn3
 obtain⟨n,k⟩:∃x,x=E.2.int:=⟨_,rfl⟩
 rw[<-k]at k4 ⊢
 obtain⟨o,l⟩:∃x,x=n.2.num:=⟨_,rfl⟩
 have hnl:=Qaj n.2
 rw[<-l]at hnl ⊢
 refine Sq Tryz.func42 fun w0 b_=>?_
 refine OA 3 ?_
 refine O6 (YQ Wu) fun b3=>?_
 refine OA 5 ?_
 refine Oc rfl (en 81) rfl (.p0 .d) (Hi a cap b _ (Reads.pool hB.1) (by omega)) ?_
 rintro _ _ ⟨q,B,C,rfl,rfl⟩
 refine OA 2 ?_
 refine Tx (YL (.p2 (.p2 .d)) (A:=HR q r0) ⟨B,C,by rw[e0]⟩) fun p=>OA 3 ?_
 refine Oc rfl (en 93) rfl (.p2 .d) (FH q p _ k0) ?_
 rintro _ _ ⟨rfl,r,rfl⟩
 refine OA 5 ?_
 rw[<-f1]
 refine Oc rfl (en 93) rfl (.p2 .d) (FH q r _ k1) ?_
 rintro _ _ ⟨rfl,s,rfl⟩
 refine O1 DC ?_
 rw[<-g]
 refine Oc rfl (en 93) rfl (.p2 .d) (FH q s _ k2) ?_
 rintro _ _ ⟨rfl,t,rfl⟩
 refine O1 DC ?_
 rw[<-i]
 refine Oc rfl (en 93) rfl (.p2 .d) (FH q t _ k3) ?_
 rintro _ _ ⟨rfl,u,rfl⟩
 rw[<-k]
 refine O1 (Xb bt119.h) ?_
 refine O6 (YQ Wu) fun G=>?_
 refine OA 5 ?_
 refine Oc rfl (en 82) rfl (.p2 .d) (MW q u _ k4) ?_
 rintro _ _ ⟨rfl,w,rfl⟩
 rw[<-l]
 try unfold unn4
 refine O1 (YT (y:=((min o.1 65536:Nat):Int)) (Zo rfl rfl rfl) (by omega)) ?_
 refine O1 (Zw rfl rfl u22 u3 (wrap_i64 (by omega) (by omega))) ?_
 refine OA 6 ?_
 refine Oc rfl (en 94) rfl (.p3 .d) (Xo q w _) ?_
 rintro _ _ ⟨rfl,F,rfl⟩
 refine OA 2 ?_
 refine IQ 27 rfl (fun c=>?_) (fun c=>?_)
 ·rw[Ah (.inl c)]
  refine OA 14 ?_
  exact Cu (Is u119 (.cons _ (.cons_cons _ (An _))) ⟨_,rfl,Bs.nil _,rfl⟩)
 refine OA 6 ?_
 refine Cy rfl (fun d=>?_) (fun d=>?_)
 ·rw[Ah (.inr (by omega))]
  refine OA 7 ?_
  exact Cu (Is u119 (.cons _ (.cons_cons _ (An _))) ⟨_,rfl,Bs.nil _,rfl⟩)
 rw[Aa (by omega)]
 refine OA 8 ?_
 refine O1 (ZB 1 (b.length-min o.1 65536) u53) ?_
 refine OA 4 ?_
 refine CS rfl (fun j=>Nat.beq j 3 || Nat.beq j 4) ?_
 refine DA [0,1,2] ?_
 refine Da 3 ?_
 refine D8 rfl YO ?_
 refine D2 4 rfl (fun _=>FC) ?_
 refine D0 ?_
 exact Cu (Is u119 (.cons _ (.cons_cons _ (An _))) ⟨_,rfl,hB.drop (Nat.sub_le _ _),rfl⟩)
def Fu(x:N_):N_:=[x.length/256%256,x.length%256]++x
def JE(b:N_):HY:=⟨2,0,0,b⟩
def Kd(k:DW):HY:=⟨1,k.view,k.normal,[]⟩
def Id(at_:Int):List N_->N_
 |[]=>[]
 |b::r=>Fu (Dj at_ (JE b))++Id at_ r
def Ij(at_:Int)(k:DW):N_:=Id at_ k.log++Fu (Dj at_ (Kd k))
def Eo:Int->List DW->N_
 |_,[]=>[]
 |at_,k::ks=>Ij at_ k++Eo (at_+1) ks
abbrev kpv(k:DW)(b:Value):V_:=[Cs k.view,Cs k.normal,b]
def TT(L:PL)(c:V_)(k:DW):Prop:=∃b,c=kpv k b/\EI L b k.log
theorem TT.le{L L':PL}{c:V_}{k:DW}(h:Le L L'):TT L c k->TT L' c k:=fun⟨b,e,hl⟩=>⟨b,e,hl.le h⟩
theorem Vr{ks:List DW}{i:Nat}{k:DW}(h:ks[i]? =some k):Eo (i:Int) (ks.drop i)=Ij (i:Int) k++Eo ((i+1:Nat):Int) (ks.drop (i+1)):=by
 rw[Ay (Ab.1 h).1,(Ab.1 h).2]
 show Ij _ k++Eo _ _=_
 rw[show(i:Int)+1=((i+1:Nat):Int) by omega]
theorem MP(at_:Int){bs:List N_}{i:Nat}{b:N_}(h:bs[i]? =some b):Id at_ (bs.drop i)=Fu (Dj at_ (JE b))++Id at_ (bs.drop (i+1)):=by
 rw[Ay (Ab.1 h).1,(Ab.1 h).2];rfl
theorem u8two(o x:N_):o.map u8++[.int .u8 ((x.length/256%256:Nat):Int),.int .u8 ((x.length%256:Nat):Int)]++x.map u8=(o++Fu x).map u8:=by
 unfold Fu
 rw[AO,AO];simp[u8]
theorem XJ(a:A_)(c:Nat)(ks:List DW)(t:V_)(L:PL)(r:CW)(hr:Reads r a t)(hk:Rws (TT L) t ks)(hn:ks.length<=1024)(hs:(Eo 0 ks).length<1099511627776)(he:∀k∈ks,∀b∈k.log,b.length<1099511627776):
  Sp P0 161 [.slice a ks.length c] [r,pool L] fun v h=>∃oa oc,v= .slice oa (Eo 0 ks).length oc/\h=[r,pool L,sq oa (Eo 0 ks).length oc 5 1 ((Eo 0 ks).map u8)]:=by
 refine Sq Tryz.func161 fun w0 b_=>?_
 refine OA 15 ?_
 refine Ti (Cv.nil 5 1) (Tb (CD (fun((i,o,oa,oc):Nat×N_×A_×Nat)=>[(10,.slice a ks.length c),(11,Cs ks.length),(3,.slice oa o.length oc),(12,Cs i)]) (fun(i,o,oa,oc)=>[r,pool L,sq oa o.length oc 5 1 (o.map u8)]) (fun(i,o,_)=>i<=ks.length/\o++Eo (i:Int) (ks.drop i)=Eo 0 ks) (fun(i,_)=>ks.length-i) (0,[],none,0) ?_ ?_))
 ·exact⟨⟨Af _,rfl⟩,Sb4,.refl _⟩
 rintro⟨i,o,oa,oc⟩ ⟨hi,d⟩
 conv=>arg 7;dsimp only
 conv=>arg 8;dsimp only
 refine OA 5 ?_
 refine Cy rfl (fun p=>?_) (fun p=>?_)
 ·obtain⟨k,hx⟩:∃k,ks[i]? =some k:=⟨_,Ae (by omega)⟩
  obtain⟨O,⟨P,rfl,hlv⟩,n⟩:=hk.at (s:=3) (fun _ _ ⟨_,e,_⟩=>by rw[e];rfl) hx
  have hke:=he k (Aj hx)
  obtain⟨vs,hns,hps⟩:=hlv.ns
  obtain⟨C,D,rfl,K,w⟩:=hlv.sh
  unfold maxLen at w
  have hvl:=hns.1
  rw[Vr hx]at d
  refine CM at0 hr (n 0 _ rfl) fun ad u=>?_
  subst u
  refine OA 6 ?_
  refine O1 (Jt i u39) ?_
  refine O1 (YW (j:=i*3) u42 hr n rfl) ?_
  refine O6 (YQ Ve) fun B=>?_
  refine OA 12 ?_
  refine CD (fun((j,o,oa,oc):Nat×N_×A_×Nat)=>[(10,.slice (some ad) ks.length c),(11,Cs ks.length),(3,.slice oa o.length oc),(12,Cs i),(4,Cs i),(5,Cr B),(18,.slice C k.log.length D),(19,Cs k.log.length),(20,Cs j)]) (fun(j,o,oa,oc)=>[r,pool L,sq oa o.length oc 5 1 (o.map u8),blk B (.cells (kpv k (.slice C k.log.length D)).toArray 42 (0,0))]) (fun(j,o,_)=>j<=k.log.length/\o++Id (i:Int) (k.log.drop j)++Fu (Dj (i:Int) (Kd k))++Eo ((i+1:Nat):Int) (ks.drop (i+1))=Eo 0 ks) (fun(j,_)=>k.log.length-j) (0,o,oa,oc) ?_ ?_
  ·exact⟨⟨Af _,by rw[<-d];simp[Ij]⟩,Sb9,.refl _⟩
  clear d
  rintro⟨j,o,oa,oc⟩ ⟨hj,d⟩
  conv=>arg 7;dsimp only
  conv=>arg 8;dsimp only
  refine OA 5 ?_
  refine Cy rfl (fun q=>?_) (fun q=>?_)
  ·obtain⟨b,hb⟩:∃b,k.log[j]? =some b:=⟨_,Ae (by omega)⟩
   obtain⟨H,I,hv,hB,J⟩:=hns.at hb
   have hbl:=hke b (Aj hb)
   obtain⟨x,hx⟩:∃x,x=Dj (i:Int) (JE b):=⟨_,rfl⟩
   have hlen:x.length+o.length<1099511627776:=by
    rw[MP _ hb,<-hx]at d
    have:=congrArg List.length d
    simp[Fu]at this;omega
   refine CM at1 (Reads.pool hps) hv fun E m=>?_
   subst m
   refine OA 5 ?_
   refine O1 (GO (j) u40) ?_
   refine O1 (Ct.reads (j:=j) rfl rfl at1 (Reads.pool hps) u53 rfl hv) ?_
   refine OA 7 ?_
   refine Oc rfl (en 102) rfl (.p1 .d) (Lh (i:Int) (JE b) (.slice H b.length I) L hB hbl) ?_
   rintro _ _ ⟨M,N,rfl,rfl⟩
   rw[<-hx]
   refine OA 7 ?_
   refine O1 (YT (y:=((x.length/256:Nat):Int)) (Zy rfl rfl rfl (by omega)) (DF (x:=x.length) (i:=8) (by decide))) ?_
   refine O1 (YT (y:=((x.length/256%256:Nat):Int)) (Ze rfl rfl u3 u5) (by rw[EM];omega)) ?_
   refine OA 2 ?_
   refine O1 (YT (y:=((x.length%256:Nat):Int)) (Ze rfl rfl u3 u5) (by rw[EM];omega)) ?_
   refine O6 (Lbs [.int .u8 0,.int .u8 0] u53) fun F=>?_
   refine O2 (LO.app (ao:=oa) Jf) ?_
   rintro _ _ ⟨f,A,rfl,rfl⟩
   refine OA 5 ?_
   refine O2 (ZH (ao:=f) Jf .sq) ?_
   rintro _ _ ⟨g,l,rfl,rfl⟩
   refine OA 2 ?_
   rw[u8two,show o.length+2+x.length=(o++Fu x).length by simp[Fu];omega]
   refine Tp (.t0 (.t2 (.t0 (.t0 .e)))) (OA 4 ?_)
   exact⟨(j+1,o++Fu x,g,l),⟨⟨by omega,by rw[MP _ hb,<-hx]at d;simpa using d⟩,Sb9,.refl _⟩,by simp only;omega⟩
  rw[BB (by omega)]at d
  obtain⟨x,hx⟩:∃x,x=Dj (i:Int) (Kd k):=⟨_,rfl⟩
  have hlen:x.length+o.length<1099511627776:=by
   rw[<-hx]at d
   have:=congrArg List.length d
   simp[Fu,Id]at this;omega
  refine OA 9 ?_
  refine Oc rfl (en 102) rfl (.p1 .d) (Lh (i:Int) (Kd k) (.slice none 0 0) L (Bs.nil L) (by show 0<_;omega)) ?_
  rintro _ _ ⟨M,N,rfl,rfl⟩
  rw[<-hx]
  refine OA 7 ?_
  refine O1 (YT (y:=((x.length/256:Nat):Int)) (Zy rfl rfl rfl (by omega)) (DF (x:=x.length) (i:=8) (by decide))) ?_
  refine O1 (YT (y:=((x.length/256%256:Nat):Int)) (Ze rfl rfl u3 u5) (by rw[EM];omega)) ?_
  refine OA 2 ?_
  refine O1 (YT (y:=((x.length%256:Nat):Int)) (Ze rfl rfl u3 u5) (by rw[EM];omega)) ?_
  refine O6 (Lbs [.int .u8 0,.int .u8 0] u53) fun G=>?_
  refine O2 (LO.app (ao:=oa) Jf) ?_
  rintro _ _ ⟨f,A,rfl,rfl⟩
  refine OA 5 ?_
  refine O2 (ZH (ao:=f) Jf .sq) ?_
  rintro _ _ ⟨g,l,rfl,rfl⟩
  refine OA 2 ?_
  rw[u8two,show o.length+2+x.length=(o++Fu x).length by simp[Fu];omega]
  refine Tp (.t0 (.t2 (.t0 .e))) (OA 4 ?_)
  exact⟨(i+1,o++Fu x,g,l),⟨⟨by omega,by rw[<-hx]at d;simpa [Id] using d⟩,Sb4,.refl _⟩,by simp only;omega⟩
 rw[BB (by omega)]at d
 simp only[Eo,List.append_nil]at d
 refine OA 6 ?_
 subst d
 exact Cu (CB rfl rfl (.refl _) ⟨oa,oc,rfl,rfl⟩)
def PQ(ks:List DW)(u:Int×HY×Bool):List DW:=if u.2.2=true/\0<=u.1/\u.1<ks.length then ks.set u.1.toNat ((ks.getD u.1.toNat ⟨0,0,[]⟩).lay u.2.1)else ks
def GV(ks:List DW)(b:N_):List DW:=PQ ks (HV b)
def GA:Nat->N_->List DW->List DW
 |0,_,ks=>ks
 |f+1,st,ks=>if st.length<2 then ks else if st.length<2+(st.getD 0 0*256+st.getD 1 0)then ks
  else GA f (st.drop (2+(st.getD 0 0*256+st.getD 1 0))) (GV ks (sl st 2 (2+(st.getD 0 0*256+st.getD 1 0))))
def Jj(ks:List DW)(ns:List N_):List DW:=ns.foldl GV ks
def Wt:DW:=⟨0,0,[]⟩
def Ds(l:EA)(n:Nat):List DW:=Jj (GA (l.state.length+1) l.state (List.replicate n Wt)) l.notes
theorem lay_len(k:DW)(r:HY):(k.lay r).log.length<=k.log.length+1:=by
 unfold DW.lay
 repeat' split
 all_goals simp
 omega
theorem Ke(ks:List DW)(u:Int×HY×Bool):(PQ ks u).length=ks.length:=by
 unfold PQ;split
 ·simp
 ·rfl
theorem Nh{ks:List DW}{u:Int×HY×Bool}{m:Nat}(h:∀k∈ks,k.log.length<=m):∀k∈PQ ks u,k.log.length<=m+1:=by
 unfold PQ
 split
 ·rename_i hc
  intro k hk
  rcases BZ hk with hk|rfl
  ·have:=h k hk;omega
  ·have h1:=lay_len (ks.getD u.1.toNat ⟨0,0,[]⟩) u.2.1
   have h2:=h _ (List.getElem_mem (show u.1.toNat<ks.length by omega))
   rw[AB,Ae (show u.1.toNat<ks.length by omega)]at h1 ⊢
   simp only[Option.getD_some]at h1 ⊢
   omega
 ·intro k hk;have:=h k hk;omega
theorem shor8{a b:Nat}(ha:a<256)(hb:b<256):YH .i64 (FZ .i64 (a:Int) 8) (b:Int)=((a*256+b:Nat):Int):=by
 have e1:FZ .i64 (a:Int) 8=((a*256:Nat):Int):=by
  unfold FZ
  rw[show min (8:Int).toNat IntKind.i64.bits=8 from rfl]
  rw[show(a:Int)*2 ^ 8=((a*256:Nat):Int) by simp]
  exact DU (by omega)
 have e2:a*256|||b=a*256+b:=by
  have:=Cf (i:=8) (b:=b) (by omega) a
  rw[Nat.shiftLeft_eq]at this
  exact this.symm
 rw[e1]
 have h1:(BitVec.ofInt 64 ((a*256:Nat):Int)|||BitVec.ofInt 64 (b:Int)).toNat=a*256|||b:=by rw[BitVec.toNat_or,bv 64 (a*256) (by omega),bv 64 b (by omega)]
 show IntKind.i64.wrap ((BitVec.ofInt 64 ((a*256:Nat):Int)|||BitVec.ofInt 64 (b:Int)).toNat:Int)=_
 rw[h1,e2,DU (by omega)]
theorem Rws.put{α:Type}{R:V_->α->Prop}{cs:V_}{xs:List α}(h:Rws R cs xs){s:Nat}(hs:∀c x,R c x->c.length=s){c:V_}{y:α}(hc:R c y):∀ {i:Nat},i<xs.length->∃cs',If cs (i*s) c cs'/\Rws R cs' (xs.set i y):=by
 have g:∀(a b r:V_),a.length=b.length->If (a++r) 0 b (b++r):=by
  intro a
  induction a with
  |nil=>intro b r e;cases b with
   |nil=>exact .nil
   |cons x b=>cases e
  |cons x a ih=>intro b r e;cases b with
   |nil=>cases e
   |cons z b=>exact .put (ih b r (by simpa using e))
 have f:∀(a:V_) {r v r':V_} {o:Nat},If r o v r'->If (a++r) (o+a.length) v (a++r'):=by
  intro a
  induction a with
  |nil=>intro r v r' o e;exact e
  |cons x a ih=>intro r v r' o e;rw[Am,<-Nat.add_assoc];exact .skip (ih e)
 induction h with
 |nil=>intro i hi;cases hi
 |@cons d ds x xs a hd ih=>
  intro i hi
  cases i with
  |zero=>exact⟨c++ds,by rw[Nat.zero_mul];exact g _ _ _ (by rw[hs _ _ a,hs _ _ hc]),.cons hc hd⟩
  |succ i=>
   obtain⟨cs',h1,h2⟩:=ih (i:=i) (by simpa using hi)
   exact⟨d++cs',by rw[Nat.succ_mul];have:=f d h1;rwa [hs _ _ a]at this,.cons a h2⟩
theorem LH(q t:Nat)(ks:List DW)(m:V_)(L:PL)(hk:Rws (TT L) m ks)(hl:∀k∈ks,k.log.length<1099511627776)(a:A_)(cap:Nat)(b:N_)(hB:Bs L (.slice a b.length cap) b)(hb:b.length<=1048576):
  Sp P0 41 [.slice a b.length cap,Cr q] [blk q (.cells #[.slice (some ⟨t,0,none⟩) ks.length ks.length] 39 (0,0)),blk t (.cells (m).toArray 42 (0,0)),pool L] fun v h=>∃L' l,Le L L'/\Rws (TT L') l (GV ks b)/\v= .tuple #[]/\h=[blk q (.cells #[.slice (some ⟨t,0,none⟩) ks.length ks.length] 39 (0,0)),blk t (.cells (l).toArray 42 (0,0)),pool L']:=by
 refine Sq Tryz.func41 fun w0 b_=>?_
 refine OA 3 ?_
 refine Oc rfl (en 42) rfl (.p2 .d) (Th a cap b L hB hb) ?_
 rintro _ _ ⟨H,rfl,hdv,rfl⟩
 unfold GV
 obtain⟨u,E⟩:∃u,u=HV b:=⟨_,rfl⟩
 rw[<-E]at hdv ⊢
 obtain⟨B,C,rfl,_,_⟩:=hdv.sh
 refine OA 4 ?_
 refine O6 (YQ Wu) fun b4=>?_
 refine OA 5 ?_
 refine CQ 22 (u.2.2=true/\0<=u.1/\u.1<ks.length) ?_ ?_
 ·refine OA 3 ?_
  refine Df 13 rfl (fun d=>?_) (fun d=>?_)
  ·refine OA 4 ?_
   refine CJ 17 rfl (fun p=>?_) (fun p=>?_)
   ·refine OA 6 ?_
    first|exact EW rfl (congrArg Value.bool (AN.2 ⟨fun h=>⟨d,by omega,by omega⟩,fun h=>by have:=h.2.2;omega⟩))|exact EW rfl (congrArg Value.bool (AX (fun h=>by have:=h.2.1;omega)).symm)|exact EW rfl (congrArg Value.bool (AX (fun h=>by rw[h.1]at d;cases d)).symm)
   refine OA 6 ?_
   first|exact EW rfl (congrArg Value.bool (AN.2 ⟨fun h=>⟨d,by omega,by omega⟩,fun h=>by have:=h.2.2;omega⟩))|exact EW rfl (congrArg Value.bool (AX (fun h=>by have:=h.2.1;omega)).symm)|exact EW rfl (congrArg Value.bool (AX (fun h=>by rw[h.1]at d;cases d)).symm)
  refine OA 10 ?_
  first|exact EW rfl (congrArg Value.bool (AN.2 ⟨fun h=>⟨d,by omega,by omega⟩,fun h=>by have:=h.2.2;omega⟩))|exact EW rfl (congrArg Value.bool (AX (fun h=>by have:=h.2.1;omega)).symm)|exact EW rfl (congrArg Value.bool (AX (fun h=>by rw[h.1]at d;cases d)).symm)
 refine Cy rfl (fun f=>?_) (fun f=>?_)
 ·obtain⟨i,hi⟩:∃i:Nat,u.1=i:=⟨u.1.toNat,by omega⟩
  have hil:i<ks.length:=by omega
  have e:PQ ks u=ks.set i (ks[i].lay u.2.1):=by
   unfold PQ
   rw[Ah f,hi,Bf,AB,Ae hil];rfl
  rw[e,hi]
  have hx:ks[i]? =some ks[i]:=Ae hil
  obtain⟨I,⟨F,rfl,hlv⟩,x⟩:=hk.at (s:=3) (fun _ _ ⟨_,e,_⟩=>by rw[e];rfl) hx
  have hkl:=hl _ (Aj hx)
  refine Cw (.t (.t (.s (.t .d)))) rfl (fun j=>Nat.beq j 9) ?_
  intro D
  refine DA [0,1,2,3] ?_
  refine D1 4 rfl (Jt i u39) ?_
  refine D1 5 rfl (YW (j:=i*3) u42 Reads.blk x rfl) ?_
  refine D1 6 rfl (ZX 4 u119) ?_
  refine Da 7 ?_
  refine DB rfl rfl (en 43) rfl (.p2 .d) (RD L ks[i] u.2.1 F (.slice B u.2.1.data.length C) hlv hdv hkl) ?_
  rintro _ _ ⟨L2,G,n,rfl,g,rfl⟩
  refine ys ?_
  obtain⟨y,A,rfl,_,_⟩:=g.sh
  obtain⟨r,o,w⟩:=(hk.mono fun _ _ h=>TT.le n h).put (s:=3) (fun _ _ ⟨_,e,_⟩=>by rw[e];rfl) (c:=kpv (ks[i].lay u.2.1) (.slice y (ks[i].lay u.2.1).log.length A)) ⟨_,rfl,g⟩ hil
  refine D1 8 rfl (Qav i _ u39 (hq:=rfl)) ?_
  refine Da 9 ?_
  refine D8 rfl (YO (hc:=o)) ?_
  refine D0 ?_
  exact Dk rfl (Cv.then (YN (.t0 (.t0 (.t1 .e)))) fun _ e=>YM ⟨L2,r,n,w,rfl,e⟩)
 refine Tk ?_
 exact Dk rfl (Cv.then (YN (.t0 (.t0 (.t0 .e)))) fun _ e=>YM ⟨L,m,.refl _,by unfold PQ;rw[Aa f];exact hk,rfl,e⟩)
section
variable {P:Program}{n:Nat}{w0:World}{b_:N_}{l:Dh}{h:Mem}{o:Oper}
theorem LO.makeK{x y:Operand}{t e:TypeId}{z:Value}{sz c m:Nat}{j r:Int}{zs:V_}(he:El P t e z sz c)(d:madeCells z.cells (m*sz)=zs.toArray)(ho:o.op= .makeSlice t x y:=by rfl)(hx:ev l x=some (Cs j):=by rfl)(hy:ev l y=some (Cs r):=by rfl)(hj:j=(m:Int):=by first|rfl|omega)(q:r=(m:Int):=by first|rfl|omega)
  (k:m<=maxLen:=by unfold maxLen;omega) (hb:c*m<=281474976710656:=by omega):
  LO P n w0 b_ h l o fun u h'=>∃b,u= .slice (some ⟨b,0,none⟩) m m/\h'=h++[blk b (.cells zs.toArray e (0,0))]:=by
 obtain⟨f,i,A,B,C⟩:=he.row
 subst hj q
 refine Zf (s:=Instr.makeSlice t (Cs (m:Int)) (Cs (m:Int))) (fun a hf=>by unfold execOp;simp only[ho,hf.eval hx,hf.eval hy]) fun w hw=>?_
 have g:(m:Int)<=9223372036854775807:=by have h:=k;simp[maxLen]at h;omega
 have p:(f.bytes:Int)*(m:Int)<=281474976710656:=by
  have h:((f.bytes*m:Nat):Int)<=281474976710656:=by rw[C];omega
  rwa [Int.natCast_mul]at h
 have hrun:=run_make (P:=P) w t e f z he.sl i A .i64 .i64 m m (by omega) (AK _) p g
 rw[B,Bf,d]at hrun
 exact⟨_,_,_,hrun,⟨_,rfl,rfl⟩,hw.block _ _⟩
end
def kzs(n:Nat):V_:=(List.replicate n (kpv Wt (.slice none 0 0))).flatten
theorem Tv(L:PL):∀n,Rws (TT L) (kzs n) (List.replicate n Wt)
 |0=>.nil
 |n+1=>.cons ⟨_,rfl,EI.nil L⟩ (Tv L n)
theorem kzs_made:∀ {n:Nat},n<=4->madeCells (Value.agg (kpv Wt (.slice none 0 0)).toArray).cells (n*3)=(kzs n).toArray
 |0,_|1,_|2,_|3,_|4,_=>by kernel_rfl
 |n+5,h=>by omega
theorem OK{m:Nat}:∀ {f:Nat} {st:N_} {ks:List DW},(∀k∈ks,k.log.length<=m)->∀k∈GA f st ks,k.log.length<=m+st.length
 |0,st,ks,h=>fun k hk=>by have:=h k hk;omega
 |f+1,st,ks,h=>by
  unfold GA
  split
  ·exact fun k hk=>by have:=h k hk;omega
  ·split
   ·exact fun k hk=>by have:=h k hk;omega
   ·intro k hk
    have:=OK (m:=m+1) (Nh h) k hk
    rw[AD]at this
    omega
theorem Kz:∀(f:Nat) (st:N_) (ks:List DW),(GA f st ks).length=ks.length
 |0,_,_=>rfl
 |f+1,st,ks=>by
  unfold GA
  repeat' split
  ·rfl
  ·rfl
  ·rw[Kz f,GV,Ke]
theorem LP(t u:Nat)(S:N_)(L:PL)(l:EA)(n:Nat)(h1:1<=n)(h4:n<=4)(hst:l.state.length<=1048576)(hnn:l.notes.length<=1073741824)(hns:∀x∈l.notes,x.length<=1048576):
  Sp P0 13 [Cr t,Cs n] [cm S (Ey t u L l),pool L] fun v h=>∃L' X o d,Le L L'/\Rws (TT L') d (Ds l n)/\v= .slice (some ⟨o,0,none⟩) n n/\h=[cm X (Ey t u L' l),pool L',blk o (.cells d.toArray 42 (0,0))]:=by
 refine Sq Tryz.func13 fun w0 b_=>?_
 refine OA 7 ?_
 refine O1 (YT (y:=(n:Int)) (Zq rfl rfl rfl) (by omega)) ?_
 refine O1 (YT (y:=(n:Int)) (Zo rfl rfl rfl) (by omega)) ?_
 refine O6 (LO.makeK (zs:=kzs n) el39 (kzs_made h4)) fun o=>?_
 refine O6 (YQ zr39) fun p=>?_
 refine OA 4 ?_
 refine O1 (Qaa (ys:=[.tmp 5]) (vs:=[_]) rfl rfl) ?_
 refine OA 5 ?_
 refine Oc rfl (en 44) rfl (.p0 (.p0 .d)) (Lu t u S L l (by omega) (by omega) (fun b hb=>by have:=hns b hb;omega)) ?_
 rintro _ _ ⟨L1,F,sa,sc,U,V,M,T,Q,rfl,rfl⟩
 refine OA 6 ?_
 obtain⟨K,G⟩:∃K,K=GA (l.state.length+1) l.state (List.replicate n Wt):=⟨_,rfl⟩
 refine Tp (.t2 (.t1 (.t0 (.t0 .e)))) (Ts (CP (fun((L2,d):PL×V_)=>[(5,Cr p),(6,.func (.func 41) #[] #[Cr p]),(8,.slice U l.notes.length V)]) (fun(L2,d)=>[cm F (Ey t u L1 l),blk p (.cells #[.slice (some ⟨o,0,none⟩) n n] 39 (0,0)),blk o (.cells (d).toArray 42 (0,0)),pool L2]) (fun(L2,d)=>Le L1 L2/\Rws (TT L2) d K) ?_ ?_))
 ·refine Tb (CD (fun((f,st,a,c,ks,m,L2,d):Nat×N_×A_×Nat×List DW×Nat×PL×V_)=>[(5,Cr p),(6,.func (.func 41) #[] #[Cr p]),(8,.slice U l.notes.length V),(7,.slice a st.length c)]) (fun(f,st,a,c,ks,m,L2,d)=>[cm F (Ey t u L1 l),blk p (.cells #[.slice (some ⟨o,0,none⟩) n n] 39 (0,0)),blk o (.cells (d).toArray 42 (0,0)),pool L2]) (fun(f,st,a,c,ks,m,L2,d)=>Le L1 L2/\Bs L2 (.slice a st.length c) st/\Rws (TT L2) d ks/\ks.length=n/\(∀k∈ks,k.log.length<=m)/\m+st.length<=1048576/\st.length<f/\GA f st ks=K) (fun(f,_)=>f) (l.state.length+1,l.state,sa,sc,List.replicate n Wt,0,L1,kzs n) ?_ ?_)
  ·exact⟨⟨.refl _,T,Tv _ _,by simp,fun k hk=>by rw[List.eq_of_mem_replicate hk];exact Af _,by omega,by omega,G.symm⟩,Sb4,.refl _⟩
  rintro⟨f,st,a,c,ks,m,L2,d⟩ ⟨g,hB,hk,hkl,hm,P,hf,he⟩
  conv=>arg 7;dsimp only
  conv=>arg 8;dsimp only
  obtain⟨f,rfl⟩:∃q,f=q+1:=⟨f-1,by omega⟩
  refine OA 7 ?_
  refine Cy rfl (fun C=>?_) (fun C=>?_)
  ·rw[GA,Aa (by omega)]at he
   have N:st.getD 0 0<256:=hB.2 _ (Aj (getD_some (by omega)))
   have O:st.getD 1 0<256:=hB.2 _ (Aj (getD_some (by omega)))
   have W:st.length<=c:=by obtain⟨⟨_,_,e,h1,_⟩,_⟩:=id hB;cases e;exact h1
   refine CM at3 (Reads.pool hB.1) (Ez (i:=0) (by omega)) fun ad w=>?_
   subst w
   refine OA 3 ?_
   refine Cw (.s3 (.t .d)) rfl (fun j=>false) ?_
   intro a1
   refine D1 0 rfl DC ?_
   refine D1 1 rfl (Jt 0 u53) ?_
   refine D1 2 rfl (Ct.reads (j:=0) rfl rfl at0 (Reads.pool hB.1) u5 rfl (Ez (by omega))) ?_
   refine D1 3 rfl (Zw rfl rfl u5 u3 (DU (by omega))) ?_
   refine D1 4 rfl (ZZ rfl rfl rfl (by omega)) ?_
   refine D1 5 rfl DC ?_
   refine D1 6 rfl (Jt 1 u53) ?_
   refine D1 7 rfl (Ct.reads (j:=1) rfl rfl at0 (Reads.pool hB.1) u5 rfl (Ez (by omega))) ?_
   refine D1 8 rfl (Zw rfl rfl u5 u3 (DU (by omega))) ?_
   refine D1 9 rfl (YT (y:=((st.getD 0 0*256+st.getD 1 0:Nat):Int)) (Qaw rfl rfl rfl) (shor8 N O)) ?_
   refine D1 10 rfl FC ?_
   refine D0 ?_
   obtain⟨x,hx⟩:∃x,x=st.getD 0 0*256+st.getD 1 0:=⟨_,rfl⟩
   rw[<-hx]
   rw[<-hx]at he
   refine OA 9 ?_
   refine Cy rfl (fun D=>?_) (fun D=>?_)
   ·rw[Ah (by omega)]at he
    refine Te ?_
    exact⟨(L2,d),⟨g,he▸hk⟩,Sb3,.refl _⟩
   rw[Aa (by omega)]at he
   have hB2:=hB.sub (j:=2) (q:=2+x) (by omega) (by omega)
   have hB3:=hB.drop (j:=2+x) (by omega)
   have hsl:(sl st 2 (2+x)).length=2+x-2:=HN (by omega)
   have hk1:=LH p o ks d L2 hk (fun k hk=>by have:=hm k hk;omega) _ _ (sl st 2 (2+x)) (by rw[hsl];exact hB2) (by omega)
   rw[hkl,hsl]at hk1
   refine OA 7 ?_
   refine O1 (ZQ 1 2 (2+x) u53) ?_
   refine O2 (LO.spv (ys:=[.tmp 44]) (vs:=[_]) rfl (en 41) rfl rfl (.p1 (.p1 (.p1 .d))) hk1) ?_
   rintro _ _ ⟨_,⟨H,r,s,A,rfl,rfl⟩,rfl⟩
   refine OA 5 ?_
   refine O1 (YK (ZB 1 (2+x) u53) (by rw[<-AD])) ?_
   refine OA 2 ?_
   exact⟨(f,st.drop (2+x),_,_,GV ks (sl st 2 (2+x)),m+1,H,r),⟨⟨g.trans s,by rw[AD];exact hB3.le s,A,by rw[GV,Ke,hkl],Nh hm,by rw[AD];omega,by rw[AD];omega,he⟩,Sb4,.refl _⟩,by simp only;omega⟩
  rw[GA,Ah (by omega)]at he
  refine Te ?_
  exact⟨(L2,d),⟨g,he▸hk⟩,Sb3,.refl _⟩
 rintro⟨L2,d⟩ ⟨g,hk⟩
 conv=>arg 4;dsimp only
 conv=>arg 5;dsimp only
 have I:K.length=n:=by rw[G,Kz,List.length_replicate]
 have J:∀k∈K,k.log.length<=0+l.state.length:=by
  rw[G]
  exact OK fun k hk=>by rw[List.eq_of_mem_replicate hk];exact Af _
 refine OA 8 ?_
 refine CD (fun((i,ks,m,L2,d):Nat×List DW×Nat×PL×V_)=>[(5,Cr p),(6,.func (.func 41) #[] #[Cr p]),(50,.slice U l.notes.length V),(51,Cs l.notes.length),(52,Cs i)]) (fun(i,ks,m,L2,d)=>[cm F (Ey t u L1 l),blk p (.cells #[.slice (some ⟨o,0,none⟩) n n] 39 (0,0)),blk o (.cells (d).toArray 42 (0,0)),pool L2]) (fun(i,ks,m,L2,d)=>i<=l.notes.length/\Le L1 L2/\Rws (TT L2) d ks/\ks.length=n/\(∀k∈ks,k.log.length<=m)/\m+(l.notes.length-i)<=2147483648/\Jj ks (l.notes.drop i)=Jj K l.notes) (fun(i,_)=>l.notes.length-i) (0,K,0+l.state.length,L2,d) ?_ ?_
 ·exact⟨⟨Af _,g,hk,I,J,by omega,rfl⟩,Sb5,.refl _⟩
 clear hk g
 rintro⟨i,ks,m,L2,d⟩ ⟨hi,g,hk,hkl,hm,P,he⟩
 conv=>arg 7;dsimp only
 conv=>arg 8;dsimp only
 refine OA 5 ?_
 refine Cy rfl (fun E=>?_) (fun E=>?_)
 ·obtain⟨b,hb⟩:∃b,l.notes[i]? =some b:=⟨_,Ae (by omega)⟩
  obtain⟨vs,R,hps⟩:=(Q.le g).ns
  obtain⟨Y,Z,hv,hB,a0⟩:=R.at hb
  have hbl:=hns b (Aj hb)
  rw[Ay (Ab.1 hb).1,(Ab.1 hb).2]at he
  have hk1:=LH p o ks d L2 hk (fun k hk=>by have:=hm k hk;omega) Y Z b hB hbl
  rw[hkl]at hk1
  refine CM at3 (Reads.pool hps) hv fun ad w=>?_
  subst w
  refine OA 5 ?_
  refine O1 (GO (i) u40) ?_
  refine O1 (Ct.reads (j:=i) rfl rfl at3 (Reads.pool hps) u53 rfl hv) ?_
  refine OA 5 ?_
  refine O2 (LO.spv (ys:=[.tmp 57]) (vs:=[_]) rfl (en 41) rfl rfl (.p1 (.p1 (.p1 .d))) hk1) ?_
  rintro _ _ ⟨_,⟨H,r,s,A,rfl,rfl⟩,rfl⟩
  refine OA 5 ?_
  exact⟨(i+1,GV ks b,m+1,H,r),⟨⟨by omega,g.trans s,A,by rw[GV,Ke,hkl],Nh hm,by omega,he⟩,Sb5,.refl _⟩,by simp only;omega⟩
 rw[BB (by omega)]at he
 refine OA 6 ?_
 refine Ti (Cv.up (B:=Ey t u L2 l) s0 (Ey.le g)) (Tp (.t0 (.t2 (.t1 .e))) ?_)
 exact Cu (CB rfl rfl (.refl _) ⟨L2,F,o,d,M.trans g,by rw[Ds,<-G,<-he];exact hk,rfl,rfl⟩)
def Cat:List (Mem->Prop)->Mem->Prop
 |[],rs=>rs=[]
 |A::b,rs=>∃r1 r2,rs=r1++r2/\A r1/\Cat b r2
def Ru(c:Mem)(b:List (Mem->Prop))(rs:Mem):Prop:=∃r,rs=c++r/\Cat b r
def CmL:List (Mem->Prop)->Mem->Prop
 |[],t=>t=[]
 |A::b,t=>∃S t',t=cm S A::t'/\CmL b t'
section
variable {w0:World}{b_:N_}
theorem Cv.cat_o:∀(b:List (Mem->Prop)) (pre r:Mem),Cat b r->Cv w0 b_ (pre++r) fun h'=>∃t,CmL b t/\h'=pre++t
 |[],pre,r,e=>by
  cases e
  exact YM ⟨[],rfl,rfl⟩
 |A::b,pre,_,⟨r1,r2,e,c,d⟩=>by
  subst e
  refine(Cv.perm (h':=r1++(pre++r2)) ?_).then fun _ e=>?_
  ·rw[<-Ao,<-Ao]
   exact Av.append_right r2
  ·subst e
   refine(Zl (EP _ _) c).then fun _ e=>?_
   subst e
   refine(Cv.perm (h':=(pre++[cm (r1.flatMap CW.ids) A])++r2) ?_).then fun _ e=>?_
   ·rw[Ao,Ao]
    exact Av.append_left pre
   ·subst e
    refine(Cv.cat_o b (pre++[cm (r1.flatMap CW.ids) A]) r2 d).then fun _ ⟨t,ht,e⟩=>?_
    subst e
    exact YM ⟨_,⟨_,t,rfl,ht⟩,by rw[Ao];rfl⟩
theorem QaT:∀(b:List (Mem->Prop)) (pre t:Mem),CmL b t->Cv w0 b_ (pre++t) fun h'=>∃r,Cat b r/\h'=pre++r
 |[],pre,t,e=>by
  cases e
  exact YM ⟨[],rfl,rfl⟩
 |A::b,pre,_,⟨S,t,e,c⟩=>by
  subst e
  refine(Cv.perm (h':=cm S A::(pre++t)) Cq.symm).then fun _ e=>?_
  subst e
  refine(Cv.op (.p (.t .d) .d)).then fun _ ⟨rs,hA,e⟩=>?_
  subst e
  refine(Cv.perm (h':=(pre++rs)++t) ?_).then fun _ e=>?_
  ·rw[Ao,Ao]
   exact Av.append_left pre
  ·subst e
   refine(QaT b (pre++rs) t c).then fun _ ⟨r,hr,e⟩=>?_
   subst e
   exact YM ⟨rs++r,⟨rs,r,rfl,hA,hr⟩,by rw[Ao]⟩
theorem Qa9{h c:Mem}{S:N_}{A:Mem->Prop}{ι:Type}(d:ι->Mem)(b:ι->List (Mem->Prop))(s:Ps h [cm S A] c)(f:∀rs,A rs->∃i,Ru (d i) (b i) rs):Cv w0 b_ h fun h'=>∃i t,CmL (b i) t/\h'=c++(d i++t):=
 (Cv.op s).then fun _ ⟨rs,ha,e⟩=>by
  obtain⟨i,r,e2,hr⟩:=f rs ha
  subst e e2
  rw[<-Ao]
  exact(Cv.cat_o (b i) (c++d i) r hr).then fun _ ⟨t,ht,e⟩=>YM ⟨i,t,ht,by rw[e,Ao]⟩
theorem Qa8{h c q:Mem}{A:Mem->Prop}(b t:Mem)(d:List (Mem->Prop))(hq:q=b++t)(s:Ps h q c)(ht:CmL d t)(f:∀rs,Ru b d rs->A rs):Cv w0 b_ h fun h'=>∃S,h'=c++[cm S A]:=by
 subst hq
 refine(Cv.perm s.perm).then fun _ e=>?_
 subst e
 refine(Cv.perm (h':=(c++b)++t) ?_).then fun _ e=>?_
 ·rw[Ao];exact Av
 ·subst e
  refine(QaT d (c++b) t ht).then fun _ ⟨r,hr,e⟩=>?_
  subst e
  refine(Cv.perm (h':=(b++r)++c) ?_).then fun _ e=>?_
  ·rw[Ao c];exact Av
  ·subst e
   exact(Zl (EP _ _) (f _ ⟨r,rfl,hr⟩)).then fun _ e=>YM ⟨_,e⟩
end
inductive QP {α β:Type} (A:β->α->Mem->Prop):List β->List α->Mem->Prop
 |nil:QP A [] [] []
 |cons {b:β} {x:α} {bs:List β} {xs:List α} {r rs:Mem}:A b x r->QP A bs xs rs->QP A (b::bs) (x::xs) (r++rs)
def DH{α β:Type}(A:β->α->Mem->Prop)(bs:List β)(xs:List α)(rs:Mem):Prop:=∃q,rs.Perm q/\QP A bs xs q
section
variable {α β:Type}{A B:β->α->Mem->Prop}{bs:List β}{xs:List α}{rs:Mem}
theorem QP.mono(k:∀b x r,A b x r->B b x r)(h:QP A bs xs rs):QP B bs xs rs:=by
 induction h with
 |nil=>exact .nil
 |cons a _ ih=>exact .cons (k _ _ _ a) ih
theorem DH.mono(k:∀b x r,A b x r->B b x r)(h:DH A bs xs rs):DH B bs xs rs:=let ⟨q,p,hq⟩:=h;⟨q,p,hq.mono k⟩
theorem DH.nil:DH A [] [] []:=⟨[],.refl _,.nil⟩
theorem QP.out(h:QP A bs xs rs):∀ {i:Nat} {b:β} {x:α},bs[i]? =some b->xs[i]? =some x->∃r q,rs.Perm (r++q)/\A b x r/\QP A (bs.eraseIdx i) (xs.eraseIdx i) q:=by
 induction h with
 |nil=>intro i b x hb;cases hb
 |@cons b x bs xs r rs a t ih=>
  intro i b' x' hb hx
  cases i with
  |zero=>cases hb;cases hx;exact⟨r,rs,.refl _,a,t⟩
  |succ i=>
   obtain⟨r',q,hp,ha,hq⟩:=ih (i:=i) (by simpa using hb) (by simpa using hx)
   refine⟨r',r++q,?_,ha,.cons a hq⟩
   refine(hp.append_left r).trans ?_
   rw[<-Ao,<-Ao]
   exact Av.append_right q
theorem QP.inn:∀ {i:Nat} {bs:List β} {xs:List α} {q r:Mem} {b:β} {y:α},QP A (bs.eraseIdx i) (xs.eraseIdx i) q->A b y r->i<bs.length->i<xs.length->∃rs,rs.Perm (r++q)/\QP A (bs.set i b) (xs.set i y) rs
 |0,_::bs,_::xs,q,r,b,y,h,a,_,_=>⟨r++q,.refl _,.cons a h⟩
 |i+1,d::bs,e::xs,q,r,b,y,h,a,hb,hx=>by
  cases h with
  |@cons _ _ _ _ r0 q0 c h0=>
   obtain⟨rs,hp,hl⟩:=QP.inn h0 a (by simpa using hb) (by simpa using hx)
   refine⟨r0++rs,?_,.cons c hl⟩
   refine(hp.append_left r0).trans ?_
   rw[<-Ao,<-Ao]
   exact Av.append_right q0
 |_,[],_,_,_,_,_,_,_,hb,_=>absurd hb (Nat.not_lt_zero _)
 |_,_::_,[],_,_,_,_,_,_,_,hx=>absurd hx (Nat.not_lt_zero _)
theorem QP.snoc(h:QP A bs xs rs){b:β}{x:α}{r:Mem}(a:A b x r):QP A (bs++[b]) (xs++[x]) (rs++r):=by
 induction h with
 |nil=>have:=QP.cons a (.nil (A:=A));rwa [AH]at this
 |cons c _ ih=>rw[Ao];exact .cons c ih
variable {w0:World}{b_:N_}{h c:Mem}{S S1 S2:N_}{i:Nat}{b:β}{x y:α}
theorem ZC(s:Ps h [cm S (DH A bs xs)] c)(hb:bs[i]? =some b)(hx:xs[i]? =some x):Cv w0 b_ h fun h'=>∃S1 S2,h'=c++[cm S1 (A b x),cm S2 (DH A (bs.eraseIdx i) (xs.eraseIdx i))]:=
 (Cv.op s).then fun _ ⟨rs,⟨q,hp,hq⟩,e⟩=>by
  obtain⟨r,q2,d,ha,hq2⟩:=hq.out hb hx
  subst e
  refine(Cv.perm (h':=c++(r++q2)) ((hp.trans d).symm.append_left c)).then fun _ e=>?_
  subst e
  refine(Cv.cat_o [A b x,DH A (bs.eraseIdx i) (xs.eraseIdx i)] c (r++q2) ⟨r,q2,rfl,ha,q2,[],by simp,⟨q2,.refl _,hq2⟩,rfl⟩).then fun _ ⟨_,⟨S1,_,e1,S2,_,e2,e3⟩,e⟩=>?_
  subst e3;subst e2;subst e1;subst e
  exact YM ⟨S1,S2,rfl⟩
theorem ZN(s:Ps h [cm S1 (A b y),cm S2 (DH A (bs.eraseIdx i) (xs.eraseIdx i))] c)(hb:i<bs.length)(hx:i<xs.length):Cv w0 b_ h fun h'=>∃S,h'=c++[cm S (DH A (bs.set i b) (xs.set i y))]:=by
 refine(Cv.perm s.perm).then fun _ e=>?_
 subst e
 refine(Cv.perm (h':=c++[cm S1 (A b y),cm S2 (DH A (bs.eraseIdx i) (xs.eraseIdx i))]) Av).then fun _ e=>?_
 subst e
 refine(QaT [A b y,DH A (bs.eraseIdx i) (xs.eraseIdx i)] c _ ⟨S1,_,rfl,S2,_,rfl,rfl⟩).then fun _ ⟨_,⟨r1,_,e1,hA,r2,_,e2,⟨q,hp,hq⟩,e3⟩,e⟩=>?_
 subst e3;subst e2;subst e1;subst e
 obtain⟨rs,hr,hl⟩:=hq.inn hA hb hx
 refine(Cv.perm (h':=(r1++(r2++[]))++c) Av).then fun _ e=>?_
 subst e
 refine(Zl (EP _ _) (A:=DH A (bs.set i b) (xs.set i y)) ⟨rs,?_,hl⟩).then fun _ e=>YM ⟨_,e⟩
 rw[AH]
 exact(hp.append_left r1).trans hr.symm
theorem Qau(s:Ps h [cm S1 (A b y),cm S2 (DH A bs xs)] c):Cv w0 b_ h fun h'=>∃S,h'=c++[cm S (DH A (bs++[b]) (xs++[y]))]:=by
 refine(Cv.perm s.perm).then fun _ e=>?_
 subst e
 refine(Cv.perm (h':=c++[cm S1 (A b y),cm S2 (DH A bs xs)]) Av).then fun _ e=>?_
 subst e
 refine(QaT [A b y,DH A bs xs] c _ ⟨S1,_,rfl,S2,_,rfl,rfl⟩).then fun _ ⟨_,⟨r1,_,e1,hA,r2,_,e2,⟨q,hp,hq⟩,e3⟩,e⟩=>?_
 subst e3;subst e2;subst e1;subst e
 refine(Cv.perm (h':=(r1++(r2++[]))++c) Av).then fun _ e=>?_
 subst e
 refine(Zl (EP _ _) (A:=DH A (bs++[b]) (xs++[y])) ⟨q++r1,?_,hq.snoc hA⟩).then fun _ e=>YM ⟨_,e⟩
 rw[AH]
 exact(hp.append_left r1).trans Av
end
section
variable {P:Program}{n:Nat}{w0:World}{b_:N_}{l:Dh}{h:Mem}{o:Oper}{β:Type}
theorem LO.clrA{m:Operand}{T p e:TypeId}{b i:Nat}{g:β->Value}{al:List (Int×β)}{h':Mem}(f:P.underlying T=some (.map p e))(ho:o.op= .call {callee:=.builtin .clear,args:= #[m],argTypes:= #[T]}:=by rfl)(hm:ev l m=some (.map (some b)):=by rfl)
  (hi:Ep h i (Dm b g al) (Dm b g []) h':=by first|exact s0|exact s1|exact s2|exact s3|exact s4|exact s5|exact s6|exact s7|exact s8|exact s9|exact s10|exact s11|exact s12):LO P n w0 b_ h l o fun u k=>u= .tuple #[]/\k=h':=by
 rw[hi.at.2]
 refine Zf (s:=Builtin.clear_ #[T] o.type #[.map (some b)]) (fun a hf=>by
  unfold execOp
  simp only[ho,resolve,List.map_toArray,List.map_cons,List.map_nil,hf.eval hm]
  rfl) fun w hw=>?_
 obtain⟨q,c_,c,j,hst⟩:=hw.mine _ (Aj hi.at.1)
 have hrun:(Builtin.clear_ #[T] o.type #[.map (some b)]).run P w= .ok (.tuple #[]) {w with heap:=w.heap.setIfInBounds b (.map #[] c_)}:=by
  unfold Builtin.clear_
  show(underlying T >>= fun d=>_:Sem Value).run P w=_
  rw[Ak,Cz f,Ai]
  show(getObj b >>= fun ob=>_:Sem Value).run P w=_
  rw[Ak,EE c,Ai]
  show(setObj b _ >>= fun _=>_:Sem Value).run P w=_
  rw[Ak,Er c]
  rfl
 exact⟨_,_,_,hrun,⟨rfl,rfl⟩,hw.setMap hi.at.1 c (Mp.nil _) ⟨by simp,by simp,by simp⟩⟩
end
def SD(b:N_)(i:Nat):Nat:=b.getD (i/8) 0/2 ^ (7-i%8)%2
theorem tb(x j:Nat):x/2 ^ j%2=(x.testBit j).toNat:=by
 rw[Nat.testBit_eq_decide_div_mod_eq]
 have:x/2 ^ j%2<2:=By _ (by decide)
 by_cases h:x/2 ^ j%2=1
 ·simp[h]
 ·have:x/2 ^ j%2=0:=by omega
  simp[this]
theorem or_bit(x:Nat){b:Nat}(hb:b<2)(j k:Nat):(x|||b*2 ^ k)/2 ^ j%2=if j=k then (if b=1 then 1 else x/2 ^ j%2)else x/2 ^ j%2:=by
 rw[tb,tb,Nat.testBit_or]
 have hk:(b*2 ^ k).testBit j=decide (j=k/\b=1):=by
  rw[Nat.mul_comm,Nat.testBit_two_pow_mul]
  rcases (show b=0∨b=1 by omega)with rfl|rfl
  ·simp
  ·by_cases h:j=k
   ·subst h;simp
   ·by_cases h2:k<=j
    ·have:(1:Nat).testBit (j-k)=false:=by
      obtain⟨q,hq⟩:∃q,j-k=q+1:=⟨j-k-1,by omega⟩
      rw[hq,Nat.testBit_succ];simp
     simp[h,h2,this]
    ·simp[h,h2]
 rw[hk]
 by_cases h:j=k
 ·by_cases c:b=1
  ·simp[h,c]
  ·simp[h,c]
 ·simp[h]
structure WB(w:CF)(bs:N_):Prop where
 ok:w.Ok
 n:w.n=bs.length
 at_:∀i,SD w.b i=bs.getD i 0
theorem WB.nil:WB ⟨[],0⟩ []:=⟨⟨rfl,fun _ h=>by cases h⟩,rfl,fun i=>by simp[SD]⟩
theorem OO(bs:N_)(b i:Nat):(bs++[b]).getD i 0=if i=bs.length then b else bs.getD i 0:=by
 rw[AB,AB]
 rcases Nat.lt_trichotomy i bs.length with h|h|h
 ·rw[Bh h,Aa (by omega)]
 ·subst h;rw[Ah rfl,Bl (Al _),Cb];rfl
 ·rw[Aa (by omega),Bn (by simp;omega),Bn (by omega)]
theorem WB.put1{w:CF}{bs:N_}(h:WB w bs){b:Nat}(hb:b<2):WB (w.put1 b) (bs++[b]) where
 ok:=QaO h.ok hb
 n:=by simp[CF.put1,h.n]
 at_:=fun i=>by
  have hp:=QaM h.ok
  have d:∀j,w.pad.getD j 0=w.b.getD j 0:=fun j=>by
   unfold CF.pad
   split
   ·rw[OO]
    split
    ·rename_i h1;subst h1;rw[AB,Bn (Al _)];rfl
    ·rfl
   ·rfl
  have hi:=h.at_ i
  rw[OO,<-hi,<-h.n]
  unfold SD
  show(Yi w.pad (w.n/8) (b*2 ^ (7-w.n%8))).getD (i/8) 0/2 ^ (7-i%8)%2=_
  have e:(Yi w.pad (w.n/8) (b*2 ^ (7-w.n%8))).getD (i/8) 0=if i/8=w.n/8 then (w.b.getD (i/8) 0|||b*2 ^ (7-w.n%8))else w.b.getD (i/8) 0:=by
   unfold Yi
   rw[AB,List.getElem?_set]
   by_cases h8:w.n/8=i/8
   ·rw[Ah h8,Ah (by omega),Ah h8.symm,d,h8];rfl
   ·rw[Aa h8,Aa (fun q=>h8 q.symm),<-AB,d]
  rw[e]
  by_cases h8:i/8=w.n/8
  ·rw[Ah h8,or_bit _ hb]
   by_cases c:i=w.n
   ·subst c
    rw[Ah rfl,Ah rfl]
    have h0:w.b.getD (w.n/8) 0/2 ^ (7-w.n%8)%2=0:=by
     have:=h.at_ w.n
     unfold SD at this
     rw[this,AB,Bn (by rw[h.n];exact Al _)];rfl
    rw[h0]
    rcases (show b=0∨b=1 by omega)with rfl|rfl<;>rfl
   ·rw[Aa c,Aa (by omega)]
  ·rw[Aa h8,Aa (fun q=>h8 (by rw[q]))]
def Fd(x:Nat):Nat->N_
 |0=>[]
 |k+1=>x/2 ^ k%2::Fd x k
theorem Gy(x:Nat):∀k,(Fd x k).length=k
 |0=>rfl
 |k+1=>by rw[Fd,Am,Gy x k]
theorem WB.put{x:Nat}:∀ {k:Nat} {w:CF} {bs:N_},WB w bs->WB (w.put x k) (bs++Fd x k)
 |0,w,bs,h=>by rw[Fd,AH];exact h
 |k+1,w,bs,h=>by
  have:=WB.put (x:=x) (k:=k) (h.put1 (b:=x/2 ^ k%2) (By _ (by decide)))
  rw[Ao]at this
  exact this
structure RB(r:CC)(bs:N_):Prop where
 bad:r.bad=0
 len:r.at_+bs.length<=8*r.b.length
 at_:∀i,i<bs.length->SD r.b (r.at_+i)=bs.getD i 0
theorem RB.step{r:CC}{b:Nat}{bs:N_}(h:RB r (b::bs)):r.bit=b/\RB r.next bs:=by
 have h0:=h.at_ 0 (by simp)
 refine⟨h0,h.bad,by have:=h.len;simp only[List.length_cons]at this;show r.at_+1+_<=8*r.b.length;omega,fun i hi=>?_⟩
 have:=h.at_ (i+1) (by simp;omega)
 rw[show r.at_+(i+1)=r.at_+1+i by omega]at this
 exact this
theorem RB.bits{x:Nat}:∀ {k:Nat} {r:CC} {y:Nat} {bs:N_},RB r (Fd x k++bs)->(y+1)*2 ^ k<=18446744073709551616->(r.bits y k).1=y*2 ^ k+x%2 ^ k/\RB (r.bits y k).2 bs/\(r.bits y k).2.b=r.b/\(r.bits y k).2.at_=r.at_+k
 |0,r,y,bs,h,hy=>⟨by simp[CC.bits,Nat.mod_one],h,rfl,rfl⟩
 |k+1,r,y,bs,h,hy=>by
  obtain⟨h1,h2⟩:=RB.step h
  have hp:1<=2 ^ k:=Nat.one_le_two_pow
  rw[Nat.pow_succ,Nat.mul_comm (2 ^ k),<-Nat.mul_assoc]at hy
  have hb:x/2 ^ k%2<2:=By _ (by decide)
  have hlt:y*2<18446744073709551616:=by
   have:=AA (Nat.le_mul_of_pos_right ((y+1)*2) hp) hy
   omega
  have e:y*2%18446744073709551616|||r.bit=y*2+x/2 ^ k%2:=by
   rw[Cp hlt,h1]
   have:=Cf (i:=1) (b:=x/2 ^ k%2) (by omega) y
   rw[Nat.shiftLeft_eq]at this
   exact this.symm
  have c:x%2 ^ (k+1)=2 ^ k*(x/2 ^ k%2)+x%2 ^ k:=by
   rw[Nat.pow_succ,Nat.mod_mul];omega
  obtain⟨a1,a2,a3,a4⟩:=RB.bits (x:=x) (k:=k) (r:=r.next) (y:=y*2+x/2 ^ k%2) (bs:=bs) h2 (AA (Bo _ (by omega)) hy)
  rw[CC.bits,e]
  refine⟨?_,a2,a3,by rw[a4];show r.at_+1+k=_;omega⟩
  rw[a1,c,Nat.pow_succ,Ck,Nat.mul_comm (2 ^ k) (x/2 ^ k%2),Nat.mul_comm (2 ^ k) 2,Nat.mul_assoc];omega
theorem RB.left{r:CC}{bs:N_}(h:RB r bs){n:Nat}(hn:n<=bs.length):¬r.left<n:=by
 have:=h.len
 unfold CC.left
 rw[Ah h.bad];omega
theorem RB.get{r:CC}{x k:Nat}{bs:N_}(h:RB r (Fd x k++bs))(hk:k<=64):(r.get k).1=x%2 ^ k/\RB (r.get k).2 bs/\(r.get k).2.b=r.b/\(r.get k).2.at_=r.at_+k:=by
 have hl:=RB.left h (n:=k) (by rw[Ac,Gy];omega)
 unfold CC.get
 rw[Aa hl]
 have b:(0+1)*2 ^ k<=18446744073709551616:=by
  have:(2:Nat) ^ k<=2 ^ 64:=BN (by decide) hk
  omega
 have:=RB.bits (x:=x) (k:=k) (y:=0) h b
 simpa using this
def Dl(x:Nat):N_:=List.replicate (len64 (x+1)-1) 0++Fd (x+1) (len64 (x+1))
theorem LW:∀k,Fd 0 k=List.replicate k 0
 |0=>rfl
 |k+1=>by rw[Fd,LW k,Nat.zero_div];rfl
theorem WB.num{w:CF}{bs:N_}(h:WB w bs){x:Nat}(hx:x<18446744073709551615):WB (w.num x) (bs++Dl x):=by
 unfold CF.num
 rw[Aa (by omega),Dl,<-LW,<-Ao]
 exact WB.put (WB.put h)
theorem RB.numL{bs:N_}:∀ {m k n:Nat} {r:CC},RB r (List.replicate m 0++1::bs)->n+m<=64->m<k->∃r',CC.numL k r n=(some (n+m),r')/\RB r' bs/\r'.b=r.b/\r'.at_=r.at_+m+1
 |0,0,n,r,h,hn,hk=>by omega
 |m+1,0,n,r,h,hn,hk=>by omega
 |0,k+1,n,r,h,hn,hk=>by
  obtain⟨g1,g2,b,c⟩:=RB.get (x:=1) (k:=1) (bs:=bs) h (by decide)
  unfold CC.numL
  rw[Ah (by rw[g1];decide)]
  exact⟨_,rfl,g2,b,by rw[c]⟩
 |m+1,k+1,n,r,h,hn,hk=>by
  obtain⟨g1,g2,b,c⟩:=RB.get (x:=0) (k:=1) (bs:=List.replicate m 0++1::bs) h (by decide)
  unfold CC.numL
  rw[Aa (by rw[g1];decide),Aa (fun q=>q g2.bad),Aa (by omega)]
  obtain⟨r',e,h2,h3,h4⟩:=RB.numL (m:=m) (k:=k) (n:=n+1) g2 (by omega) (by omega)
  exact⟨r',by rw[e];congr 2;omega,h2,by rw[h3,b],by rw[h4,c];omega⟩
theorem JA{x:Nat}:∃m,len64 (x+1)=m+1/\2 ^ m<=x+1/\x+1<2 ^ (m+1)/\Dl x=List.replicate m 0++1::Fd (x+1) m:=by
 obtain⟨h1,h2⟩:=BL.len64 (x+1)
 obtain⟨m,hm,hp⟩:=h2 (by omega)
 rw[hm]at h1
 refine⟨m,hm,hp,h1,?_⟩
 unfold Dl
 rw[hm,Nat.add_sub_cancel,Fd]
 have hd:(x+1)/2 ^ m=1:=by
  apply Nat.div_eq_of_lt_le
  ·rw[Nat.one_mul];exact hp
  ·rw[Nat.pow_succ]at h1;omega
 rw[hd]
theorem numBits_len{x:Nat}(hx:x<18446744073709551615):(Dl x).length<=127:=by
 obtain⟨m,h1,h2,h3,h4⟩:=JA (x:=x)
 have:m<64:=by
  rcases Ca m 64 with h|h
  ·exact h
  ·have:(2:Nat) ^ 64<=2 ^ m:=BN (by decide) h
   omega
 rw[h4,Ac,Am,Gy,List.length_replicate];omega
theorem RB.num{r:CC}{x:Nat}{bs:N_}(hx:x<18446744073709551615)(h:RB r (Dl x++bs)):r.num.1=x/\RB r.num.2 bs/\r.num.2.b=r.b/\r.num.2.at_=r.at_+(Dl x).length:=by
 obtain⟨m,h1,h2,h3,h4⟩:=JA (x:=x)
 have hm:m<64:=by
  rcases Ca m 64 with h|h
  ·exact h
  ·have:(2:Nat) ^ 64<=2 ^ m:=BN (by decide) h
   omega
 rw[h4,Ao]at h
 obtain⟨r',e,k2,k3,k4⟩:=RB.numL (k:=65) (n:=0) h (by omega) (by omega)
 obtain⟨g1,g2,d,f⟩:=RB.get k2 (Nat.le_of_lt hm)
 have en:r.num=r'.numE m:=by unfold CC.num;rw[e,AE]
 have c:r'.numE m=((2 ^ m|||(r'.get m).1)-1,(r'.get m).2):=by
  unfold CC.numE
  rw[Aa (by omega),Aa (fun q=>q g2.bad)]
 rw[en,c]
 refine⟨?_,g2,by rw[d,k3],by rw[f,k4,h4,Ac,Am,Gy,List.length_replicate];omega⟩
 show(2 ^ m|||(r'.get m).1)-1=x
 have hlt:(x+1)%2 ^ m<2 ^ m:=By _ (Nat.two_pow_pos m)
 have ho:=Cf hlt 1
 rw[Nat.shiftLeft_eq,Nat.one_mul]at ho
 have b:(x+1)%2 ^ m=x+1-2 ^ m:=by
  rw[Nat.mod_eq_sub_mod h2,Cp (by rw[Nat.pow_succ]at h3;omega)]
 rw[g1,<-ho,b];omega
theorem WB.rd{w:CF}{bs:N_}(h:WB w bs)(d:N_):RB ⟨w.b++d,0,0⟩ bs where
 bad:=rfl
 len:=by have:=h.ok.len;have:=h.n;simp only[List.length_append];omega
 at_:=fun i hi=>by
  have h1:=h.at_ i
  have h2:=h.ok.len;have h3:=h.n
  rw[<-h1]
  show SD (w.b++d) (0+i)=_
  rw[AE]
  unfold SD
  rw[AB,AB,Bh (by omega)]
theorem SQ{x:Nat}(h:x<18446744073709551616):(18446744073709551615:Nat)^^^x=18446744073709551615-x:=by
 have:=congrArg BitVec.toNat (BitVec.allOnes_xor (x:=BitVec.ofNat 64 x))
 rw[BitVec.toNat_xor,BitVec.toNat_not,BitVec.toNat_allOnes,BitVec.toNat_ofNat,Cp (show x<2 ^ 64 from h)]at this
 exact this
theorem WF{x:Nat}(h:x<4611686018427387904):KZ (x:Int)=2*x:=by
 have e1:FZ .u64 (IntKind.u64.wrap (x:Int)) 1=((2*x:Nat):Int):=by
  rw[Eh (by omega),show(1:Int)=((1:Nat):Int) from rfl,JX (by decide)];congr 1;omega
 have e2:IntKind.u64.wrap (GN (x:Int) 63 .i64)=((0:Nat):Int):=by
  rw[show(63:Int)=((63:Nat):Int) from rfl,DF (by decide),Nat.div_eq_of_lt (by omega)];rfl
 unfold KZ zig
 rw[e1,e2,SS (by omega) (by decide),Nat.xor_zero];rfl
theorem zigN_neg{x:Nat}(h:x<4611686018427387904):KZ (-(x:Int)-1)=2*x+1:=by
 have e1:FZ .u64 (IntKind.u64.wrap (-(x:Int)-1)) 1=((18446744073709551616-(2*x+2):Nat):Int):=by
  have:IntKind.u64.wrap (-(x:Int)-1)=((18446744073709551616-(x+1):Nat):Int):=by rw[EN];omega
  rw[this,show(1:Int)=((1:Nat):Int) from rfl,JX (by decide)];congr 1;omega
 have e2:IntKind.u64.wrap (GN (-(x:Int)-1) 63 .i64)=((18446744073709551615:Nat):Int):=by
  have:GN (-(x:Int)-1) 63 .i64= -1:=by
   unfold GN
   rw[show min (63:Int).toNat IntKind.i64.bits=63 from rfl]
   rw[Int.fdiv_eq_ediv_of_nonneg _ (by decide)];omega
  rw[this];rfl
 unfold KZ zig
 rw[e1,e2,SS (by omega) (by decide),Nat.xor_comm,SQ (by omega)]
 omega
theorem zag_even{x:Nat}(h:x<4611686018427387904):zag (2*x)=(x:Int):=by
 unfold zag
 rw[and1u (by omega),show GN ((2*x:Nat):Int) 1 .u64=((2*x/2 ^ 1:Nat):Int) from DF (i:=1) (by decide),show 2*x/2 ^ 1=x by omega,show 2*x%2=0 by omega,IU (by omega) (by omega)]
 have h1:(BitVec.ofInt 64 (x:Int)^^^BitVec.ofInt 64 (Pj (0-Pj ((0:Nat):Int)))).toNat=x:=by
  rw[show BitVec.ofInt 64 (Pj (0-Pj ((0:Nat):Int)))=0#64 from by decide,BitVec.xor_zero,bv 64 x (by omega)]
 show IntKind.i64.wrap ((BitVec.ofInt 64 (x:Int)^^^BitVec.ofInt 64 (Pj (0-Pj ((0:Nat):Int)))).toNat:Int)=_
 rw[h1,DU (by omega)]
theorem zag_odd{x:Nat}(h:x<4611686018427387904):zag (2*x+1)= -(x:Int)-1:=by
 unfold zag
 rw[and1u (by omega),show GN ((2*x+1:Nat):Int) 1 .u64=(((2*x+1)/2 ^ 1:Nat):Int) from DF (i:=1) (by decide),show(2*x+1)/2 ^ 1=x by omega,show(2*x+1)%2=1 by omega,IU (by omega) (by omega)]
 have h1:(BitVec.ofInt 64 (x:Int)^^^BitVec.ofInt 64 (Pj (0-Pj ((1:Nat):Int)))).toNat=18446744073709551615-x:=by
  rw[show BitVec.ofInt 64 (Pj (0-Pj ((1:Nat):Int)))=BitVec.allOnes 64 from by decide,BitVec.toNat_xor,bv 64 x (by omega),BitVec.toNat_allOnes,Nat.xor_comm]
  exact SQ (by omega)
 show IntKind.i64.wrap ((BitVec.ofInt 64 (x:Int)^^^BitVec.ofInt 64 (Pj (0-Pj ((1:Nat):Int)))).toNat:Int)=_
 rw[h1,show((18446744073709551615-x:Nat):Int)= -(x:Int)-1+18446744073709551616 by omega]
 show IntKind.i64.wrap _=_
 simp[IntKind.wrap,IntKind.signed,IntKind.bits]
 omega
def KP(x:Int):Prop:= -4611686018427387904<=x/\x<4611686018427387904
theorem Qx{x:Int}(h:KP x):zag (KZ x)=x/\KZ x<18446744073709551615:=by
 obtain⟨h1,h2⟩:=h
 rcases Int.lt_or_le x 0 with hx|hx
 ·obtain⟨y,rfl⟩:∃y:Nat,x= -(y:Int)-1:=⟨(-x-1).toNat,by omega⟩
  rw[zigN_neg (by omega)]
  exact⟨zag_odd (by omega),by omega⟩
 ·obtain⟨y,rfl⟩:∃y:Nat,x=(y:Int):=⟨x.toNat,by omega⟩
  rw[WF (by omega)]
  exact⟨zag_even (by omega),by omega⟩
def Hu(x:Int):N_:=Dl (KZ x)
theorem WB.int{w:CF}{bs:N_}(h:WB w bs){x:Int}(hx:KP x):WB (w.int x) (bs++Hu x):=WB.num h (Qx hx).2
theorem RB.int{r:CC}{x:Int}{bs:N_}(hx:KP x)(h:RB r (Hu x++bs)):r.int.1=x/\RB r.int.2 bs/\r.int.2.b=r.b/\r.int.2.at_=r.at_+(Hu x).length:=by
 obtain⟨h1,h2,h3,h4⟩:=RB.num (Qx hx).2 h
 exact⟨by unfold CC.int;rw[h1];exact(Qx hx).1,h2,h3,h4⟩
theorem Ss{at_:Int}{r:HY}(h0:KP at_)(h1:KP r.kind)(h2:KP r.a)(h3:KP r.b)(hd:r.data.length<=65536):HV (Dj at_ r)=(at_,r,true):=by
 have hw:WB (Jl at_ r) (Hu at_++(Hu r.kind++(Hu r.a++(Hu r.b++(Dl r.data.length++[]))))):=by
  have:=WB.num ((((WB.nil.int h0).int h1).int h2).int h3) (x:=r.data.length) (by omega)
  simpa [Jl,EV] using this
 have hr:=hw.rd r.data
 obtain⟨a1,a2,_,_⟩:=RB.int h0 hr
 obtain⟨b1,b2,_,_⟩:=RB.int h1 a2
 obtain⟨c1,c2,_,_⟩:=RB.int h2 b2
 obtain⟨b,d2,_,_⟩:=RB.int h3 c2
 obtain⟨e1,e2,_,_⟩:=RB.num (by omega) d2
 unfold HV unn0 unn1 unn2 unn3 unn4
 show(if(CC.int (CC.int (CC.int (CC.int ⟨Dj at_ r,0,0⟩).2).2).2).2.num.2.bad≠0∨_ then _ else _)=_
 unfold Dj
 rw[Aa (by
  rw[e1]
  rintro(h|h)
  ·exact h e2.bad
  ·rw[Ac]at h;omega)]
 rw[a1,b1,c1,b,e1]
 have:(Jl at_ r).b++r.data=(Jl at_ r).b++r.data:=rfl
 rw[BC (by omega),Ac,Nat.add_sub_cancel,List.drop_left]
theorem bv32{x:Nat}(hx:x<4294967296):(BitVec.ofInt 32 (x:Int)).toNat=x:=DQ 32 x hx
theorem HK{x:Nat}(h:x<4294967296):IntKind.u32.wrap (x:Int)=x:=by rw[Rg];omega
theorem Mn{x y:Nat}(hx:x<4294967296)(hy:y<4294967296):YH .u32 x y=((x|||y:Nat):Int):=by
 have h1:(BitVec.ofInt 32 (x:Int)|||BitVec.ofInt 32 (y:Int)).toNat=x|||y:=by rw[BitVec.toNat_or,bv32 hx,bv32 hy]
 show IntKind.u32.wrap ((BitVec.ofInt 32 (x:Int)|||BitVec.ofInt 32 (y:Int)).toNat:Int)=_
 have h2:x|||y<4294967296:=Nat.or_lt_two_pow (n:=32) hx hy
 rw[h1,HK h2]
theorem Ya{x:Nat}(hx:x<4294967296):Fx .u32 x 16777215=((x%16777216:Nat):Int):=by
 have h1:(BitVec.ofInt 32 (x:Int)&&&BitVec.ofInt 32 ((16777215:Nat):Int)).toNat=x%16777216:=by
  rw[Ch,bv32 hx,bv32 (by decide)]
  exact BQ x 24
 show IntKind.u32.wrap ((BitVec.ofInt 32 (x:Int)&&&BitVec.ofInt 32 ((16777215:Nat):Int)).toNat:Int)=_
 rw[h1,HK (by omega)]
theorem Kj{x:Nat}(i:Nat)(hi:i<=32)(h:x*2 ^ i<4294967296):FZ .u32 x i=((x*2 ^ i:Nat):Int):=by
 unfold FZ
 rw[Bf,BC (show i<=IntKind.u32.bits from hi)]
 have:(x:Int)*2 ^ i=((x*2 ^ i:Nat):Int):=by simp
 rw[this,HK h]
theorem QC(a:Nat){b i:Nat}(h:b<2 ^ i):a*2 ^ i|||b=a*2 ^ i+b:=by
 have:=Cf h a
 rw[Nat.shiftLeft_eq]at this
 exact this.symm
theorem frX_eq{k n:Nat}(hk:k<256)(hn:n<16777216):frX k n=((k*16777216+n:Nat):Int):=by
 unfold frX
 rw[HK (by omega),HK (by omega),show FZ .u32 (k:Int) 24=((k*2 ^ 24:Nat):Int) from Kj 24 (by decide) (by omega),Mn (by omega) (by omega),QC k (i:=24) (by omega)]
theorem fourN_eq{x:Nat}:FE (x:Int)=[x/16777216%256,x/65536%256,x/256%256,x%256]:=by
 unfold FE Ia
 rw[show GN (x:Int) 24 .u32=((x/2 ^ 24:Nat):Int) from DF (i:=24) (by decide),show GN (x:Int) 16 .u32=((x/2 ^ 16:Nat):Int) from DF (i:=16) (by decide),show GN (x:Int) 8 .u32=((x/2 ^ 8:Nat):Int) from DF (i:=8) (by decide)]
 simp only[List.map_cons,List.map_nil,EM]
 rfl
theorem Xy{x:Nat}(hx:x<4294967296)(r:N_):PS (FE (x:Int)++r)=(x:Int):=by
 rw[fourN_eq]
 unfold PS
 show YH .u32 (YH .u32 (YH .u32 (FZ .u32 (IntKind.u32.wrap ((x/16777216%256:Nat):Int)) 24) (FZ .u32 (IntKind.u32.wrap ((x/65536%256:Nat):Int)) 16)) (FZ .u32 (IntKind.u32.wrap ((x/256%256:Nat):Int)) 8)) (IntKind.u32.wrap ((x%256:Nat):Int))=_
 obtain⟨a,ha⟩:∃a,a=x/16777216%256:=⟨_,rfl⟩
 obtain⟨b,hb⟩:∃a,a=x/65536%256:=⟨_,rfl⟩
 obtain⟨c,hc⟩:∃a,a=x/256%256:=⟨_,rfl⟩
 obtain⟨d,hd⟩:∃a,a=x%256:=⟨_,rfl⟩
 rw[<-ha,<-hb,<-hc,<-hd]
 rw[HK (by omega),HK (by omega),HK (by omega),HK (by omega)]
 rw[show FZ .u32 (a:Int) 24=((a*2 ^ 24:Nat):Int) from Kj 24 (by decide) (by omega),show FZ .u32 (b:Int) 16=((b*2 ^ 16:Nat):Int) from Kj 16 (by decide) (by omega),show FZ .u32 (c:Int) 8=((c*2 ^ 8:Nat):Int) from Kj 8 (by decide) (by omega)]
 rw[Mn (by omega) (by omega),QC a (i:=24) (by omega),Mn (by omega) (by omega)]
 rw[show a*2 ^ 24+b*2 ^ 16=(a*256+b)*2 ^ 16 by omega,QC _ (i:=16) (by omega),Mn (by omega) (by omega)]
 rw[show(a*256+b)*2 ^ 16+c*2 ^ 8=((a*256+b)*256+c)*2 ^ 8 by omega,QC _ (i:=8) (by omega)]
 congr 1;omega
theorem VS(x:Int):cI (FE x)=Ia x:=by
 unfold cI FE
 rw[List.map_map]
 simp only[Ia,List.map_cons,List.map_nil,Function.comp]
 simp only[show ∀y,Int.ofNat (IntKind.u8.wrap y).toNat=IntKind.u8.wrap y from fun y=>VR y]
theorem HJ(a b c:N_){i j:Nat}(hi:i=a.length)(hj:j=a.length+b.length):sl (a++(b++c)) i j=b:=by
 subst hi hj
 unfold sl
 rw[<-Ao,<-Ac,List.take_left,List.drop_left]
theorem SB{k:Nat}(hk:k<256){d:N_}(hd:d.length<=65536)(r:N_):DD ((Dt k d).1++r)=(⟨k,d⟩,12+d.length,0):=by
 have e0:(Dt k d).1=fr3 k d++d:=by unfold Dt;rw[Aa (by omega),Aa (by omega)]
 obtain⟨x,hx⟩:∃x,x=k*16777216+d.length:=⟨_,rfl⟩
 have s:frX k d.length=(x:Int):=by rw[hx];exact frX_eq hk (by omega)
 obtain⟨f1,h1⟩:∃f,f=FE (x:Int):=⟨_,rfl⟩
 obtain⟨c1,h2⟩:∃f,f=FE (Hg 0 f1):=⟨_,rfl⟩
 obtain⟨c2,h3⟩:∃f,f=FE (Hg (Hg 0 (f1++c1)) d):=⟨_,rfl⟩
 have e1:(Dt k d).1++r=f1++(c1++(c2++(d++r))):=by
  rw[e0,fr3,fr2,fr1,s,<-h1,<-h2,<-h3];simp
 have c:f1.length=4:=by rw[h1];rfl
 have e:c1.length=4:=by rw[h2];rfl
 have h:c2.length=4:=by rw[h3];rfl
 rw[e1]
 obtain⟨b,hb⟩:∃b,b=f1++(c1++(c2++(d++r))):=⟨_,rfl⟩
 have hl:b.length=12+d.length+r.length:=by rw[hb];simp[c,e,h];omega
 have n:PS b=(x:Int):=by rw[hb,h1];exact Xy (by omega) _
 have j:sl b 0 4=f1:=by
  rw[hb];exact HJ [] f1 _ rfl (by simp[c])
 have m:sl b 4 8=c1:=by
  rw[hb];exact HJ f1 c1 _ (by rw[c]) (by rw[c,e])
 have l:sl b 0 8=f1++c1:=by
  rw[hb,<-Ao];exact HJ [] (f1++c1) _ rfl (by simp[c,e])
 have g:sl b 8 12=c2:=by
  rw[hb,<-Ao];exact HJ (f1++c1) c2 _ (by simp[c,e]) (by simp[c,e,h])
 have s12:sl b 12 (12+d.length)=d:=by
  rw[hb,<-Ao,<-Ao];exact HJ (f1++c1++c2) d _ (by simp[c,e,h]) (by simp[c,e,h])
 have p:FD b=d.length:=by unfold FD;rw[n,Ya (by omega),Bf];omega
 have o:decK b=k:=by
  unfold decK
  rw[n,show GN (x:Int) 24 .u32=((x/2 ^ 24:Nat):Int) from DF (i:=24) (by decide),IU (by omega) (by omega)];omega
 rw[<-hb]
 unfold DD
 rw[Aa (by omega),p,j,m,l,g,s12,o]
 rw[Aa (fun q=>q (by rw[h2];exact VS _)),Aa (by omega),Aa (by omega),Aa (fun q=>q (by rw[h3];exact VS _))]
theorem WB.end_{w:CF}{bs:N_}(h:WB w bs){r:CC}(hb:r.b=w.b)(hat:r.at_=bs.length)(h0:r.bad=0):r.end_=0:=by
 have hl:=h.ok.len;have hn:=h.n
 have b:r.left=((8*w.b.length-w.n:Nat):Int):=by unfold CC.left;rw[Ah h0,hb,hat,<-hn];omega
 unfold CC.end_
 rw[Ah h0,Aa]
 rintro(h7|⟨hp,ht⟩)
 ·rw[b]at h7;omega
 ·apply ht
  unfold CC.tail
  obtain⟨q,hq⟩:∃q,q=r.left.toNat:=⟨_,rfl⟩
  rw[<-hq,BQ]
  apply Nat.eq_of_testBit_eq
  intro j
  rw[Nat.testBit_mod_two_pow,Nat.zero_testBit]
  by_cases hj:j<q
  ·have hi:=h.at_ (8*(w.b.length-1)+(7-j))
   rw[AB,Bn (by omega)]at hi
   unfold SD at hi
   rw[show(8*(w.b.length-1)+(7-j))/8=w.b.length-1 by omega,show 7-(8*(w.b.length-1)+(7-j))%8=j by omega,tb]at hi
   rw[hb]
   cases hc:(w.b.getD (w.b.length-1) 0).testBit j with
   |false=>simp
   |true=>rw[hc]at hi;cases hi
  ·simp[hj]
theorem GC{k:Nat}(hk:k<256){d:N_}(hd:d.length<=65536):(Dt k d).1.length=12+d.length/\(Dt k d).2=0:=by
 unfold Dt
 rw[Aa (by omega),Aa (by omega)]
 exact⟨by show(fr3 k d++d).length=_;rw[Ac];rfl,rfl⟩
def EX:List (Nat×N_)->N_
 |[]=>[]
 |p::ps=>(Dt p.1 p.2).1++EX ps
theorem Nw:∀(ps:List (Nat×N_)) (pre:N_) (b:List JV) (k:Nat),(∀p∈ps,p.1<256/\p.2.length<=65536)->ps.length<k->GU (pre++EX ps) k b pre.length=(b++ps.map fun p=>⟨p.1,p.2⟩,(pre++EX ps).length,0)
 |[],pre,b,0,_,h=>absurd h (Nat.not_lt_zero _)
 |[],pre,b,k+1,_,_=>by
  unfold GU
  rw[Aa (by simp[EX])]
  simp[EX]
 |p::ps,pre,b,0,_,h=>absurd h (Nat.not_lt_zero _)
 |p::ps,pre,b,k+1,h,hk=>by
  obtain⟨h1,h2⟩:=h p Ar
  obtain⟨h3,h4⟩:=GC h1 h2
  have hs:sl (pre++EX (p::ps)) pre.length (pre++EX (p::ps)).length=(Dt p.1 p.2).1++EX ps:=by
   have:=HJ pre (EX (p::ps)) [] rfl (j:=(pre++EX (p::ps)).length) (by rw[Ac])
   rw[AH]at this
   rw[this];rfl
  unfold GU
  rw[Ah (by simp only[EX,List.length_append];omega),hs,SB h1 h2,if_neg (fun q=>q rfl)]
  have:=Nw ps (pre++(Dt p.1 p.2).1) (b++[⟨p.1,p.2⟩]) k (fun q hq=>h q (Aw _ hq)) (by simp only[List.length_cons]at hk;omega)
  rw[Ac,h3]at this
  show GU (pre++((Dt p.1 p.2).1++EX ps)) k (b++[⟨p.1,p.2⟩]) (pre.length+(12+p.2.length))=_
  rw[<-Ao,this]
  simp[EX]
theorem TY{ps:List (Nat×N_)}(h:∀p∈ps,p.1<256/\p.2.length<=65536):FI (EX ps)=(ps.map fun p=>⟨p.1,p.2⟩,(EX ps).length,0):=by
 have hl:ps.length<=(EX ps).length:=by
  induction ps with
  |nil=>exact Af _
  |cons p ps ih=>
   have:=ih fun q hq=>h q (Aw _ hq)
   obtain⟨h1,h2⟩:=h p Ar
   have:=(GC h1 h2).1
   simp only[EX,List.length_cons,List.length_append];omega
 have:=Nw ps [] [] ((EX ps).length+1) h (by omega)
 simpa [FI] using this
def ER(turn must:Nat)(st:N_)(ns:List N_):N_:=EX ((1,headD turn must st)::ns.map fun x=>(2,x))
theorem Va{turn must:Nat}(h1:turn<18446744073709551615)(h2:must<18446744073709551615):WB (((CF.mk [] 0).num turn).num must) (Dl turn++Dl must):=by
 have:=WB.num (WB.num WB.nil h1) h2
 simpa using this
theorem ldM_tape{turn must:Nat}{st:N_}{ns:List N_}(h1:1<=turn)(h2:turn<=1099511627776)(hm:must<=ns.length)(hn:ns.length<1099511627776)(hs:st.length<=65000)(hl:∀x∈ns,x.length<=65536):GQ (ER turn must st ns)=(turn,st,ns,(ER turn must st ns).length,true):=by
 have hw:=Va (turn:=turn) (must:=must) (by omega) (by omega)
 have hbl:=(Gw turn must (by omega) (by omega)).1
 have hdl:(headD turn must st).length=1+(Fh turn must).length+st.length:=by simp[headD];omega
 have hscan:=TY (ps:=(1,headD turn must st)::ns.map fun x=>(2,x)) (fun p hp=>by
  rcases AW.1 hp with rfl|hp
  ·exact⟨show 1<256 by decide,by show(headD turn must st).length<=_;omega⟩
  ·obtain⟨x,hx,rfl⟩:=AZ.1 hp
   exact⟨show 2<256 by decide,hl x hx⟩)
 have e1:(FI (ER turn must st ns)).1=⟨1,headD turn must st⟩::ns.map fun x=>⟨2,x⟩:=by
  show(FI (EX _)).1=_
  rw[hscan];simp
 have e2:(FI (ER turn must st ns)).2.1=(ER turn must st ns).length:=by
  show(FI (EX _)).2.1=_
  rw[hscan];rfl
 obtain⟨f,hf⟩:∃f:JV,f=⟨1,headD turn must st⟩:=⟨_,rfl⟩
 have b:f.data.getD 0 0=(Fh turn must).length:=by rw[hf];rfl
 have e:TN f=⟨Fh turn must,0,0⟩:=by
  unfold TN
  rw[b,hf]
  have:=HJ [(Fh turn must).length] (Fh turn must) st (i:=1) (j:=(Fh turn must).length+1) rfl (by simp;omega)
  show CC.mk (sl (headD turn must st) 1 _) 0 0=_
  rw[headD,Ao,this]
 have hrb:=hw.rd []
 rw[AH]at hrb
 have d:RB (TN f) (Dl turn++Dl must):=by rw[e];exact hrb
 obtain⟨a1,a2,a3,a4⟩:=RB.num (x:=turn) (by omega) d
 obtain⟨b1,b2,b3,b4⟩:=RB.num (x:=must) (bs:=[]) (by omega) (by rw[AH];exact a2)
 have h:ldE f=0:=by
  unfold ldE
  have g:(TN f).num.2.num.2.b=(((CF.mk [] 0).num turn).num must).b:=by rw[b3,a3,e];unfold Fh;rfl
  refine hw.end_ g ?_ b2.bad
  rw[b4,a4,e,Ac];simp
 have c:¬Ht (f::ns.map fun x=>⟨2,x⟩)=true:=by
  show ¬(decide (f.kind≠1) || decide (f.data.length=0) || decide (f.data.length<=f.data.getD 0 0))=true
  rw[b,hf]
  simp[hdl]
  omega
 rw[<-hf]at e1
 unfold GQ
 rw[Ju e1 c,Aa (by
  rw[h,show ldT f=turn from a1,show ldN f=must from b1,AP]
  omega)]
 rw[show ldT f=turn from a1,e2,b,hf]
 have hst:sl (headD turn must st) ((Fh turn must).length+1) (headD turn must st).length=st:=by
  have:=HJ ([(Fh turn must).length]++Fh turn must) st [] (i:=(Fh turn must).length+1) (j:=(headD turn must st).length) (by simp) (by rw[hdl];simp;omega)
  rw[AH]at this
  exact this
 rw[hst,show(ns.map fun x=>(⟨2,x⟩:JV)).map (·.data)=ns from(List.map_map ..).trans (List.map_id ns)]
def PA:List N_->Nat
 |[]=>0
 |x::ns=>12+x.length+PA ns
theorem Rd:∀(ns:List N_) (x:N_),PA (ns++[x])=PA ns+(12+x.length)
 |[],x=>by simp[PA]
 |y::ns,x=>by
  have:=Rd ns x
  simp only[List.cons_append,PA];omega
def EA.sz(l:EA):Nat:=46+l.state.length+PA l.notes
structure Fw(y:Bool)(l:EA)(d:Dw):Prop where
 ok:d.Ok
 room:d.room=1048576
 turn:1<=l.turn/\l.turn<=1000000000
 st:l.state.length<=60000/\Eu l.state
 ns:∀x∈l.notes,x.length<=65536/\Eu x
 nn:l.notes.length<=1048576
 now:∃must,must<=l.notes.length/\(d.tape (l.turn%2)).b=ER l.turn must l.state l.notes
 old:(GQ (d.tape ((l.turn+1)%2)).b).2.2.2.2=true->(GQ (d.tape ((l.turn+1)%2)).b).1<l.turn
 fresh:(d.tape (l.turn%2)).fresh=false
 safeO:(d.tape ((l.turn+1)%2)).safe=(d.tape ((l.turn+1)%2)).b.length/\(d.tape ((l.turn+1)%2)).fresh=false
 safe:y=true->(d.tape (l.turn%2)).safe=(d.tape (l.turn%2)).b.length
theorem LR:∀(ps b:List (Nat×N_)),EX (ps++b)=EX ps++EX b
 |[],_=>rfl
 |p::ps,b=>by simp only[List.cons_append,EX,LR ps b,List.append_assoc]
theorem MS:∀ {ns:List N_},(∀x∈ns,x.length<=65536)->(EX (ns.map fun x=>(2,x))).length=PA ns
 |[],_=>rfl
 |x::ns,h=>by
  have:=MS fun y hy=>h y (Aw _ hy)
  have:=(GC (show 2<256 by decide) (h x Ar)).1
  simp only[List.map_cons,EX,List.length_append,PA]
  omega
theorem XR{turn must:Nat}{st:N_}{ns:List N_}(h2:turn<=1099511627776)(hm:must<=1099511627776)(hs:st.length<=65000)(hl:∀x∈ns,x.length<=65536):(ER turn must st ns).length<=46+st.length+PA ns:=by
 have hbl:=(Gw turn must (by omega) (by omega)).1
 have hdl:(headD turn must st).length=1+(Fh turn must).length+st.length:=by simp[headD];omega
 have:=(GC (show 1<256 by decide) (d:=headD turn must st) (by omega)).1
 have:=MS hl
 unfold ER
 simp only[EX,List.length_append]
 omega
theorem Qad{d:Dw}{t:Nat}(ht:t<2)(x:He):(d.set t x).tape t=x/\(d.set t x).tape ((t+1)%2)=d.tape ((t+1)%2)/\(d.set t x).room=d.room:=by
 rcases (show t=0∨t=1 by omega)with rfl|rfl<;>exact⟨rfl,rfl,rfl⟩
theorem par(n:Nat):(n%2+1)%2=(n+1)%2:=by omega
theorem par3(n:Nat):(n+1+1)%2=n%2:=by omega
theorem Fw.append{y:Bool}{l:EA}{d:Dw}(h:Fw y l d){b:N_}(hb:b.length<=65536)(hB:Eu b)(hn:l.notes.length<1048576)(hz:({l with notes:=l.notes++[b]}:EA).sz<=1048576):∃d2,l.append d b=({l with notes:=l.notes++[b]},d2,0)/\Fw false {l with notes:=l.notes++[b]} d2:=by
 obtain⟨must,hm,c⟩:=h.now
 obtain⟨h1,h2⟩:=GC (show 2<256 by decide) hb
 have h2:(Dt 2 b).2=0:=h2
 have h1:(Dt 2 b).1.length=12+b.length:=h1
 have ht:=h.turn;have hs:=h.st;have hnn:=h.nn
 have hlen:=XR (turn:=l.turn) (must:=must) (st:=l.state) (ns:=l.notes) (by omega) (by omega) (by omega) (fun x hx=>(h.ns x hx).1)
 have f:46+l.state.length+(PA l.notes+(12+b.length))<=1048576:=by rw[<-Rd];exact hz
 have hr:¬d.room<(Dt 2 b).1.length+(d.tape (l.turn%2)).b.length:=by rw[h.room,h1,c];omega
 obtain⟨q1,q2,q3⟩:=Qad (d:=d) (t:=l.turn%2) (By _ (by decide)) {d.tape (l.turn%2)with b:=(d.tape (l.turn%2)).b++(Dt 2 b).1}
 rw[par]at q2
 have e:d.append (l.turn%2) (Dt 2 b).1=(d.set (l.turn%2) {d.tape (l.turn%2)with b:=(d.tape (l.turn%2)).b++(Dt 2 b).1},0):=by unfold Dw.append;rw[Aa hr]
 refine⟨d.set (l.turn%2) {d.tape (l.turn%2)with b:=(d.tape (l.turn%2)).b++(Dt 2 b).1},?_,?_⟩
 ·unfold EA.append
  rw[Aa (fun q=>q h2),e,Aa (fun q=>q rfl)]
 ·refine⟨?_,q3.trans h.room,ht,hs,?_,by simp;omega,⟨must,by simp;omega,?_⟩,?_,?_,?_,fun q=>by cases q⟩
  ·have:=h.ok.append (l.turn%2) (JO 2 hB)
   rw[e]at this;exact this
  ·intro x hx
   rcases AC.1 hx with hx|hx
   ·exact h.ns x hx
   ·rw[Ap.1 hx];exact⟨hb,hB⟩
  ·show((d.set (l.turn%2) _).tape (l.turn%2)).b=_
   rw[q1]
   show(d.tape (l.turn%2)).b++(Dt 2 b).1=_
   rw[c]
   unfold ER
   rw[AO,<-List.cons_append,LR]
   simp[EX]
  ·show(GQ ((d.set (l.turn%2) _).tape ((l.turn+1)%2)).b).2.2.2.2=true->_
   rw[q2];exact h.old
  ·show((d.set (l.turn%2) _).tape (l.turn%2)).fresh=false
   rw[q1];exact h.fresh
  ·show((d.set (l.turn%2) _).tape ((l.turn+1)%2)).safe=((d.set (l.turn%2) _).tape ((l.turn+1)%2)).b.length/\((d.set (l.turn%2) _).tape ((l.turn+1)%2)).fresh=false
   rw[q2];exact h.safeO
theorem Fw.sync{y:Bool}{l:EA}{d:Dw}(h:Fw y l d):Fw true l (l.sync d):=by
 obtain⟨q1,q2,q3⟩:=Qad (d:=d) (t:=l.turn%2) (By _ (by decide)) ⟨(d.tape (l.turn%2)).b,(d.tape (l.turn%2)).b.length,[],false⟩
 rw[par]at q2
 refine⟨h.ok.flush _,q3.trans h.room,h.turn,h.st,h.ns,h.nn,?_,?_,?_,?_,?_⟩
 ·show ∃must,_/\((d.set (l.turn%2) _).tape (l.turn%2)).b=_
  rw[q1];exact h.now
 ·show(GQ ((d.set (l.turn%2) _).tape ((l.turn+1)%2)).b).2.2.2.2=true->(GQ ((d.set (l.turn%2) _).tape ((l.turn+1)%2)).b).1<_
  rw[q2];exact h.old
 ·show((d.set (l.turn%2) _).tape (l.turn%2)).fresh=false
  rw[q1]
 ·show((d.set (l.turn%2) _).tape ((l.turn+1)%2)).safe=((d.set (l.turn%2) _).tape ((l.turn+1)%2)).b.length/\((d.set (l.turn%2) _).tape ((l.turn+1)%2)).fresh=false
  rw[q2];exact h.safeO
 ·intro _
  show((d.set (l.turn%2) _).tape (l.turn%2)).safe=((d.set (l.turn%2) _).tape (l.turn%2)).b.length
  rw[q1]
theorem Fw.load{y:Bool}{l:EA}{d:Dw}(h:Fw y l d):GQ (d.tape (l.turn%2)).b=(l.turn,l.state,l.notes,(d.tape (l.turn%2)).b.length,true):=by
 obtain⟨must,hm,b⟩:=h.now
 have:=h.turn;have:=h.st;have:=h.nn
 rw[b]
 exact ldM_tape (by omega) (by omega) hm (by omega) (by omega) fun x hx=>(h.ns x hx).1
theorem QaS{t:He}(h:t.safe=t.b.length)(hf:t.fresh=false)(k:Int):t.crash k=⟨t.b,t.b.length,[],false⟩:=by
 unfold He.crash
 rw[hf,Aa (fun q=>by cases q.1),h,AU (by omega)]
theorem Dw.crash_tape(d:Dw)(ks:List Int){t:Nat}(ht:t<2):∃k,(d.crash ks).tape t=(d.tape t).crash k:=by
 rcases (show t=0∨t=1 by omega)with rfl|rfl
 ·exact⟨_,rfl⟩
 ·exact⟨_,rfl⟩
theorem Fw.crash{l:EA}{d:Dw}(h:Fw true l d)(ks:List Int):Fw true l (d.crash ks):=by
 obtain⟨k1,e1⟩:=d.crash_tape ks (t:=l.turn%2) (By _ (by decide))
 obtain⟨k2,e2⟩:=d.crash_tape ks (t:=(l.turn+1)%2) (By _ (by decide))
 rw[QaS (h.safe rfl) h.fresh]at e1
 rw[QaS h.safeO.1 h.safeO.2]at e2
 refine⟨h.ok.crash ks,h.room,h.turn,h.st,h.ns,h.nn,?_,?_,?_,?_,?_⟩
 ·rw[e1];exact h.now
 ·rw[e2];exact h.old
 ·rw[e1]
 ·rw[e2];exact⟨rfl,rfl⟩
 ·rw[e1];exact fun _=>rfl
theorem VM{l:EA}{d:Dw}(hd:d.Ok)(hr:d.room=1048576)(ht:l.turn<1000000000)(hn:l.notes=[])(hs:l.state.length<=60000)(hB:Eu l.state):∃d2,l.lay d=({l with turn:=l.turn+1},d2,0)/\d2.Ok/\d2.room=1048576/\d2.tape ((l.turn+1)%2)=⟨ER (l.turn+1) 0 l.state [],(ER (l.turn+1) 0 l.state []).length,[],false⟩/\d2.tape (l.turn%2)=d.tape (l.turn%2):=by
 have hbl:=(Gw (l.turn+1) 0 (by omega) (by omega))
 have hdl:(headD (l.turn+1) 0 l.state).length=1+(Fh (l.turn+1) 0).length+l.state.length:=by simp[headD];omega
 obtain⟨h1,h2⟩:=GC (show 1<256 by decide) (d:=headD (l.turn+1) 0 l.state) (by omega)
 have h:Ie (l.turn+1) 0 l.state=(ER (l.turn+1) 0 l.state [],0):=by
  have e:Dt ((1:Nat):Int) (headD (l.turn+1) 0 l.state)=((Dt ((1:Nat):Int) (headD (l.turn+1) 0 l.state)).1,(Dt ((1:Nat):Int) (headD (l.turn+1) 0 l.state)).2):=rfl
  rw[h2]at e
  show Dt ((1:Nat):Int) _=_
  rw[e]
  simp[ER,EX]
 have hB2:Eu (ER (l.turn+1) 0 l.state []):=by
  have:ER (l.turn+1) 0 l.state []=(Dt 1 (headD (l.turn+1) 0 l.state)).1:=by simp[ER,EX]
  rw[this]
  exact JO _ ((Eu.append (fun x hx=>by rw[Ap.1 hx];omega) hbl.2).append hB)
 have hl:(ER (l.turn+1) 0 l.state []).length<=60046:=by
  have:ER (l.turn+1) 0 l.state []=(Dt ((1:Nat):Int) (headD (l.turn+1) 0 l.state)).1:=by simp[ER,EX]
  rw[this,h1];omega
 obtain⟨b,hb⟩:∃b,b=ER (l.turn+1) 0 l.state []:=⟨_,rfl⟩
 rw[<-hb]at h hB2 hl ⊢
 have j:l.layb=(b,0):=by unfold EA.layb;rw[hn];show Vu (Ie (l.turn+1) 0 l.state).1 []=_;rw[h];rfl
 obtain⟨t,f⟩:∃t,t=(l.turn+1)%2:=⟨_,rfl⟩
 have c:t<2:=by omega
 have hto:(t+1)%2=l.turn%2:=by omega
 obtain⟨q1,q2,q3⟩:=Qad (d:=d) c (d.tape t).clear
 have i:(d.clear t).tape t=(d.tape t).clear:=q1
 have k:(d.clear t).append t b=((d.clear t).set t {(d.tape t).clear with b:=b},0):=by
  unfold Dw.append
  rw[i,Aa (by show ¬(d.clear t).room<b.length+0;rw[show(d.clear t).room=d.room from q3,hr];omega)]
  show((d.clear t).set t {(d.tape t).clear with b:=[]++b},(0:Int))=_
  rw[List.nil_append]
 obtain⟨p1,p2,p3⟩:=Qad (d:=d.clear t) c {(d.tape t).clear with b:=b}
 obtain⟨r1,r2,m⟩:=Qad (d:=(d.clear t).set t {(d.tape t).clear with b:=b}) c ⟨b,b.length,[],false⟩
 have g:((d.clear t).append t b).1.flush t=((d.clear t).set t {(d.tape t).clear with b:=b}).set t ⟨b,b.length,[],false⟩:=by
  rw[k]
  show Dw.set _ t ⟨(Dw.tape _ t).b,(Dw.tape _ t).b.length,[],false⟩=_
  rw[p1]
 refine⟨((d.clear t).append t b).1.flush t,?_,((hd.clear t).append t hB2).flush t,?_,?_,?_⟩
 ·unfold EA.lay
  rw[hn]
  show(if(Ie (l.turn+1) 0 l.state).2≠0 then _ else _)=_
  rw[h,Aa (fun q=>q rfl),j,Aa (fun q=>q rfl),<-f,Aa (fun q=>q (by rw[k]))]
 ·rw[g,m,p3];exact q3.trans hr
 ·rw[g,<-f,r1]
 ·rw[g,<-hto,r2,p2];exact q2
theorem Fw.check{y:Bool}{l:EA}{d:Dw}(h:Fw y l d)(hy:y=true){st:N_}(hs:st.length<=60000)(hB:Eu st)(ht:l.turn<1000000000):∃d2,l.check d st=(⟨l.turn+1,st,[]⟩,d2,0)/\Fw true ⟨l.turn+1,st,[]⟩ d2:=by
 obtain⟨d2,e,k1,k2,k3,k4⟩:=VM (l:={l with state:=st,notes:=[]}) h.ok h.room ht rfl hs hB
 have hld:=h.load
 refine⟨d2,?_,k1,k2,⟨by show 1<=l.turn+1;omega,by show l.turn+1<=_;omega⟩,⟨hs,hB⟩,(fun x hx=>by cases hx),Af _,⟨0,Af _,?_⟩,?_,?_,?_,?_⟩
 ·unfold EA.check
  rw[Aa (by omega),e,Aa (fun q=>q rfl)]
 ·show(d2.tape ((l.turn+1)%2)).b=_
  rw[k3]
 ·show(GQ (d2.tape ((l.turn+1+1)%2)).b).2.2.2.2=true->(GQ (d2.tape ((l.turn+1+1)%2)).b).1<l.turn+1
  rw[par3,k4]
  show _->(GQ (d.tape (l.turn%2)).b).1<_
  rw[hld]
  intro _
  exact Nat.lt_succ_self _
 ·show(d2.tape ((l.turn+1)%2)).fresh=false
  rw[k3]
 ·show(d2.tape ((l.turn+1+1)%2)).safe=(d2.tape ((l.turn+1+1)%2)).b.length/\(d2.tape ((l.turn+1+1)%2)).fresh=false
  rw[par3,k4]
  exact⟨h.safe hy,h.fresh⟩
 ·intro _
  show(d2.tape ((l.turn+1)%2)).safe=(d2.tape ((l.turn+1)%2)).b.length
  rw[k3]
theorem Fw.open_{y:Bool}{l:EA}{d:Dw}(h:Fw y l d):d.open_=(l,d,0):=by
 have hld:=h.load;have ho:=h.old;have ht:=h.turn
 have key:Lm d 2=(l,false):=by
  show Ir (d.tape 1).b 1 (Ir (d.tape 0).b 0 (⟨0,[],[]⟩,false))=_
  rcases (show l.turn%2=0∨l.turn%2=1 by omega)with hp|hp
  ·rw[hp]at hld
   rw[show(l.turn+1)%2=1 by omega]at ho
   have e0:Ir (d.tape 0).b 0 (⟨0,[],[]⟩,false)=(l,false):=by
    unfold Ir
    rw[hld,Ah ⟨rfl,by show 0<l.turn;omega,hp⟩]
    simp
   rw[e0]
   unfold Ir
   rw[Aa]
   rintro⟨q1,q2,_⟩
   have:=ho q1
   have q2:l.turn<(GQ (d.tape 1).b).1:=q2
   omega
  ·rw[hp]at hld
   rw[show(l.turn+1)%2=0 by omega]at ho
   obtain⟨x,hx⟩:∃x,x=Ir (d.tape 0).b 0 (⟨0,[],[]⟩,false):=⟨_,rfl⟩
   have hlt:x.1.turn<l.turn:=by
    rw[hx]
    unfold Ir
    split
    ·rename_i q;exact ho q.1
    ·show 0<l.turn;omega
   rw[<-hx]
   unfold Ir
   rw[hld,Ah ⟨rfl,hlt,hp⟩]
   simp
 unfold Dw.open_
 rw[key,Aa (by
  rintro(q|q)
  ·have q:l.turn=0:=q
   omega
  ·cases q)]
def Dw.new0(d:Dw):Prop:=d=⟨⟨[],0,[],false⟩,⟨[],0,[],false⟩,1048576⟩
theorem Wi:GQ []=(0,[],[],0,false):=by decide+kernel
theorem open_new{d:Dw}(h:d.new0):∃d2,d.open_=(⟨1,[],[]⟩,d2,0)/\Fw true ⟨1,[],[]⟩ d2:=by
 have b:Eu []:=fun _ h=>by cases h
 have hok:d.Ok:=by
  rw[h]
  exact⟨⟨Al _,Af _,Af _,b,b⟩,⟨Al _,Af _,Af _,b,b⟩,by decide⟩
 have key:Lm d 2=(⟨0,[],[]⟩,false):=by
  show Ir (d.tape 1).b 1 (Ir (d.tape 0).b 0 (⟨0,[],[]⟩,false))=_
  rw[h]
  show Ir [] 1 (Ir [] 0 (⟨0,[],[]⟩,false))=_
  unfold Ir
  rw[Wi]
  simp
 obtain⟨d2,e,k1,k2,k3,k4⟩:=VM (l:=⟨0,[],[]⟩) hok (by rw[h]) (by decide) rfl (Af _) b
 have k3:d2.tape 1=⟨ER 1 0 [] [],(ER 1 0 [] []).length,[],false⟩:=k3
 have k4:d2.tape 0=⟨[],0,[],false⟩:=by rw[show d2.tape 0=d.tape 0 from k4,h];rfl
 refine⟨d2,?_,k1,k2,⟨Al _,by decide⟩,⟨Af _,b⟩,(fun x hx=>by cases hx),Af _,⟨0,Af _,?_⟩,?_,?_,?_,?_⟩
 ·unfold Dw.open_
  rw[key,Ah (.inl rfl)]
  exact e
 ·show(d2.tape 1).b=_
  rw[k3]
 ·show(GQ (d2.tape 0).b).2.2.2.2=true->_
  rw[k4,Wi]
  intro q;cases q
 ·show(d2.tape 1).fresh=false
  rw[k3]
 ·show(d2.tape 0).safe=(d2.tape 0).b.length/\(d2.tape 0).fresh=false
  rw[k4];exact⟨rfl,rfl⟩
 ·intro _
  show(d2.tape 1).safe=(d2.tape 1).b.length
  rw[k3]
def KS(st:N_)(ks:List DW):List DW:=GA (st.length+1) st ks
theorem JC:∀ {f:Nat} {st:N_} {ks:List DW},st.length<f->GA f st ks=KS st ks
 |0,_,_,h=>absurd h (Nat.not_lt_zero _)
 |f+1,st,ks,h=>by
  unfold KS GA
  split
  ·rfl
  ·split
   ·rfl
   ·rename_i h1 h2
    rw[JC (f:=f) (by rw[AD];omega),JC (f:=st.length) (by rw[AD];omega)]
theorem KS_nil(ks:List DW):KS [] ks=ks:=by
 unfold KS GA
 rw[Ah (by show 0<2;decide)]
theorem KS_two{x r:N_}{ks:List DW}(hx:x.length<65536):KS (Fu x++r) ks=KS r (GV ks x):=by
 have hn:(Fu x++r).getD 0 0*256+(Fu x++r).getD 1 0=x.length:=by
  show x.length/256%256*256+x.length%256=_
  omega
 have hl:(Fu x++r).length=2+x.length+r.length:=by simp[Fu];omega
 have hs:sl (Fu x++r) 2 (2+x.length)=x:=by
  have:=HJ [x.length/256%256,x.length%256] x r (i:=2) (j:=2+x.length) rfl rfl
  rw[Fu,Ao];exact this
 have hd:(Fu x++r).drop (2+x.length)=r:=by
  unfold Fu
  rw[Ao,<-Ao,List.drop_left' (by simp;omega)]
 unfold KS GA
 rw[Aa (by omega),hn,Aa (by omega),hs,hd,JC (by omega)]
 rfl
theorem IS(at_:Int)(r:HY)(hl:r.data.length<1099511627776):(Dj at_ r).length<=81+r.data.length:=by
 obtain⟨h1,h2⟩:=IH at_ r hl
 have:=h1.len
 unfold Dj
 rw[Ac];omega
theorem i62_0:KP 0:=⟨by decide,by decide⟩
theorem i62_1:KP 1:=⟨by decide,by decide⟩
theorem i62_2:KP 2:=⟨by decide,by decide⟩
theorem set_set{α:Type}(l:List α)(i:Nat)(x y:α):(l.set i x).set i y=l.set i y:=by simp
theorem Jv{ks:List DW}{i:Nat}(hi:i<ks.length)(EQ:i<1024){q:DW}{r:HY}(h1:KP r.kind)(h2:KP r.a)(h3:KP r.b)(hd:r.data.length<=65536):GV (ks.set i q) (Dj i r)=ks.set i (q.lay r):=by
 unfold GV
 rw[Ss ⟨by omega,by omega⟩ h1 h2 h3 hd]
 unfold PQ
 rw[Ah ⟨rfl,by show(0:Int)<=(i:Int);omega,by show(i:Int)<_;rw[AQ];omega⟩]
 show(ks.set i q).set (i:Int).toNat (((ks.set i q).getD (i:Int).toNat ⟨0,0,[]⟩).lay r)=_
 rw[Bf,set_set,AB,Bj hi]
 rfl
theorem TH{i:Nat}{r:N_}(EQ:i<1024):∀(bs:List N_) {ks:List DW} (q:DW),i<ks.length->(∀b∈bs,b.length<=65000)->KS (Id i bs++r) (ks.set i q)=KS r (ks.set i {q with log:=q.log++bs})
 |[],ks,q,hi,_=>by
  show KS r _=_
  rw[AH]
 |b::bs,ks,q,hi,h=>by
  have hb:=h b Ar
  have c:(JE b).data.length<=65000:=hb
  have hl:=IS (i:Int) (JE b) (by omega)
  show KS (Fu (Dj i (JE b))++Id i bs++r) _=_
  rw[Ao,KS_two (by omega),Jv (r:=JE b) hi EQ i62_2 i62_0 i62_0 (by omega)]
  have e:q.lay (JE b)= {q with log:=q.log++[b]}:=by
   show(if(2:Int)=1 then _ else if(2:Int)=2 then _ else _)=_
   rw[Aa (by decide),Ah rfl];rfl
  rw[e,TH EQ bs _ hi fun x hx=>h x (Aw _ hx)]
  simp
structure DW.Sv(k:DW):Prop where
 view:KP k.view
 normal:KP k.normal
 log:∀b∈k.log,b.length<=65000
theorem KS_saveK{i:Nat}{r:N_}(EQ:i<1024){ks:List DW}{k:DW}(hi:i<ks.length)(h:k.Sv):KS (Ij i k++r) (ks.set i Wt)=KS r (ks.set i k):=by
 unfold Ij
 have hl:=IS (i:Int) (Kd k) (by show 0<_;decide)
 rw[Ao,TH EQ _ _ hi h.log,KS_two (by have:(Kd k).data.length=0:=rfl;omega),Jv (r:=Kd k) hi EQ i62_1 h.view h.normal (Af _)]
 rfl
theorem SJ:∀(ks pre:List DW),pre.length+ks.length<=1024->(∀k∈ks,k.Sv)->KS (Eo pre.length ks) (pre++List.replicate ks.length Wt)=pre++ks
 |[],pre,_,_=>by
  show KS [] _=_
  rw[KS_nil];rfl
 |k::ks,pre,hn,h=>by
  simp only[List.length_cons]at hn
  have e1:pre++List.replicate (k::ks).length Wt=(pre++List.replicate (k::ks).length Wt).set pre.length Wt:=by
   rw[Am,List.replicate_succ,List.set_append_right _ _ (Al _),Cb];rfl
  have e2:(pre++List.replicate (k::ks).length Wt).set pre.length k=(pre++[k])++List.replicate ks.length Wt:=by
   rw[Am,List.replicate_succ,List.set_append_right _ _ (Al _),Cb];simp
  show KS (Ij pre.length k++Eo ((pre.length:Int)+1) ks) _=_
  rw[e1,KS_saveK (by omega) (by simp) (h k Ar),e2]
  have:=SJ ks (pre++[k]) (by simp;omega) fun x hx=>h x (Aw _ hx)
  rw[show((pre++[k]).length:Int)=(pre.length:Int)+1 by simp]at this
  rw[this];simp
theorem RJ{t:Nat}{ks:List DW}(hn:ks.length<=1024)(h:∀k∈ks,k.Sv):Ds ⟨t,Eo 0 ks,[]⟩ ks.length=ks:=by
 have:=SJ ks [] (by simpa using hn) h
 simpa [Ds,Jj,KS] using this
theorem Vj(l:EA)(n:Nat)(ns:List N_):Ds {l with notes:=l.notes++ns} n=Jj (Ds l n) ns:=by
 unfold Ds Jj
 rw[BP]
structure CU where
 core:CA
 state:FA
 wants:List (Int×(Int×Int))
 seen:Int
 done:Int
 ages:List (Int×Int)
 told:NY
 tell:Bool
structure CR where
 me:Int
 c:CfM
 log:EA
 parts:List CU
 post:Du
 busy:Int
 out:List Db
def gQ(q:Int×Int):Value:=.agg [Cs q.1,Cs q.2].toArray
abbrev ptc(m:CU)(b sp c ab:Nat):V_:=[Cr b,Cr sp,.map (some c),Cs m.seen,Cs m.done,.map (some ab)]++env m.told++[.bool m.tell]
abbrev Qy(p:Nat)(m:CU)(b sp c ab:Nat):CW:=blk p (.cells (ptc m b sp c ab).toArray 100 (0,0))
def Fe(L:PL)(p:Nat)(m:CU)(rs:Mem):Prop:=∃b sp c ab:Nat,Ru [Qy p m b sp c ab,Dm c gQ m.wants,Dm ab gI m.ages] [Dr b L m.core,Ih sp L m.state] rs
theorem Cat2.le{A c B d:Mem->Prop}(h1:∀r,A r->c r)(h2:∀r,B r->d r){f rs:Mem}:Ru f [A,B] rs->Ru f [c,d] rs:=fun⟨r,e,r1,r2,e1,a,r3,r4,e2,b,e3⟩=>⟨r,e,r1,r2,e1,h1 _ a,r3,r4,e2,h2 _ b,e3⟩
theorem Fe.le{p:Nat}{L L':PL}{m:CU}(k:Le L L'):∀rs,Fe L p m rs->Fe L' p m rs:=by
 rintro rs ⟨b,sp,c,ab,h⟩
 exact⟨b,sp,c,ab,Cat2.le (Dr.le k) (Ih.le k) h⟩
abbrev cec(x:CR)(b d:Nat)(e c:Value):V_:=Cs x.me::cfv x.c++[Cr b,e,Cr d,Cs x.busy,.bool false,c]
abbrev Mg(p:Nat)(x:CR)(b d:Nat)(e c:Value):CW:=blk p (.cells (cec x b d e c).toArray 93 (0,0))
def DG(p:Nat):Value:=Cr p
def Jn(e:A_)(pc:Nat)(ps:N_)(y:Bool)(p b:Nat)(L:PL)(x:CR)(rs:Mem):Prop:=∃(c f:Nat) (oa:A_) (oc:Nat) (mcs:V_) (d:Dw),
 Ru [Mg p x c f (.slice e x.parts.length pc) (.slice oa x.out.length oc),sq e x.parts.length pc 101 1 (ps.map DG),sq oa x.out.length oc 138 12 mcs]
  [Ey c b L x.log,DZ b d,DV f L x.post,DH (Fe L) ps x.parts] rs/\Fw y x.log d/\ps.length=x.parts.length/\Rws (Gu L) mcs x.out
theorem Jn.le{c:A_}{pc:Nat}{ps:N_}{y:Bool}{p b:Nat}{L L':PL}{x:CR}(k:Le L L'):∀rs,Jn c pc ps y p b L x rs->Jn c pc ps y p b L' x rs:=by
 rintro rs ⟨f,g,oa,oc,mcs,d,⟨r,e,r1,r2,e1,a1,i,j,e2,a2,l,m,e3,a3,n,o,e4,a4,e5⟩,h1,h2,h3⟩
 exact⟨f,g,oa,oc,mcs,d,⟨r,e,r1,r2,e1,Ey.le k _ a1,i,j,e2,a2,l,m,e3,DV.le k _ a3,n,o,e4,a4.mono fun _ _ _ h=>Fe.le k _ h,e5⟩,h1,h2,h3.mono fun _ _ h=>h.le k⟩
theorem Jw(p c b f:Nat)(x:CR)(g e:Value)(S:N_)(L:PL):Sp P0 18 [Cr p] [Mg p x b f g e,cm S (Ey b c L x.log)] fun v h=>v= .bool false/\∃i,h=[Mg p x b f g e,cm i (Ey b c L x.log)]:=by
 refine Sq Tryz.func18 fun w0 b_=>?_
 refine Cx (Cv.op (.p1 .d)) ?_
 rintro _ ⟨_,⟨m,k,sc,l,d,rfl,hs,hns⟩,rfl⟩
 refine OA 19 ?_
 refine O8 (Zd rfl (en 50) rfl (.p1 .d) (Uw b c x.log.turn _ _)) ?_
 refine OA 3 ?_
 refine Tx (YL (.p2 (.p1 .d)) (A:=Ey b c L x.log) ⟨m,k,sc,l,d,rfl,hs,hns⟩) fun j=>?_
 exact Cu (Rr ⟨rfl,j,rfl⟩)
section
variable {w0:World}{b_:N_}{h c:Mem}{S S1 S2 S3 S4:N_}{y:Bool}{p dp lp pp cp sp wb ab pc oc:Nat}{L:PL}{x:CR}{m:CU}{pa oa:A_}{mcs:V_}{ps:N_}{d:Dw}
theorem Qaf(s:Ps h [cm S (Jn pa pc ps y p dp L x)] c):Cv w0 b_ h fun h'=>∃(lp pp:Nat) (oa:A_) (oc:Nat) (mcs:V_) (d:Dw) (S1 S2 S3 S4:N_),(Fw y x.log d/\ps.length=x.parts.length/\Rws (Gu L) mcs x.out)/\
  h'=c++[Mg p x lp pp (.slice pa x.parts.length pc) (.slice oa x.out.length oc),sq pa x.parts.length pc 101 1 (ps.map DG),sq oa x.out.length oc 138 12 mcs,cm S1 (Ey lp dp L x.log),cm S2 (DZ dp d),cm S3 (DV pp L x.post),cm S4 (DH (Fe L) ps x.parts)]:=
 (Qa9 (ι:={i:Nat×Nat×A_×Nat×V_×Dw // Fw y x.log i.2.2.2.2.2/\ps.length=x.parts.length/\Rws (Gu L) i.2.2.2.2.1 x.out})
  (fun⟨(lp,pp,oa,oc,mcs,_),_⟩=>[Mg p x lp pp (.slice pa x.parts.length pc) (.slice oa x.out.length oc),sq pa x.parts.length pc 101 1 (ps.map DG),sq oa x.out.length oc 138 12 mcs])
  (fun⟨(lp,pp,_,_,_,d),_⟩=>[Ey lp dp L x.log,DZ dp d,DV pp L x.post,DH (Fe L) ps x.parts]) s
  fun rs ⟨lp,pp,oa,oc,mcs,d,h1,h2⟩=>⟨⟨(lp,pp,oa,oc,mcs,d),h2⟩,h1⟩).then
 fun _ ⟨⟨(lp,pp,oa,oc,mcs,d),hh⟩,_,⟨S1,_,e1,S2,_,e2,S3,_,e3,S4,_,e4,e5⟩,e⟩=>by
  subst e5;subst e4;subst e3;subst e2;subst e1;subst e
  exact YM ⟨lp,pp,oa,oc,mcs,d,S1,S2,S3,S4,hh,rfl⟩
theorem ZW(s:Ps h [Mg p x lp pp (.slice pa x.parts.length pc) (.slice oa x.out.length oc),sq pa x.parts.length pc 101 1 (ps.map DG),sq oa x.out.length oc 138 12 mcs,cm S1 (Ey lp dp L x.log),cm S2 (DZ dp d),cm S3 (DV pp L x.post),cm S4 (DH (Fe L) ps x.parts)] c)
  (h1:Fw y x.log d) (h2:ps.length=x.parts.length) (h3:Rws (Gu L) mcs x.out):Cv w0 b_ h fun h'=>∃S,h'=c++[cm S (Jn pa pc ps y p dp L x)]:=
 Qa8 [Mg p x lp pp (.slice pa x.parts.length pc) (.slice oa x.out.length oc),sq pa x.parts.length pc 101 1 (ps.map DG),sq oa x.out.length oc 138 12 mcs] [cm S1 (Ey lp dp L x.log),cm S2 (DZ dp d),cm S3 (DV pp L x.post),cm S4 (DH (Fe L) ps x.parts)] [Ey lp dp L x.log,DZ dp d,DV pp L x.post,DH (Fe L) ps x.parts] rfl s
  ⟨_,_,rfl,_,_,rfl,_,_,rfl,_,_,rfl,rfl⟩ fun _ hr=>⟨lp,pp,oa,oc,mcs,d,hr,h1,h2,h3⟩
theorem QaC(s:Ps h [cm S (Fe L p m)] c):Cv w0 b_ h fun h'=>∃(cp sp wb ab:Nat) (S1 S2:N_),h'=c++[Qy p m cp sp wb ab,Dm wb gQ m.wants,Dm ab gI m.ages,cm S1 (Dr cp L m.core),cm S2 (Ih sp L m.state)]:=
 (Qa9 (ι:=Nat×Nat×Nat×Nat) (fun(cp,sp,wb,ab)=>[Qy p m cp sp wb ab,Dm wb gQ m.wants,Dm ab gI m.ages]) (fun(cp,sp,_,_)=>[Dr cp L m.core,Ih sp L m.state]) s
  fun rs ⟨cp,sp,wb,ab,h1⟩=>⟨(cp,sp,wb,ab),h1⟩).then
 fun _ ⟨(cp,sp,wb,ab),_,⟨S1,_,e1,S2,_,e2,e3⟩,e⟩=>by
  subst e3;subst e2;subst e1;subst e
  exact YM ⟨cp,sp,wb,ab,S1,S2,rfl⟩
theorem Qam(s:Ps h [Qy p m cp sp wb ab,Dm wb gQ m.wants,Dm ab gI m.ages,cm S1 (Dr cp L m.core),cm S2 (Ih sp L m.state)] c):Cv w0 b_ h fun h'=>∃S,h'=c++[cm S (Fe L p m)]:=
 Qa8 [Qy p m cp sp wb ab,Dm wb gQ m.wants,Dm ab gI m.ages] [cm S1 (Dr cp L m.core),cm S2 (Ih sp L m.state)] [Dr cp L m.core,Ih sp L m.state] rfl s ⟨_,_,rfl,_,_,rfl,rfl⟩ fun _ hr=>⟨cp,sp,wb,ab,hr⟩
end
def CR.noOut(x:CR):CR:={x with out:=[]}
theorem SP{pa:A_}{pc:Nat}{ps:N_}(y:Bool)(p dp:Nat)(S:N_)(L:PL)(x:CR):Sp P0 22 [Cr p] [cm S (Jn pa pc ps y p dp L x)] fun v h=>∃c oa oc mcs,v= .slice oa x.out.length oc/\Rws (Gu L) mcs x.out/\h=[cm c (Jn pa pc ps y p dp L x.noOut),sq oa x.out.length oc 138 12 mcs]:=by
 refine Sq Tryz.func22 fun w0 b_=>?_
 refine Cx (Qaf (.p0 .d)) ?_
 rintro _ ⟨lp,pp,oa,oc,mcs,d,S1,S2,S3,S4,⟨hL,hp,hm⟩,rfl⟩
 refine OA 8 ?_
 refine Oc rfl (en 18) rfl (.p0 (.p2 .d)) (Jw p dp lp pp x _ _ S1 L) ?_
 rintro _ _ ⟨rfl,f,rfl⟩
 refine On (CE rfl (fun b=>?_) (fun b=>?_))
 ·cases b
 refine OA 21 ?_
 refine Tp (.t5 (.t0 (.n (T:=138) (sz:=12) (.t4 (.t1 (.t1 (.t1 (.t0 .e)))))))) (Tx (ZW (x:=x.noOut) (y:=y) (oa:=none) (oc:=0) (mcs:=[]) (.p0 (.p0 (.p0 (.p0 (.p0 (.p0 (.p0 .d))))))) hL hp .nil) fun e=>Tp (.t1 (.t0 .e)) ?_)
 exact Cu (CB rfl rfl (.refl _) ⟨e,oa,oc,mcs,rfl,hm,rfl⟩)
theorem FV{ps:N_}{i p:Nat}(h:ps[i]? =some p):(ps.map DG)[i]? =some (Cr p):=by rw[Aq,h];rfl
def CR.keeps(x:CR):List DW:=x.parts.map fun m=>m.core.keep
def CR.less(x:CR):CR:=if x.log.notes.length<150 then x else {x with log:=⟨x.log.turn+1,Eo 0 x.keeps,[]⟩}
structure CR.LessOk(x:CR)(b:Nat):Prop where
 bugs:x.c.bugs=0
 core:∀m∈x.parts,m.core.Fit b
 parts:x.parts.length<=4
 save:(Eo 0 x.keeps).length<=60000/\Eu (Eo 0 x.keeps)
 turn:x.log.turn<1000000000
theorem Dc{α:Type}{l:List α}{i:Nat}{x:α}(h:l[i]? =some x):l.set i x=l:=by
 obtain⟨h1,h2⟩:=Ab.1 h
 rw[<-h2];exact List.set_getElem_self h1
theorem RG{F:A_}{pc:Nat}{ps:N_}(p u:Nat)(S:N_)(L:PL)(x:CR)(b:Nat)(hx:x.LessOk b):Sp P0 107 [Cr p] [cm S (Jn F pc ps true p u L x),pool L] fun v h=>v= .tuple #[]/\∃L' X,Le L L'/\h=[cm X (Jn F pc ps true p u L' x.less),pool L']:=by
 have hbug:=hx.bugs;have hpl:=hx.parts
 refine Sq Tryz.func107 fun w0 b_=>?_
 refine Cx (Qaf (.p0 .d)) ?_
 rintro _ ⟨H,I,oa,oc,mcs,d,Y,U,Z,D,⟨hL,hp,hm⟩,rfl⟩
 have hst:=hL.st;have hns:=hL.ns;have hnn:=hL.nn
 refine OA 7 ?_
 refine Oc rfl (en 44) rfl (.p4 (.p0 .d)) (Lu H u Y L x.log (by omega) (by omega) (fun b hb=>by have:=(hns b hb).1;omega)) ?_
 rintro _ _ ⟨L1,V,sa,sc,na,nc,l,a3,a1,rfl,rfl⟩
 refine OA 7 ?_
 refine CQ 24 (x.log.notes.length<150) ?_ ?_
 ·refine OA 11 ?_
  exact Ex
 refine Cy rfl (fun r=>?_) (fun r=>?_)
 ·rw[show x.less=x by unfold CR.less;rw[Ah r]]
  refine Ti (Cv.up (B:=DV I L1 x.post) s4 (DV.le l)) (Ti (Cv.up (B:=DH (Fe L1) ps x.parts) s5 (fun _ h=>h.mono fun _ _ _ h=>Fe.le l _ h)) (Tx (ZW (y:=true) (.p0 (.p0 (.p0 (.p3 (.p0 (.p0 (.p0 .d))))))) hL hp (hm.mono fun _ _ h=>h.le l)) fun J=>Tp (.t1 (.t0 .e)) ?_))
  exact Cu (JY rfl (.refl _) ⟨rfl,L1,J,l,rfl⟩)
 rw[show x.less= {x with log:=⟨x.log.turn+1,Eo 0 x.keeps,[]⟩} by unfold CR.less;rw[Aa r]]
 refine OA 15 ?_
 refine Ti (Cv.up (B:=DH (Fe L1) ps x.parts) s5 (fun _ h=>h.mono fun _ _ _ h=>Fe.le l _ h)) (Tp (.t0 (.t0 (.t0 (.t0 (.t0 (.t1 (.t0 (.t0 (.n (T:=42) (sz:=3) .e))))))))) (Tb (CD (fun((i,L2,D,C,E,n):Nat×PL×N_×A_×Nat×V_)=>[(0,Cr p),(28,.slice F x.parts.length pc),(29,Cs x.parts.length),(4,.slice C i E),(30,Cs i)]) (fun(i,L2,D,C,E,n)=>[Mg p x H I (.slice F x.parts.length pc) (.slice oa x.out.length oc),sq F x.parts.length pc 101 1 (ps.map DG),sq oa x.out.length oc 138 12 mcs,cm U (DZ u d),cm Z (DV I L x.post),cm V (Ey H u L1 x.log),cm D (DH (Fe L2) ps x.parts),pool L2,sq C i E 42 3 n]) (fun(i,L2,D,C,E,n)=>i<=x.parts.length/\Le L1 L2/\Rws (TT L2) n (x.keeps.take i)) (fun(i,_)=>x.parts.length-i) (0,L1,D,none,0,[]) ?_ ?_)))
 ·exact⟨⟨Af _,.refl _,.nil⟩,Sb5,.refl _⟩
 rintro⟨i,L2,D,C,E,n⟩ ⟨hi,o,hk⟩
 conv=>arg 7;dsimp only
 conv=>arg 8;dsimp only
 refine OA 5 ?_
 refine Cy rfl (fun G=>?_) (fun G=>?_)
 ·obtain⟨m,s⟩:∃m,x.parts[i]? =some m:=⟨_,Ae (by omega)⟩
  obtain⟨q,A⟩:∃q,ps[i]? =some q:=⟨_,Ae (by omega)⟩
  have hg:=FV A
  refine CO (fun w hw=>hw.sqNN (ao:=F) at1 (by omega)) fun⟨g,hgg⟩=>?_
  subst hgg
  refine OA 5 ?_
  refine O1 (Km i u90) ?_
  refine O1 (YV u101 hg) ?_
  refine OA 2 ?_
  refine Cx (ZC (.p6 .d) A s) ?_
  rintro _ ⟨J,S7,rfl⟩
  refine Cx (QaC (.p8 .d)) ?_
  rintro _ ⟨cp,sp,wb,ab,Sc,Sh,rfl⟩
  refine OA 6 ?_
  refine Oc rfl (en 10) rfl (.p12 (.p6 .d)) (FO cp Sc L2 m.core b (hx.core m (Aj s))) ?_
  rintro _ _ ⟨t,Sc2,lv,f,hlv,rfl,rfl⟩
  obtain⟨la,lc,rfl,_,_⟩:=hlv.sh
  refine Oi (Cv.up (B:=Ih sp t m.state) s11 (Ih.le f)) ?_
  refine Oi (Cv.up (B:=DH (Fe t) (ps.eraseIdx i) (x.parts.eraseIdx i)) s7 (fun _ h=>h.mono fun _ _ _ h=>Fe.le f _ h)) ?_
  refine CL (Qam (L:=t) (m:=m) (.p8 (.p8 (.p8 (.p9 (.p8 .d)))))) ?_
  rintro _ ⟨W,rfl⟩
  refine CL (ZN (i:=i) (.p9 (.p7 .d)) (by omega) (by omega)) ?_
  rintro _ ⟨S9,rfl⟩
  refine O6 (YY u39) fun a0=>?_
  refine O2 (LO.app (ao:=C) el39) ?_
  rintro _ _ ⟨O,P,rfl,rfl⟩
  refine OA 2 ?_
  rw[Dc A,Dc s]
  refine Tp (.t0 (.t0 (.t0 (.t0 (.t0 (.t0 (.t2 (.t1 (.t0 .e))))))))) (OA 4 ?_)
  exact⟨(i+1,t,S9,O,P,n++kpv m.core.keep (.slice la m.core.keep.log.length lc)),⟨⟨by omega,o.trans f,by rw[Dg (show x.keeps[i]? =some m.core.keep by unfold CR.keeps;rw[Aq,s];rfl)];exact(hk.mono fun _ _ h=>TT.le f h).snoc ⟨_,rfl,hlv⟩⟩,Sb5,.refl _⟩,by simp only;omega⟩
 have N:i=x.keeps.length:=by unfold CR.keeps;rw[AP];omega
 rw[AU (by omega)]at hk
 subst N
 obtain⟨d2,M,K⟩:=hL.check rfl hx.save.1 hx.save.2 hx.turn
 refine OA 8 ?_
 refine O1 (YK (v':=Cs 0) (Za rfl rfl rfl) (by rw[hbug];rfl)) ?_
 refine O1 Rv ?_
 refine OA 3 ?_
 refine Cw (.t .d) rfl (fun j=>false) ?_
 intro a2
 refine DA [0,1,2,3,4] ?_
 refine Da 5 ?_
 refine DB rfl rfl (en 161) rfl (.p8 (.p7 .d)) (XJ C E x.keeps n L2 _ .sq hk (by have:=hx.parts;unfold CR.keeps;rw[AP];omega) (by have:=hx.save.1;omega) (fun k hk c hc=>by obtain⟨m,hm,rfl⟩:=AZ.1 hk;have:=(hx.core m hm).entry c hc;omega)) ?_
 rintro _ _ ⟨Q,R,rfl,rfl⟩
 refine ys (Da 6 ?_)
 refine Ew (Cv.up (B:=Ey H u L2 x.log) s5 (Ey.le o)) ?_
 rintro _ rfl
 refine DB rfl rfl (en 160) rfl (.p5 (.p3 (.p6 (.p6 .d)))) (RO H u V U L2 x.log d hL.ok (by have:=hx.turn;omega) Q R (Eo 0 x.keeps) _ .sq hx.save.2) ?_
 rintro _ _ ⟨t,J,S7,f,rfl,rfl⟩
 refine ys ?_
 rw[M]
 refine D1 7 rfl FC ?_
 refine OA 4 ?_
 refine O1 Gf ?_
 refine OA 4 ?_
 refine Dk rfl ?_
 refine(Cv.up (B:=DV I t x.post) s3 (DV.le (l.trans (o.trans f)))).then fun _ e=>?_
 subst e
 refine(Cv.up (B:=DH (Fe t) ps x.parts) s4 (fun _ h=>h.mono fun _ _ _ h=>Fe.le f _ h)).then fun _ e=>?_
 subst e
 refine(ZW (x:={x with log:=⟨x.log.turn+1,Eo 0 x.keeps,[]⟩}) (y:=true) (.p0 (.p0 (.p0 (.p3 (.p3 (.p0 (.p0 .d))))))) K hp (hm.mono fun _ _ h=>h.le (l.trans (o.trans f)))).then fun _ ⟨W,e⟩=>?_
 subst e
 exact(YN (.t3 (.t1 .e))).then fun _ e=>YM ⟨rfl,t,W,l.trans (o.trans f),e⟩
theorem rdW_ok:∀(n:Nat) (os:List Es) (r:CC),r.Ok->(r.bad=0->os.length<=r.at_)->os.length<=8*r.b.length+1->(Sj n os r).1.length<=8*r.b.length+1/\(Sj n os r).2.Ok/\(Sj n os r).2.b=r.b
 |0,_,_,h,_,h2=>⟨h2,h,rfl⟩
 |n+1,os,r,h,h1,h2=>by
  by_cases hb:r.bad=0
  ·rw[rdW_go hb]
   have k1:=CC.int_ok h
   have o:=(Zn h).trans (Zn k1)
   have:=h1 hb;have:=h.at_
   obtain⟨q1,q2,q3⟩:=rdW_ok n (os++[⟨2,r.int.1,r.int.2.int.1⟩]) r.int.2.int.2 (CC.int_ok k1) (fun e=>by have:=(o.bad e).2;simp;omega) (by rw[o.b];simp;omega)
   rw[o.b]at q1 q3
   exact⟨q1,q2,q3⟩
  ·rw[Wg hb];exact⟨h2,h,rfl⟩
theorem rdZ_ok:∀(n:Nat) (os:List Int) (r:CC),r.Ok->(r.bad=0->os.length<=r.at_)->os.length<=8*r.b.length+1->(TP n os r).1.length<=8*r.b.length+1
 |0,_,_,_,_,h2=>h2
 |n+1,os,r,h,h1,h2=>by
  by_cases hb:r.bad=0
  ·rw[Vx hb]
   have o:=Zn h
   have:=h1 hb;have:=h.at_
   have q1:=rdZ_ok n (os++[r.int.1]) r.int.2 (CC.int_ok h) (fun e=>by have:=(o.bad e).2;simp;omega) (by rw[o.b];simp;omega)
   rwa [o.b]at q1
  ·rw[PT hb];exact h2
theorem ry_fit'{r:CC}(h:r.Ok)(hb:r.b.length<=1048576)(x y z:Int):(Ge.mk x y z (Sj r.num.1 [] r.num.2).1 (TP (Sj r.num.1 [] r.num.2).2.num.1 [] (Sj r.num.1 [] r.num.2).2.num.2).1).Fit:=by
 obtain⟨q1,q2,q3⟩:=rdW_ok r.num.1 [] r.num.2 (CC.num_ok h) (fun _=>Af _) (Af _)
 rw[(ZU h).b]at q1 q3
 obtain⟨w,hw⟩:∃w,w=Sj r.num.1 [] r.num.2:=⟨_,rfl⟩
 rw[<-hw]at q1 q2 q3 ⊢
 have q4:=rdZ_ok w.2.num.1 [] _ (CC.num_ok q2) (fun _=>Af _) (Af _)
 rw[(ZU q2).b,q3]at q4
 exact⟨AA q1 (by omega),AA q4 (by omega)⟩
theorem CC.ry_fit{r:CC}(h:r.Ok)(hb:r.b.length<=1048576):r.ry.1.Fit:=by
 have k1:=CC.int_ok h;have k2:=CC.int_ok k1;have k3:=CC.int_ok k2
 have o:=((Zn h).trans (Zn k1)).trans (Zn k2)
 exact ry_fit' k3 (by rw[o.b];exact hb) _ _ _
theorem wf_wrap(x:Int):(Lit.int .i64 (IntKind.i64.wrap x)).wf=true:=by
 have h:=IntKind.wrap_i64 x
 have: -9223372036854775808<=IntKind.i64.wrap x/\IntKind.i64.wrap x<=9223372036854775807:=by omega
 simpa [Lit.wf,IntKind.min,IntKind.max,IntKind.signed,IntKind.bits] using this
theorem wf_zag(x:Nat):(Lit.int .i64 (zag x)).wf=true:=wf_wrap _
theorem rd0_ok{b:N_}(hB:Eu b)(hb:b.length<=1048576):(⟨b,0,0⟩:CC).Ok:=⟨hB,by show b.length<_;omega,Af _⟩
theorem OM{b:N_}(hB:Eu b)(hb:b.length<=1048576):(Fa b).1.ready.Fit:=by
 have k:=rd0_ok hB hb
 have h:=CC.ry_fit (CC.int_ok k) (by rw[(Zn k).b];exact hb)
 unfold Fa GJ
 split
 ·split
  ·exact⟨Af _,Af _⟩
  ·exact h
 ·exact⟨Af _,Af _⟩
theorem Rk(b:N_):(Lit.int .i64 (Fa b).1.ready.txn).wf=true:=by
 unfold Fa GJ
 split
 ·split
  ·rfl
  ·exact wf_zag _
 ·rfl
theorem Rw(m:FA)(c:KM):∀(ks vs:List Int),(m.getL c vs ks).vals.length<=vs.length+ks.length
 |[],vs=>Al _
 |k::ks,vs=>by
  unfold FA.getL
  split
  ·have:=Rw m c ks (vs++[(m.store.read c.ready.txn k c.ready.start).1])
   simp only[List.length_append,List.length_cons,List.length_nil]at this ⊢
   omega
  ·exact Af _
theorem NO(m:FA){b:N_}(hB:Eu b)(hb:b.length<=1048576):(m.apply b).1.vals.length<=16777216:=by
 have h:=(OM hB hb).reads
 unfold FA.apply
 split
 ·unfold FA.app
  split
  ·split<;>exact Af _
  ·split
   ·have:=Rw m (Fa b).1 (Fa b).1.ready.reads []
    simp only[List.length_nil]at this
    exact AA this (by omega)
   ·split
    ·exact Af _
    ·split
     ·split<;>exact Af _
     ·exact Af _
 ·exact Af _
theorem MC{β:Type}{k:Int}:∀ {l:List (Int×β)} {q:Int×β},q∈adel k l->q∈l
 |[],q,h=>h
 |(j,u)::l,q,h=>by
  unfold adel at h
  split at h
  ·exact Aw _ h
  ·rcases AW.1 h with rfl|h
   ·exact Ar
   ·exact Aw _ (MC h)
theorem VZ{β:Type}(k:Int):∀l:List (Int×β),(adel k l).length<=l.length
 |[]=>Al _
 |(j,u)::l=>by
  have:=VZ k l
  unfold adel
  split<;>simp only[List.length_cons]<;>omega
theorem Tc(t:Int):∀(os:List Es) (ks:List (Int×List Hq)),KN ks->KN (NK t ks os)/\∀k,((alk k (NK t ks os)).getD []).length<=((alk k ks).getD []).length+os.length
 |[],ks,h=>⟨h,fun _=>Al _⟩
 |o::os,ks,h=>by
  obtain⟨h1,h2⟩:=Tc t os (putK t ks o) h.aset
  refine⟨h1,fun k=>AA (h2 k) ?_⟩
  unfold putK
  rw[DE,Am]
  split
  ·rename_i e
   subst e
   have:=SF ((alk o.key ks).getD []) t o.val
   show(It _ t o.val).length+_<=_
   omega
  ·omega
theorem Fj.fin_fit{s:Fj}(h:s.Fit){N:Nat}(b:∀k,((alk k s.keys).getD []).length<=N)(c:N+16777216<1099511627776)(e:NY):(s.fin e).Fit/\(s.fin e).ready.length<=s.ready.length/\∀k,((alk k (s.fin e).keys).getD []).length<=N+16777216:=by
 unfold Fj.fin
 split
 ·exact⟨h,Al _,fun k=>AA (b k) (BF _ _)⟩
 ·have hw:((alk e.txn s.ready).getD Hx).writes.length<=16777216:=by
   cases hr:alk e.txn s.ready with
   |none=>exact Af _
   |some r=>exact(h.readyF _ r hr).writes
  have key:KN (s.finK e)/\∀k,((alk k (s.finK e)).getD []).length<=N+16777216:=by
   unfold Fj.finK
   split
   ·obtain⟨q1,q2⟩:=Tc e.at_ ((alk e.txn s.ready).getD Hx).writes s.keys h.keys
    exact⟨q1,fun k=>AA (q2 k) (Nat.add_le_add (b k) hw)⟩
   ·exact⟨h.keys,fun k=>AA (b k) (BF _ _)⟩
  have hl:=VZ e.txn s.ready
  refine⟨⟨h.ready.adel,BA hl h.readyL,fun p hp=>h.readyW p (MC hp),fun d r hd=>?_,h.ends.aset,key.1,fun k vs hk=>?_⟩,hl,key.2⟩
  ·have hd:alk d (adel e.txn s.ready)=some r:=hd
   rw[Hf d h.ready]at hd
   split at hd
   ·cases hd
   ·exact h.readyF d r hd
  ·have:=key.2 k
   have hk:alk k (s.finK e)=some vs:=hk
   rw[hk]at this
   have:vs.length<=N+16777216:=this
   omega
theorem WT(s:Fj)(r:Ge):(s.prepare r).1.keys=s.keys/\(s.prepare r).1.ready.length<=s.ready.length+1:=by
 have h:=Nr r.txn r s.ready
 unfold Fj.prepare
 repeat' split
 all_goals first|exact⟨rfl,h⟩|exact⟨rfl,AL _⟩
structure FA.Run(m:FA)(N:Nat):Prop where
 fit:m.Fit N
 ready:m.store.ready.length<=N
theorem FA.Run.le{m:FA}{N N':Nat}(h:m.Run N)(k:N<=N'):m.Run N':=⟨⟨h.fit.store,h.fit.readyL,fun q=>AA (h.fit.keys q) k,h.fit.now,h.fit.stamps,h.fit.decided⟩,AA h.ready k⟩
theorem FA.Run.apply{m:FA}{N:Nat}(h:m.Run N)(c:N+16777218<1099511627776){b:N_}(hB:Eu b)(hb:b.length<=1048576):(m.apply b).2.Run (N+16777216):=by
 have h0:=h.le (BF N 16777216)
 have hr:=h.ready
 unfold FA.apply
 split
 ·unfold FA.app
  split
  ·split
   ·exact h0
   ·exact⟨⟨h0.fit.store,h0.fit.readyL,h0.fit.keys,by have:=h.fit.now;show 0<=m.now+1;omega,h0.fit.stamps,h0.fit.decided⟩,h0.ready⟩
  ·split
   ·exact h0
   ·split
    ·have hp:=QaJ h.fit.store h.fit.readyL (OM hB hb) (Rk b)
     obtain⟨e1,e2⟩:=WT m.store (Fa b).1.ready
     exact⟨⟨hp,by show(m.store.prepare _).1.ready.length+1<_;omega,fun k=>by show((alk k (m.store.prepare _).1.keys).getD []).length<=_;rw[e1];exact h0.fit.keys k,h0.fit.now,h0.fit.stamps,h0.fit.decided⟩,by show(m.store.prepare _).1.ready.length<=_;omega⟩
    ·split
     ·split
      ·exact h0
      ·exact⟨⟨h0.fit.store,h0.fit.readyL,h0.fit.keys,h0.fit.now,h0.fit.stamps,h0.fit.decided.aset⟩,h0.ready⟩
     ·obtain⟨q1,q2,q3⟩:=Fj.fin_fit h.fit.store h.fit.keys (by omega) (Fa b).1.fin
      exact⟨⟨q1,by show(m.store.fin _).ready.length+1<_;omega,q3,h0.fit.now,h0.fit.stamps,h0.fit.decided⟩,by show(m.store.fin _).ready.length<=_;omega⟩
 ·exact h0
def CU.setW(m:CU)(ws:List (Int×(Int×Int))):CU:={m with wants:=ws}
def CU.reset(m:CU):CU:=if m.core.keep.view≠m.seen∨m.core.leads=false then {m with wants:=[],seen:=m.core.keep.view}else m
def CU.step(m:CU)(b:N_):CU:={m with done:=m.done+1,state:=(m.state.apply b).2}
def tellM(me to at_ id:Int)(a:Jd):Db:={CY 7 with from_:=me,to:=to,shard:=at_,id:=id,data:=a.wr.b}
def CU.tells(m:CU)(me at_:Int)(a:Jd):CU×List Db:=match alk m.done m.wants with
 |none=>(m,[])
 |some w=>(m.setW (adel m.done m.wants),[tellM me w.1 at_ w.2 a])
def CU.doneL(me at_:Int):CU->List N_->CU×List Db
 |m,[]=>(m,[])
 |m,b::bs=>((CU.doneL me at_ ((m.step b).tells me at_ (m.state.apply b).1).1 bs).1,((m.step b).tells me at_ (m.state.apply b).1).2++(CU.doneL me at_ ((m.step b).tells me at_ (m.state.apply b).1).1 bs).2)
def CR.noted(x:CR)(at_:Nat)(rs:List HY):CR:={x with log:={x.log with notes:=x.log.notes++rs.map (Dj at_)}}
def CR.says(x:CR)(ms:List Db):CR:={x with out:=x.out++ms}
def CR.setP(x:CR)(i:Nat)(m:CU):CR:={x with parts:=x.parts.set i m}
def CR.do_(x:CR)(i:Nat)(m:CU)(o:Vi):CR:=((((x.noted i o.recs).says o.msgs).says (m.reset.doneL x.me i o.done).2).setP i (m.reset.doneL x.me i o.done).1).less
theorem PW(ns ms:List N_):PA (ns++ms)=PA ns+PA ms:=by
 induction ns with
 |nil=>simp[PA]
 |cons x ns ih=>simp only[List.cons_append,PA,ih];omega
def FA.RunA(m:FA)(N j:Nat):Prop:=m.Run (N+16777216*j)
def StN(N d:Nat):Prop:=N+16777216*(d+1)<1000000000000
theorem FA.Run.a{m:FA}{N:Nat}(h:m.Run N):m.RunA N 0:=h
theorem runN{N j d M:Nat}(b:M=N+16777216*j)(h:N+16777216*(d+1)<1000000000000)(hj:(j:Int)<(d:Int)):M+16777218<1099511627776/\M+16777216=N+16777216*(j+1):=by omega
theorem FA.RunA.fit{m:FA}{N j d:Nat}(h:m.RunA N j)(hs:StN N d)(hj:(j:Int)<(d:Int)):∃M,m.Fit M/\M+16777216<1099511627776:=
 ⟨_,Run.fit h,BA (Nat.add_le_add_left (by decide) _) (runN rfl hs hj).1⟩
theorem FA.RunA.next{m:FA}{N j d:Nat}(h:m.RunA N j)(hs:StN N d)(hj:(j:Int)<(d:Int)){b:N_}(hB:Eu b)(hb:b.length<=1048576):(m.apply b).2.RunA N (j+1):=by
 obtain⟨h1,h2⟩:=runN (N:=N) (j:=j) rfl hs hj
 unfold RunA
 rw[<-h2]
 exact Run.apply h h1 hB hb
structure CR.DoOk(x:CR)(i:Nat)(o:Vi)(m:CU)(b N:Nat):Prop where
 less:x.LessOk b
 recs:∀r∈o.recs,r.data.length<=60000/\Eu r.data
 room:(x.noted i o.recs).log.sz<=1048576
 many:x.log.notes.length+o.recs.length<=1000000
 st:m.state.Run N
 stN:StN N o.done.length
 done:∀e∈o.done,e.length<=1048576
 dn:0<=m.done/\m.done<=1000000000000
 wants:KN m.wants
 out:x.out.length+o.msgs.length+o.done.length<=1000000000
theorem Ul{x:CR}{i R:Nat}{rs:List HY}(h:(x.noted i rs).log.sz<=R)(j:Nat):(x.noted i (rs.take j)).log.sz<=R:=by
 have h1:46+x.log.state.length+PA (x.log.notes++rs.map (Dj i))<=R:=h
 show 46+x.log.state.length+PA (x.log.notes++(rs.take j).map (Dj i))<=R
 rw[<-List.take_append_drop j rs,AO,PW,PW]at h1
 rw[PW];omega
theorem Uf{x:CR}{i j:Nat}{rs:List HY}{r:HY}(h:rs[j]? =some r):(x.noted i (rs.take (j+1))).log= {(x.noted i (rs.take j)).log with notes:=(x.noted i (rs.take j)).log.notes++[Dj i r]}:=by
 show({x.log with notes:=x.log.notes++(rs.take (j+1)).map (Dj i)}:EA)= {x.log with notes:=(x.log.notes++(rs.take j).map (Dj i))++[Dj i r]}
 rw[Dg h,AO,Ao];rfl
theorem Sp.ro{P:Program}{f:FuncId}{vs:V_}{S:N_}{A:Mem->Prop}{u:Value}(hg:∀rs,A rs->Sp P f vs rs fun v h=>v=u/\h=rs):Sp P f vs [cm S A] fun v h=>v=u/\h=[cm S A]:=fun w ho=>by
 obtain⟨rs,c,hp,hr⟩:=ho.mine _ Ar
 have b:(rs.flatMap CW.ids).Perm (([cm S A]:Mem).flatMap CW.ids):=by
  simp only[List.flatMap_cons,List.flatMap_nil,List.append_nil];exact hp
 have o2:CX w (rs.flatMap CW.ids) rs w:=⟨rfl,rfl,rfl,Al _,fun _ _ _=>rfl,hr,b.nodup_iff.2 ho.nd,fun r hm i hi=>.inr (Ba.2 ⟨r,hm,hi⟩)⟩
 refine Calls.mono (hg rs c w o2) fun _ _ ⟨v,h1,he,⟨hv,hh⟩,ho1⟩=>⟨v,[cm S A],he,⟨hv,rfl⟩,?_⟩
 subst hh
 have o3:=ho1.bor (b_':=([cm S A]:Mem).flatMap CW.ids) fun i=>b.mem_iff
 exact⟨o3.os,o3.tape,o3.output,o3.size,o3.old,fun r hm=>by rw[Ap.1 hm];exact⟨_,c,hp,o3.mine⟩,b.nodup_iff.1 o3.nd,fun r hm i hi=>.inr (by rw[Ap.1 hm]at hi;exact Ba.2 ⟨_,Ar,hi⟩)⟩
theorem Mo:∀b:Mem,DM b b []
 |[]=>.d
 |_::b=>.t (Mo b)
theorem NF:∀c b:Mem,DM (c++b) b c
 |[],b=>Mo b
 |_::c,b=>.s (NF c b)
theorem Cv.pre{w0:World}{b_:N_}{b:Mem}{F:Mem->Prop}(c:Mem)(hi:∀w0 b_,Cv w0 b_ b F):Cv w0 b_ (c++b) fun h'=>∃b',F b'/\h'=c++b':=fun w o=>by
 obtain⟨h1,d,o1⟩:=hi w _ w (o.lend (NF c b))
 exact⟨c++h1,⟨h1,d,rfl⟩,o.called (NF c b) o1⟩
section
variable {w0:World}{b_:N_}{h c:Mem}{S S1 S2 S3 S4 S5 S6:N_}{y:Bool}{p dp lp pp cp sp wb ab pc oc i n k q:Nat}{L L1 L2 L3 L4 L5:PL}{x x':CR}{m:CU}{pa oa:A_}{mcs:V_}{ps:N_}{d:Dw}
theorem Cv.cpO(s:Ps h [cm S (Jn pa pc ps y p dp L x)] c)(hi:x.parts[i]? =some m):Cv w0 b_ h fun h'=>∃(lp pp:Nat) (oa:A_) (oc:Nat) (mcs:V_) (d:Dw) (q cp sp wb ab:Nat) (S1 S2 S3 S4 S5 S6:N_),(Fw y x.log d/\ps.length=x.parts.length/\Rws (Gu L) mcs x.out/\ps[i]? =some q)/\
  h'=c++[Mg p x lp pp (.slice pa x.parts.length pc) (.slice oa x.out.length oc),sq pa x.parts.length pc 101 1 (ps.map DG),sq oa x.out.length oc 138 12 mcs,cm S1 (Ey lp dp L x.log),cm S2 (DZ dp d),cm S3 (DV pp L x.post),cm S4 (DH (Fe L) (ps.eraseIdx i) (x.parts.eraseIdx i)),Qy q m cp sp wb ab,Dm wb gQ m.wants,Dm ab gI m.ages,cm S5 (Dr cp L m.core),cm S6 (Ih sp L m.state)]:=by
 refine(Qaf s).then fun _ ⟨lp,pp,oa,oc,mcs,d,S1,S2,S3,S4,⟨h1,h2,h3⟩,e⟩=>?_
 subst e
 have hil:=(Ab.1 hi).1
 obtain⟨q,hq⟩:∃q,ps[i]? =some q:=⟨_,Ae (by omega)⟩
 refine(Cv.pre c (fun _ _=>ZC (.p6 .d) hq hi)).then fun _ ⟨_,⟨S5,S6,e⟩,e2⟩=>?_
 subst e;subst e2
 refine(Cv.pre c (fun _ _=>QaC (.p6 .d))).then fun _ ⟨_,⟨cp,sp,wb,ab,S7,S8,e⟩,e2⟩=>?_
 subst e;subst e2
 exact YM ⟨lp,pp,oa,oc,mcs,d,q,cp,sp,wb,ab,S1,S2,S3,S6,S7,S8,⟨h1,h2,h3,hq⟩,rfl⟩
theorem Qal(s:Ps h [Mg p x' lp pp (.slice pa n pc) (.slice oa k oc),sq pa n pc 101 1 (ps.map DG),sq oa k oc 138 12 mcs,cm S1 (Ey lp dp L1 x'.log),cm S2 (DZ dp d),cm S3 (DV pp L2 x'.post),cm S4 (DH (Fe L3) (ps.eraseIdx i) (x.parts.eraseIdx i)),Qy q m cp sp wb ab,Dm wb gQ m.wants,Dm ab gI m.ages,cm S5 (Dr cp L4 m.core),cm S6 (Ih sp L5 m.state)] c)
  (hL:Fw y x'.log d) (hp:ps.length=x.parts.length) (hm:Rws (Gu L) mcs x'.out) (hq:ps[i]? =some q) (hx:x'.parts=x.parts.set i m) (hn:n=x.parts.length) (hk:k=x'.out.length) (k1:Le L1 L) (k2:Le L2 L) (k3:Le L3 L) (k4:Le L4 L) (f:Le L5 L):Cv w0 b_ h fun h'=>∃S,h'=c++[cm S (Jn pa pc ps y p dp L x')]:=by
 have hil:=(Ab.1 hq).1
 refine(Cv.perm (Av.trans s.perm)).then fun _ e=>?_
 subst e
 refine(Cv.pre c (fun _ _=>Cv.up (B:=Ey lp dp L x'.log) s3 (Ey.le k1))).then fun _ ⟨_,e,e2⟩=>?_
 subst e;subst e2
 refine(Cv.pre c (fun _ _=>Cv.up (B:=DV pp L x'.post) s5 (DV.le k2))).then fun _ ⟨_,e,e2⟩=>?_
 subst e;subst e2
 refine(Cv.pre c (fun _ _=>Cv.up (B:=DH (Fe L) (ps.eraseIdx i) (x.parts.eraseIdx i)) s6 (fun _ h=>h.mono fun _ _ _ h=>Fe.le k3 _ h))).then fun _ ⟨_,e,e2⟩=>?_
 subst e;subst e2
 refine(Cv.pre c (fun _ _=>Cv.up (B:=Dr cp L m.core) s10 (Dr.le k4))).then fun _ ⟨_,e,e2⟩=>?_
 subst e;subst e2
 refine(Cv.pre c (fun _ _=>Cv.up (B:=Ih sp L m.state) s11 (Ih.le f))).then fun _ ⟨_,e,e2⟩=>?_
 subst e;subst e2
 refine(Cv.pre c (fun _ _=>Qam (L:=L) (m:=m) (.p7 (.p7 (.p7 (.p7 (.p7 .d))))))).then fun _ ⟨_,⟨S7,e⟩,e2⟩=>?_
 subst e;subst e2
 refine(Cv.pre c (fun _ _=>ZN (i:=i) (.p7 (.p6 .d)) hil (by omega))).then fun _ ⟨_,⟨S8,e⟩,e2⟩=>?_
 subst e;subst e2
 rw[Dc hq,<-hx]
 have b:n=x'.parts.length:=by rw[hx,AQ];exact hn
 subst b;subst hk
 refine(Cv.pre c (fun _ _=>ZW (y:=y) (.p0 (.p0 (.p0 (.p0 (.p0 (.p0 (.p0 .d))))))) hL (by omega) hm)).then fun _ ⟨_,⟨S9,e⟩,e2⟩=>?_
 subst e;subst e2
 exact YM ⟨S9,rfl⟩
end
theorem Gu.one{L:PL}{cs:V_}{ms:List Db}(h:Rws (Gu L) cs ms):∀u∈cs,EL u=true:=by
 induction h with
 |nil=>exact fun u b=>by cases b
 |@cons c cs x xs hc _ ih=>
  obtain⟨e,d,rfl,hl,hd⟩:=hc
  obtain⟨a1,c1,rfl,_⟩:=hl.sh
  obtain⟨a2,c2,rfl,_⟩:=hd.sh
  intro u b
  rcases AC.1 b with b|b
  ·simp only[List.mem_cons,List.not_mem_nil,or_false]at b
   rcases b with rfl|rfl|rfl|rfl|rfl|rfl|rfl|rfl|rfl|rfl|rfl|rfl<;>rfl
  ·exact ih u b
theorem LZ(p:Nat)(S:N_)(L:PL)(c:CA)(b:Nat)(hf:c.Fit b):Sp P0 104 [Cr p] [cm S (Dr p L c)] fun v h=>v= .bool c.leads/\h=[cm S (Dr p L c)]:=
 Sp.ro fun _ ⟨d,ra,ma,da,lc,rc,mc,dc,hb,bb,db,rcs,mcs,dvs,al,e,_⟩=>by
  subst e
  exact((Ls p c _ hb bb db _ _ _ b hf).frame (.p0 .d)).imp fun _ _ v h ⟨_,⟨h1,h2⟩,h3⟩=>by
   subst h1 h2 h3
   exact(YN (.t6 (.t0 (.t0 (.t0 (.t0 (.t0 (.t0 .e)))))))).then fun _ e=>YM ⟨rfl,e⟩

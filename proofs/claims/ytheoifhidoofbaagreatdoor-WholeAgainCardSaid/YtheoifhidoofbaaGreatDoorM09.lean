import Derived.Test.YtheoifhidoofbaaGreatDoorM08
set_option maxRecDepth 100000
set_option maxHeartbeats 2000000
namespace Go.Cru
open Go Go.Proofs
open Go.Proofs.Tryz renaming prog→P0
section
def CU.Step(b:CU)(me at_:Int)(ds:List N_)(j:Nat)(m:CU)(ms:List Db):Prop:=
 CU.doneL me at_ b ds=((CU.doneL me at_ m (ds.drop j)).1,ms++(CU.doneL me at_ m (ds.drop j)).2)/\m.core=b.core/\m.ages=b.ages/\m.told=b.told/\m.tell=b.tell/\m.seen=b.seen
theorem Hs(m:CU)(b:N_):(m.step b).core=m.core/\(m.step b).ages=m.ages/\(m.step b).told=m.told/\(m.step b).tell=m.tell/\(m.step b).seen=m.seen:=by
 unfold CU.step;exact⟨rfl,rfl,rfl,rfl,rfl⟩
theorem nl_dec{p:Prop}[Decidable p]{b:Bool}(h:¬p):(!b)=decide (p∨b=false):=by cases b<;>simp[h]
theorem Ja(m:CU)(ws:List (Int×(Int×Int))):(m.setW ws).core=m.core/\(m.setW ws).ages=m.ages/\(m.setW ws).told=m.told/\(m.setW ws).tell=m.tell/\(m.setW ws).seen=m.seen:=⟨rfl,rfl,rfl,rfl,rfl⟩
theorem MK(m:CU)(me at_:Int)(a:Jd):(m.tells me at_ a).1.core=m.core/\(m.tells me at_ a).1.ages=m.ages/\(m.tells me at_ a).1.told=m.told/\(m.tells me at_ a).1.tell=m.tell/\(m.tells me at_ a).1.seen=m.seen:=by
 unfold CU.tells
 split
 ·exact⟨rfl,rfl,rfl,rfl,rfl⟩
 ·exact Ja m _
theorem CU.Step.next{c m:CU}{me at_:Int}{ds:List N_}{j:Nat}{ms:List Db}(h:c.Step me at_ ds j m ms){d:N_}(hd:ds[j]? =some d):
  c.Step me at_ ds (j+1) ((m.step d).tells me at_ (m.state.apply d).1).1 (ms++((m.step d).tells me at_ (m.state.apply d).1).2):=by
 obtain⟨h1,h2,h3,h4,h5,h6⟩:=h
 have b:ds.drop j=d::ds.drop (j+1):=by
  have hl:=(Ab.1 hd).1
  rw[Ay hl,(Ab.1 hd).2]
 obtain⟨q1,q2,q3,q4,q5⟩:=MK (m.step d) me at_ (m.state.apply d).1
 obtain⟨r1,r2,e,f,g⟩:=Hs m d
 refine⟨?_,q1.trans (r1.trans h2),q2.trans (r2.trans h3),q3.trans (e.trans h4),q4.trans (f.trans h5),q5.trans (g.trans h6)⟩
 rw[h1,b,Ao]
 rfl
theorem CU.Step.zero(b:CU)(me at_:Int)(ds:List N_):b.Step me at_ ds 0 b []:=⟨rfl,rfl,rfl,rfl,rfl,rfl⟩
theorem CU.Step.all{b m:CU}{me at_:Int}{ds:List N_}{ms:List Db}(h:b.Step me at_ ds ds.length m ms):CU.doneL me at_ b ds=(m,ms):=by
 rw[h.1,List.drop_length]
 show(m,ms++[])=_
 rw[AH]
theorem CR.LessOk.set{x x':CR}{b i:Nat}{m m1:CU}(h:x.LessOk b)(hi:x.parts[i]? =some m)(he:m1.core=m.core)(h1:x'.parts=x.parts.set i m1)(h2:x'.c=x.c)(h3:x'.log.turn=x.log.turn):x'.LessOk b:=by
 have hk:x'.keeps=x.keeps:=by
  unfold CR.keeps
  rw[h1,List.map_set,he]
  exact Dc (by rw[Aq,hi];rfl)
 refine⟨by rw[h2];exact h.bugs,fun q hq=>?_,by rw[h1,AQ];exact h.parts,by rw[hk];exact h.save,by rw[h3];exact h.turn⟩
 rw[h1]at hq
 rcases BZ hq with hq|rfl
 ·exact h.core q hq
 ·rw[he];exact h.core m (Aj hi)
theorem TX(m:CU)(ws:List (Int×(Int×Int))):(m.setW ws).wants=ws:=rfl
theorem Xd(m:CU):m.setW m.wants=m:=rfl
theorem FR(m:CU)(b:N_)(ws:List (Int×(Int×Int))):((m.step b).setW ws).state=(m.state.apply b).2:=by simp only[CU.setW,CU.step]
theorem FJ(m:CU)(b:N_)(ws:List (Int×(Int×Int))):((m.step b).setW ws).wants=ws:=TX (m.step b) ws
theorem NP(m:CU)(b:N_)(ws:List (Int×(Int×Int)))(c sp d ab:Nat):ptc ((m.step b).setW ws) c sp d ab=[Cr c,Cr sp,.map (some d),Cs m.seen,Cs (m.done+1),.map (some ab),Cs m.told.txn,.bool m.told.commit,Cs m.told.at_,.bool m.tell]:=by unfold CU.setW CU.step;rfl
theorem ME{m:CU}{b:N_}{me at_:Int}{a:Jd}(h:(alk (m.done+1) m.wants).isSome=true):(m.step b).tells me at_ a=((m.step b).setW (adel (m.done+1) m.wants),[tellM me ((alk (m.done+1) m.wants).getD (0,0)).1 at_ ((alk (m.done+1) m.wants).getD (0,0)).2 a]):=by
 have e1:(m.step b).done=m.done+1:=by unfold CU.step;rfl
 have e2:(m.step b).wants=m.wants:=by unfold CU.step;rfl
 obtain⟨w,hw⟩:=Option.isSome_iff_exists.1 h
 unfold CU.tells
 rw[e1,e2,hw];rfl
theorem NX{m:CU}{b:N_}{me at_:Int}{a:Jd}(h:(alk (m.done+1) m.wants).isSome=false):(m.step b).tells me at_ a=((m.step b).setW m.wants,[]):=by
 have e1:(m.step b).done=m.done+1:=by unfold CU.step;rfl
 have e2:(m.step b).wants=m.wants:=by unfold CU.step;rfl
 have hw:alk (m.done+1) m.wants=none:=by
  cases e:alk (m.done+1) m.wants with
  |none=>rfl
  |some w=>rw[e]at h;cases h
 unfold CU.tells
 rw[e1,e2,hw]
 show(m.step b,_)=_
 rw[<-e2,Xd]
theorem JB(m:CU):m.reset.core=m.core/\m.reset.state=m.state/\m.reset.done=m.done/\m.reset.ages=m.ages/\m.reset.told=m.told/\m.reset.tell=m.tell:=by
 unfold CU.reset;split<;>exact⟨rfl,rfl,rfl,rfl,rfl,rfl⟩
set_option maxHeartbeats 20000000
theorem My{H:A_}{pc:Nat}{ps:N_}(p C:Nat)(S:N_)(L:PL)(x:CR)(i:Nat)(o:Vi)(m:CU)(b N:Nat)(hi:x.parts[i]? =some m)(hx:x.DoOk i o m b N)(ov:Value)(rs:Mem)(ho:QR L o ov rs):Sp P0 51 [Cr p,Cs i,ov] ([cm S (Jn H pc ps true p C L x),pool L]++rs) fun v h=>v= .tuple #[]/\∃L' S',Le L L'/\h=[cm S' (Jn H pc ps true p C L' (x.do_ i m o)),pool L']:=by
 obtain⟨ra,ma,da,rc,mc,dc,e4,mcs,V,rfl,rfl,hr,a5,hd⟩:=ho
 have hil:=(Ab.1 hi).1
 have hout:=hx.out;have hmany:=hx.many
 refine Sq Tryz.func51 fun w0 b_=>?_
 refine Cx (Qaf (.p0 .d)) ?_
 rintro _ ⟨I,X,oa,oc,Z,d,u,t,S3,S4,⟨hL,hp,hm⟩,rfl⟩
 refine OA 2 ?_
 refine O6 YR fun b5=>?_
 refine OA 9 ?_
 refine Tp (.t0 (.t0 (.t0 (.t0 (.t0 (.t0 (.t0 (.t2 (.t2 (.t2 (.t0 (.t0 .e)))))))))))) (Tb (CD (fun((j,L2,u,t,lg,d,y):Nat×PL×N_×N_×EA×Dw×Bool)=>[(0,Cr p),(1,Cs i),(5,Cr b5),(18,.slice ra o.recs.length rc),(19,Cs o.recs.length),(20,Cs j)]) (fun(j,L2,u,t,lg,d,y)=>[pool L2,sq ra o.recs.length rc 119 4 e4,sq ma o.msgs.length mc 138 12 mcs,sq da o.done.length dc 53 1 V,Mg p x I X (.slice H x.parts.length pc) (.slice oa x.out.length oc),sq H x.parts.length pc 101 1 (ps.map DG),sq oa x.out.length oc 138 12 Z,cm S3 (DV X L x.post),cm S4 (DH (Fe L) ps x.parts),blk b5 (.cells [.slice ra o.recs.length rc,.slice ma o.msgs.length mc,.slice da o.done.length dc].toArray 106 (0,0)),cm u (Ey I C L2 lg),cm t (DZ C d)]) (fun(j,L2,u,t,lg,d,y)=>j<=o.recs.length/\Le L L2/\lg=(x.noted i (o.recs.take j)).log/\Fw y lg d/\(j=0->y=true)) (fun(j,_)=>o.recs.length-j) (0,L,u,t,x.log,d,true) ?_ ?_))
 ·exact⟨⟨Af _,.refl _,by simp[CR.noted],hL,fun _=>rfl⟩,Sb6,.refl _⟩
 clear hL d u t
 rintro⟨j,L2,u,t,lg,d,y⟩ ⟨hj,l,W,hL,hy⟩
 conv=>arg 7;dsimp only
 conv=>arg 8;dsimp only
 refine OA 5 ?_
 refine Cy rfl (fun c7=>?_) (fun c7=>?_)
 ·obtain⟨r,a9⟩:∃r,o.recs[j]? =some r:=⟨_,Ae (by omega)⟩
  obtain⟨f2,⟨dv,rfl,hdv⟩,hrc⟩:=hr.at (s:=4) (fun _ _ ⟨_,e,_⟩=>by rw[e];rfl) a9
  obtain⟨rd,e1⟩:=hx.recs r (Aj a9)
  obtain⟨c9,d0,rfl,_,_⟩:=hdv.sh
  refine CM at1 Reads.sq (hrc 0 _ rfl) fun ad a3=>?_
  subst a3
  refine OA 5 ?_
  refine O1 (Jt j u104) ?_
  refine O1 (YW (j:=j*4) u119 Reads.sq hrc rfl) ?_
  refine O6 (YQ Wu) fun b7=>?_
  refine OA 2 ?_
  have hnw:=IH (i:Int) r (by omega)
  have hnl:=IS (i:Int) r (by omega)
  have a6:Eu (Dj (i:Int) r):=by unfold Dj;exact Eu.append hnw.1.byt e1
  have hsn:=Uf (x:=x) (i:=i) a9
  rw[<-W]at hsn
  have b0:({lg with notes:=lg.notes++[Dj (i:Int) r]}:EA).sz<=1048576:=by rw[<-hsn];exact Ul hx.room _
  have e7:lg.notes.length<=1000000:=by
   have:=hx.many
   rw[W];show(x.log.notes++(o.recs.take j).map (Dj i)).length<=_
   simp;omega
  have hturn:=hL.turn
  obtain⟨d2,b8,D⟩:=hL.append (b:=Dj (i:Int) r) (by omega) a6 (by omega) b0
  obtain⟨nb,e0⟩:∃nb,nb=Dj (i:Int) r:=⟨_,rfl⟩
  refine Ts (Cw (.s4 (.t (.s7 (.t .d)))) rfl (fun j=>false) ?_)
  intro b2
  refine DA [0,1,2,3,4,5] ?_
  refine Da 6 ?_
  refine DB rfl rfl (en 102) rfl (.p0 .d) (Lh i r (.slice c9 r.data.length d0) L2 (hdv.le l) (by omega)) ?_
  rintro _ _ ⟨na,nc,rfl,rfl⟩
  refine ys (Da 7 ?_)
  rw[<-e0]at hnl a6 b8 D hsn ⊢
  refine Ew (Zg (.p12 (.p12 .d))) ?_
  rintro _ ⟨J,f,hps,rfl⟩
  refine Ew (Cv.up (B:=Ey I C J lg) s9 (Ey.le f)) ?_
  rintro _ rfl
  refine DB rfl rfl (en 101) rfl (.p9 (.p9 (.p10 .d))) (Xx I C u t J lg d hL.ok (by omega) (by omega) na nc nb ⟨hps,a6⟩ (by omega)) ?_
  rintro _ _ ⟨K,S6,S7,n,rfl,rfl⟩
  refine ys ?_
  rw[b8]
  refine D1 8 rfl FC ?_
  refine OA 4 ?_
  refine O1 (YK (v':=.bool false) (Ct.neq rfl rfl rfl) rfl) ?_
  refine On (Tp (.t12 (.t0 (.t0 (.t0 (.t0 (.t0 (.t0 (.t0 (.t0 (.t0 (.t1 (.t1 .e)))))))))))) (OA 6 ?_))
  exact⟨(j+1,K,S6,S7,{lg with notes:=lg.notes++[nb]},d2,false),⟨⟨by omega,l.trans (f.trans n),hsn.symm,D,by omega⟩,⟨rfl,rfl,rfl,rfl,rfl,Dd rfl (by omega),trivial⟩,.refl _⟩,by simp only;omega⟩
 have hjl:j=o.recs.length:=by omega
 subst hjl
 rw[BJ]at W
 subst W
 have hbug:=hx.less.bugs
 have hturn:=hL.turn
 refine OA 3 ?_
 refine CQ 50 (0<(o.recs.length:Int)) ?_ ?_
 ·refine OA 6 ?_
  refine CJ 42 rfl (fun ht42=>?_) (fun ht42=>?_)
  ·refine OA 5 ?_
   refine O1 (YK (v':=Cs 0) (Za rfl rfl rfl) (by rw[hbug];rfl)) ?_
   refine O1 Rv ?_
   refine OA 2 ?_
   exact Ex
  refine OA 9 ?_
  exact Ex
 refine CP (fun((u,t,d):N_×N_×Dw)=>[(0,Cr p),(1,Cs i),(5,Cr b5)]) (fun(u,t,d)=>[pool L2,sq ma o.msgs.length mc 138 12 mcs,sq da o.done.length dc 53 1 V,Mg p x I X (.slice H x.parts.length pc) (.slice oa x.out.length oc),sq H x.parts.length pc 101 1 (ps.map DG),sq oa x.out.length oc 138 12 Z,cm S3 (DV X L x.post),cm S4 (DH (Fe L) ps x.parts),blk b5 (.cells [.slice ra o.recs.length rc,.slice ma o.msgs.length mc,.slice da o.done.length dc].toArray 106 (0,0)),cm u (Ey I C L2 (x.noted i o.recs).log),cm t (DZ C d)]) (fun(u,t,d)=>Fw true (x.noted i o.recs).log d) ?_ ?_
 ·refine Cy rfl (fun c8=>?_) (fun c8=>?_)
  ·refine Cx (Cv.op (.p10 .d)) ?_
   rintro _ ⟨_,⟨sa,na,sc,nc,e5,rfl,d9,hlns⟩,rfl⟩
   refine OA 6 ?_
   refine Oc rfl (en 103) rfl (.p11 (.p10 .d)) (Vo I C (x.noted i o.recs).log.turn _ _ (by omega) t d hL.ok) ?_
   rintro _ _ ⟨rfl,S6,rfl⟩
   refine OA 7 ?_
   refine CH rfl (fun a1=>absurd rfl a1) fun a1=>?_
   refine Tx (YL (.p11 (.p10 .d)) (A:=Ey I C L2 (x.noted i o.recs).log) ⟨sa,na,sc,nc,e5,rfl,d9,hlns⟩) fun S7=>Tp (.t0 (.t1 (.t1 (.t1 (.t1 (.t1 (.t1 (.t1 (.t1 (.t2 (.t1 .e))))))))))) (Tk ?_)
   exact⟨(S7,S6,(x.noted i o.recs).log.sync d),hL.sync,Sb3,.refl _⟩
  refine Tk ?_
  exact⟨(u,t,d),by cases hy (by omega);exact hL,Sb3,.cons_cons _ (.cons _ (.refl _))⟩
 clear hL d u t
 rintro⟨u,t,d⟩ hL
 replace hL:Fw true (x.noted i o.recs).log d:=hL
 conv=>arg 4;dsimp only
 conv=>arg 5;dsimp only
 refine Ts (Cw (.s3 (.t (.s4 (.t .d)))) rfl (fun j=>Nat.beq j 10) ?_)
 intro b2
 refine DA [0,1,2,3,4,5,6] ?_
 refine Da 7 ?_
 refine D6 rfl (ZH (ao:=oa) YB .sq (hl:=a5.len Gu.len) (h1:=Gu.one a5)) ?_
 rintro _ _ ⟨c,k,rfl,rfl⟩
 refine ys (D2 8 rfl (fun _=>Hl) ?_)
 refine D1 9 rfl (Ct.fld 7 22 22 u93) ?_
 refine Da 10 ?_
 refine D8 rfl YO ?_
 refine D0 ?_
 obtain⟨q,a8⟩:∃q,ps[i]? =some q:=⟨_,Ae (by omega)⟩
 have hg:=FV a8
 refine CO (fun w hw=>hw.sqNN (ao:=H) at4 (by omega)) fun⟨g,hgg⟩=>?_
 subst hgg
 refine OA 7 ?_
 refine O1 (Km i u90) ?_
 refine O1 (YV u101 hg) ?_
 refine OA 2 ?_
 obtain⟨H,hpa⟩:∃H,H=(some ⟨g,0,none⟩:A_):=⟨_,rfl⟩
 rw[<-hpa]
 refine Cx (ZC (.p7 .d) a8 hi) ?_
 rintro _ ⟨S6,S7,rfl⟩
 refine Cx (QaC (.p10 .d)) ?_
 rintro _ ⟨cp,sp,Y,ab,Sc,R,rfl⟩
 refine Tp (.t0 (.t1 (.t1 (.t2 (.t3 (.t10 (.t6 (.t6 (.t7 (.t1 (.t1 (.t1 (.t1 (.t1 (.t1 .e))))))))))))))) (Ti (Cv.up (B:=Dr cp L2 m.core) s8 (Dr.le l)) (OA 7 ?_))
 refine Oc rfl (en 10) rfl (.p8 (.p0 .d)) (FO cp Sc L2 m.core b (hx.less.core m (Aj hi))) ?_
 rintro _ _ ⟨J,Sc,lv,f,hlv,rfl,rfl⟩
 refine O1 (Ct.field (cs:=[Cs m.core.keep.view,Cs m.core.keep.normal,lv]) 0 rfl rfl u42 rfl u3 rfl rfl) ?_
 refine OA 2 ?_
 refine Ti (Cv.up (B:=Ih sp J m.state) s4 (Ih.le (l.trans f))) (Tp (.t14 (.t0 (.t0 (.t0 (.t0 (.t0 (.t0 (.t0 (.t0 (.t0 (.t0 (.t0 (.t0 (.t0 (.t0 .e))))))))))))))) (Ts (CQ 97 (m.core.keep.view≠m.seen∨m.core.leads=false) ?_ ?_)))
 ·refine OA 8 ?_
  refine IQ 90 rfl (fun P=>?_) (fun P=>?_)
  ·refine OA 8 ?_
   first|exact Ex|(refine Zt (And.intro (by (repeat' (first|exact trivial|refine⟨rfl,?_⟩))) (And.intro ?_ rfl));exact CT rfl (congrArg Value.bool (nl_dec (not_not_intro P))))
  refine OA 4 ?_
  refine O8 (Zd rfl (en 104) rfl (.p14 .d) (LZ cp Sc J m.core b (hx.less.core m (Aj hi)))) ?_
  refine OA 3 ?_
  first|exact Ex|(refine Zt (And.intro (by (repeat' (first|exact trivial|refine⟨rfl,?_⟩))) (And.intro ?_ rfl));exact CT rfl (congrArg Value.bool (nl_dec (not_not_intro P))))
 refine Tx (YL (.p8 (.p8 (.p8 (.p8 (.p8 (.p8 (.p8 .d))))))) (A:=(fun rs=>rs=[sq H x.parts.length pc 101 1 (ps.map DG),cm S3 (DV X L x.post),cm u (Ey I C L2 (x.noted i o.recs).log),cm t (DZ C d),cm S7 (DH (Fe L) (ps.eraseIdx i) (x.parts.eraseIdx i)),Dm ab gI m.ages,cm Sc (Dr cp J m.core)])) rfl) fun Sr=>Tp (.t0 (.t0 (.t0 (.t0 (.t0 (.t0 (.t0 (.t1 (.t0 .e))))))))) (CP (fun(Y:Nat)=>[(0,Cr p),(1,Cs i),(5,Cr b5),(10,Cr q)]) (fun Y=>[pool J,sq da o.done.length dc 53 1 V,Mg p x I X (.slice H x.parts.length pc) (.slice c (x.out.length+o.msgs.length) k),sq c (x.out.length+o.msgs.length) k 138 12 (Z++mcs),blk b5 (.cells [.slice ra o.recs.length rc,.slice ma o.msgs.length mc,.slice da o.done.length dc].toArray 106 (0,0)),cm R (Ih sp J m.reset.state),Qy q m.reset cp sp Y ab,cm Sr (fun rs=>rs=[sq H x.parts.length pc 101 1 (ps.map DG),cm S3 (DV X L x.post),cm u (Ey I C L2 (x.noted i o.recs).log),cm t (DZ C d),cm S7 (DH (Fe L) (ps.eraseIdx i) (x.parts.eraseIdx i)),Dm ab gI m.ages,cm Sc (Dr cp J m.core)]),Dm Y gQ m.reset.wants]) (fun _=>True) ?_ ?_)
 ·refine Cy rfl (fun Q=>?_) (fun Q=>?_)
  ·have b1:m.reset= {m with wants:=[],seen:=m.core.keep.view}:=Ah Q
   refine OA 3 ?_
   refine O6 (YS gQ) fun b6=>?_
   refine OA 8 ?_
   exact⟨b6,trivial,Sb4,by rw[b1];exact .cons_cons _ (.cons_cons _ (.cons_cons _ (.cons_cons _ (.cons_cons _ (.cons_cons _ (.cons_cons _ (.cons_cons _ (.cons _ (.refl _)))))))))⟩
  have b1:m.reset=m:=Aa Q
  refine Tk ?_
  exact⟨Y,trivial,Sb4,by rw[b1];exact .refl _⟩
 clear Y
 rintro Y -
 conv=>arg 4;dsimp only
 conv=>arg 5;dsimp only
 obtain⟨k1,k2,k3,k4,k5,k6⟩:=JB m
 have d1:KN m.reset.wants:=by
  unfold CU.reset;split
  ·trivial
  ·exact hx.wants
 have hdn:=hx.dn
 refine OA 9 ?_
 refine CD (fun((j,K,m1,ms,G,c,k,R):Nat×PL×CU×List Db×V_×A_×Nat×N_)=>[(0,Cr p),(1,Cs i),(10,Cr q),(107,.slice da o.done.length dc),(108,Cs o.done.length),(109,Cs j)]) (fun(j,K,m1,ms,G,c,k,R)=>[pool K,sq da o.done.length dc 53 1 V,Mg p x I X (.slice H x.parts.length pc) (.slice c (x.out.length+o.msgs.length+ms.length) k),sq c (x.out.length+o.msgs.length+ms.length) k 138 12 G,cm R (Ih sp K m1.state),Qy q m1 cp sp Y ab,cm Sr (fun rs=>rs=[sq H x.parts.length pc 101 1 (ps.map DG),cm S3 (DV X L x.post),cm u (Ey I C L2 (x.noted i o.recs).log),cm t (DZ C d),cm S7 (DH (Fe L) (ps.eraseIdx i) (x.parts.eraseIdx i)),Dm ab gI m.ages,cm Sc (Dr cp J m.core)]),Dm Y gQ m1.wants]) (fun(j,K,m1,ms,G,c,k,R)=>j<=o.done.length/\Le J K/\m.reset.Step x.me i o.done j m1 ms/\m1.state.RunA N j/\m1.done=m.done+j/\KN m1.wants/\Rws (Gu K) G (x.out++o.msgs++ms)/\ms.length<=j) (fun(j,_)=>o.done.length-j) (0,J,m.reset,[],Z++mcs,c,k,R) ?_ ?_
 ·exact⟨⟨Af _,.refl _,.zero _ _ _ _,by rw[k2];exact hx.st.a,by rw[k3];omega,d1,by rw[AH];exact(hm.mono fun _ _ h=>h.le (l.trans f)).append (a5.mono fun _ _ h=>h.le (l.trans f)),Af _⟩,Sb6,.cons_cons _ (.cons_cons _ (.cons_cons _ (.cons_cons _ (.cons _ (.refl _)))))⟩
 clear c k R
 rintro⟨j,K,m1,ms,G,c,k,R⟩ ⟨hj,n,hst,hrun,f0,O,a7,a0⟩
 conv=>arg 7;dsimp only
 conv=>arg 8;dsimp only
 refine OA 5 ?_
 refine Cy rfl (fun E=>?_) (fun E=>?_)
 ·obtain⟨M,d4,d5⟩:=hrun.fit hx.stN E
  have f1:0<=m1.done/\m1.done<=2000000000000:=by omega
  obtain⟨db,a4⟩:∃r,o.done[j]? =some r:=⟨_,Ae (by omega)⟩
  obtain⟨ba,bc,b9,d7,_⟩:=hd.at a4
  have hbl:=hx.done db (Aj a4)
  have hbB4:=d7.le (l.trans (f.trans n))
  refine CM at1 Reads.sq b9 fun ad a3=>?_
  subst a3
  refine OA 5 ?_
  refine O1 (GO (j) u40) ?_
  refine O1 (Ct.reads (j:=j) rfl rfl at1 Reads.sq u53 rfl b9) ?_
  refine OA 20 ?_
  refine Oc rfl (en 105) rfl (.p4 (.p0 .d)) (Um sp R K m1.state M d4 d5 ba bc db hbB4 hbl (Rk db)) ?_
  rintro _ _ ⟨L5,S8,vv,D,rfl,b4,rfl⟩
  have hrun2:=hrun.next hx.stN E hbB4.2 hbl
  have hav:=NO m1.state hbB4.2 hbl
  have hnx:=hst.next a4
  obtain⟨an,d6⟩:∃a,a=(m1.state.apply db).1:=⟨_,rfl⟩
  rw[<-d6]at b4 hav hnx ⊢
  obtain⟨va,vc,rfl,_,_⟩:=b4.sh
  refine O6 (YQ Ib) fun e8=>?_
  refine OA 3 ?_
  refine CS rfl (fun j=>Nat.beq j 13 || Nat.beq j 14) ?_
  refine DA [0,1,2,3,4,5,6,7] ?_
  refine D1 8 rfl (YK (v':=.tuple [gQ ((alk (m1.done+1) m1.wants).getD (0,0)),.bool (alk (m1.done+1) m1.wants).isSome].toArray) (Qan (g:=gQ) (z:=gQ (0,0)) (m1.done+1) u95 u3 (hz:=zr196)) (by cases alk (m1.done+1) m1.wants<;>rfl)) ?_
  refine DA [9,10] ?_
  refine D2 11 rfl (fun _=>Yo) ?_
  refine Da 12 ?_
  refine D6 rfl (YQ zr196) ?_
  rintro _ _ ⟨e9,rfl,rfl⟩
  refine ys (Da 13 ?_)
  refine D8 rfl YO ?_
  refine D2 14 rfl (fun _=>FC) ?_
  refine OA 5 ?_
  refine CE rfl (fun F=>?_) (fun F=>?_)
  ·rw[ME F]at hnx
   refine Ts (Cw (.s (.t (.s6 (.t (.t .d))))) rfl (fun j=>Nat.beq j 21) ?_)
   intro b2
   refine DA [0,1,2,3,4,5,6,7,8,9,10,11,12,13,14] ?_
   refine Da 15 ?_
   refine DB rfl rfl (en 106) rfl (.p7 .d) (ST L5 _ an ⟨_,rfl,b4⟩ hav) ?_
   rintro _ _ ⟨T,U,rfl,rfl⟩
   refine ys (Dp (Zg (.p9 (.p9 .d))) ?_)
   rintro _ ⟨L6,a2,c6,rfl⟩
   refine D1 16 rfl (Xb bt138.h) ?_
   refine Da 17 ?_
   refine D6 rfl (YY u73) ?_
   rintro _ _ ⟨e6,rfl,rfl⟩
   refine ys (Da 18 ?_)
   refine D6 rfl (LO.app (ao:=c) YB) ?_
   rintro _ _ ⟨e2,e3,rfl,rfl⟩
   refine ys (D2 19 rfl (fun _=>Hl) ?_)
   refine D1 20 rfl (Ct.fld 7 22 22 u93) ?_
   refine Da 21 ?_
   refine D8 rfl YO ?_
   refine D0 (Cw (.s3 (.t .d)) rfl (fun j=>false) ?_)
   intro b2
   refine DA [0,1,2,3,4,5,6,7] ?_
   refine Da 8 ?_
   refine D7 rfl (LO.delA (g:=gQ) (m1.done+1) O u95 u3) ?_
   rintro _ _ ⟨rfl,rfl⟩
   refine ys (D0 (Ti (Cv.up (B:=Ih sp L6 (m1.state.apply db).2) s6 (Ih.le a2)) (Tp (.t9 (.t0 (.t0 (.t0 (.t3 (.t0 (.t0 (.t0 .e)))))))) (OA 4 ?_))))
   obtain⟨tm,b3⟩:∃tm,tm=tellM x.me ((alk (m1.done+1) m1.wants).getD (0,0)).1 i ((alk (m1.done+1) m1.wants).getD (0,0)).2 an:=⟨_,rfl⟩
   rw[<-b3]at hnx
   have hrow:Gu L6 (GL tm (.slice none 0 0) (.slice T an.wr.b.length U)) tm:=by rw[b3];exact⟨_,_,rfl,EI.nil _,c6,(Jd.wr_ok an hav).1.byt⟩
   have c0:GL tm (.slice none 0 0) (.slice T an.wr.b.length U)=[Cs 7,Cs x.me,Cs ((alk (m1.done+1) m1.wants).getD (0,0)).1,Cs i,Cs 0,Cs 0,Cs 0,Cs 0,Cs ((alk (m1.done+1) m1.wants).getD (0,0)).2,Cs 0,.slice none 0 0,.slice T an.wr.b.length U]:=by rw[b3];rfl
   have hlen:x.out.length+o.msgs.length+(ms++[tm]).length=x.out.length+o.msgs.length+ms.length+1:=by rw[Ac];show _+(_+1)=_;omega
   exact⟨(j+1,L6,(m1.step db).setW (adel (m1.done+1) m1.wants),ms++[tm],G++GL tm (.slice none 0 0) (.slice T an.wr.b.length U),e2,e3,S8),⟨⟨by omega,n.trans (D.trans a2),hnx,by rw[FR];exact hrun2,by show m1.done+1=_;omega,by rw[FJ];exact O.adel,by rw[<-Ao];exact(a7.mono fun _ _ h=>h.le (D.trans a2)).snoc hrow,by rw[Ac];exact Ci a0⟩,⟨rfl,rfl,rfl,rfl,rfl,Dd rfl (by omega),trivial⟩,by dsimp only;rw[hlen,c0,FR,FJ];unfold Qy;rw[NP];exact .refl _⟩,by simp only;omega⟩
  rw[NX F,AH]at hnx
  refine Tk (Tp (.t7 (.t0 (.t0 (.t0 (.t3 (.t0 (.t0 (.t0 .e)))))))) (OA 4 ?_))
  exact⟨(j+1,L5,(m1.step db).setW m1.wants,ms,G,c,k,S8),⟨⟨by omega,n.trans D,hnx,by rw[FR];exact hrun2,by show m1.done+1=_;omega,by rw[FJ];exact O,a7.mono fun _ _ h=>h.le D,AY a0⟩,⟨rfl,rfl,rfl,rfl,rfl,Dd rfl (by omega),trivial⟩,by dsimp only;rw[FR,FJ];unfold Qy;rw[NP];exact .refl _⟩,by simp only;omega⟩
 have d8:j=o.done.length:=by omega
 subst d8
 have hall:=hst.all
 obtain⟨_,c1,c2,c3,c4,c5⟩:=hst
 have ea:m.ages=m1.ages:=(c2.trans k4).symm
 have ec:m.core=m1.core:=(c1.trans k1).symm
 have hdo:x.do_ i m o=CR.less ((((x.noted i o.recs).says o.msgs).says ms).setP i m1):=by
  show CR.less ((((x.noted i o.recs).says o.msgs).says (m.reset.doneL x.me i o.done).2).setP i (m.reset.doneL x.me i o.done).1)=_
  rw[hall]
 refine Cx (Cv.op (.p6 .d)) ?_
 rintro _ ⟨_,rfl,rfl⟩
 rw[hdo,ea,ec]
 refine Tx (Qal (x:=x) (x':=(((x.noted i o.recs).says o.msgs).says ms).setP i m1) (y:=true) (L:=K) (.p2 (.p6 (.p2 (.p6 (.p6 (.p5 (.p5 (.p3 (.p3 (.p3 (.p3 (.p2 .d)))))))))))) hL hp a7 a8 rfl rfl (by show _=((x.out++o.msgs)++ms).length;simp only[List.length_append]) (f.trans n) (l.trans (f.trans n)) (l.trans (f.trans n)) n (.refl _)) fun S9=>OA 3 ?_
 refine Oc rfl (en 107) rfl (.p2 (.p0 .d)) (RG p C S9 K _ b (hx.less.set hi ec.symm rfl rfl rfl)) ?_
 rintro _ _ ⟨rfl,L7,S10,d3,rfl⟩
 refine On (Dk rfl ?_)
 exact(YN (.t1 (.t1 .e))).then fun _ e=>YM ⟨rfl,L7,S10,l.trans (f.trans (n.trans d3)),e⟩
end
def Je(e:N_):Prop:=e.length<=40/\Eu e
theorem Je.nil:Je []:=⟨Af _,fun _ h=>by cases h⟩
structure Db.Sm(t:Nat)(m:Db):Prop where
 len:m.list.length<=t
 at_:m.kind=1->m.at_+m.list.length<=t
 ent:∀e∈m.list,Je e
 byt:Eu m.data
 ask:m.kind=6->m.data.length<=40
def HY.Sm(r:HY):Prop:=KP r.kind/\KP r.a/\KP r.b/\Je r.data
structure CA.Inv(c a:CA)(t n:Nat)(y:Bool):Prop where
 len:c.keep.log.length<=t
 ent:∀e∈c.keep.log,Je e
 dos:∀k m,alk k c.dos=some m->m.list.length<=t/\∀e∈m.list,Je e
 vw:0<=c.keep.normal/\c.keep.normal<=c.keep.view/\c.keep.view<=1099511627776
 cm:c.commit<=t
 idl:c.idle<=a.idle+1
 ai:0<=a.idle
 nr:c.out.recs.length<=n
 recs:∀r∈c.out.recs,r.Sm
 msgs:∀m∈c.out.msgs,m.Sm t
 done:∀e∈c.out.done,Je e
 layl:(c.out.recs.foldl DW.lay a.keep).log=c.keep.log
 lay:y=true->c.out.recs.foldl DW.lay a.keep=c.keep
 dn:c.commit=a.commit+c.out.done.length
 same:c.me=a.me/\c.n=a.n/\c.shard=a.shard/\c.patience=a.patience
section
variable {a c:CA}{t n:Nat}{y:Bool}
theorem CA.Inv.le(h:c.Inv a t n y){t' b:Nat}(ht:t<=t')(hn:n<=b):c.Inv a t' b y:=by
 have h1:=h.len;have h2:=h.cm;have h3:=h.idl
 exact⟨by omega,h.ent,fun k m hk=>⟨AA (h.dos k m hk).1 ht,(h.dos k m hk).2⟩,h.vw,by omega,h3,h.ai,AA h.nr hn,h.recs,fun m hm=>⟨AA (h.msgs m hm).len ht,fun e=>by have:=(h.msgs m hm).at_ e;omega,(h.msgs m hm).ent,(h.msgs m hm).byt,(h.msgs m hm).ask⟩,h.done,h.layl,h.lay,h.dn,h.same⟩
theorem GD(k:DW)(rs:List HY)(r:HY):(rs++[r]).foldl DW.lay k=(rs.foldl DW.lay k).lay r:=by rw[BP];rfl
theorem Fy{α:Type}{P:α->Prop}{l:List α}{x:α}(h:∀y∈l,P y)(hx:P x):∀y∈l++[x],P y:=fun y hy=>(AC.1 hy).elim (h y) fun q=>by rw[Ap.1 q];exact hx
theorem n21:¬(2:Int)=1:=by decide
theorem n31:¬(3:Int)=1:=by decide
theorem n32:¬(3:Int)=2:=by decide
theorem iz0:KP 0:=⟨by decide,by decide⟩
theorem iz1:KP 1:=⟨by decide,by decide⟩
theorem iz2:KP 2:=⟨by decide,by decide⟩
theorem iz3:KP 3:=⟨by decide,by decide⟩
theorem NW{x:Int}(h0:0<=x)(h1:x<=1099511627776):KP x:=⟨by omega,by omega⟩
theorem CA.Inv.putM(h:c.Inv a t n y){v w:Int}(h0:0<=w)(h1:w<=v)(h2:v<=1099511627776):(c.put ⟨1,v,w,[]⟩).Inv a t (n+1) true:=by
 have e:∀k:DW,k.lay ⟨1,v,w,[]⟩=⟨v,w,k.log⟩:=fun k=>by unfold DW.lay;rw[Ah rfl]
 have b:(c.put ⟨1,v,w,[]⟩).keep=⟨v,w,c.keep.log⟩:=e c.keep
 have d:(c.put ⟨1,v,w,[]⟩).out.recs=c.out.recs++[⟨1,v,w,[]⟩]:=rfl
 have key:(c.put ⟨1,v,w,[]⟩).out.recs.foldl DW.lay a.keep=(c.put ⟨1,v,w,[]⟩).keep:=by rw[d,GD,b,e,h.layl]
 refine⟨by rw[b];exact h.len,by rw[b];exact h.ent,h.dos,by rw[b];exact⟨h0,h1,h2⟩,h.cm,h.idl,h.ai,by rw[d,Ac];have:=h.nr;simp;omega,by rw[d];exact Fy h.recs ⟨iz1,NW (Int.le_trans h0 h1) h2,NW h0 (Int.le_trans h1 h2),Je.nil⟩,h.msgs,h.done,by rw[key],fun _=>key,h.dn,h.same⟩
theorem CA.Inv.putP(h:c.Inv a t n y){x:N_}(hl:c.keep.log.length+1<=t)(hx:Je x):(c.put ⟨2,0,0,x⟩).Inv a t (n+1) y:=by
 have e:∀k:DW,k.lay ⟨2,0,0,x⟩=⟨k.view,k.normal,k.log++[x]⟩:=fun k=>by unfold DW.lay;rw[Aa n21,Ah rfl]
 have b:(c.put ⟨2,0,0,x⟩).keep=⟨c.keep.view,c.keep.normal,c.keep.log++[x]⟩:=e c.keep
 have d:(c.put ⟨2,0,0,x⟩).out.recs=c.out.recs++[⟨2,0,0,x⟩]:=rfl
 refine⟨by rw[b];simp;omega,by rw[b];exact Fy h.ent hx,h.dos,by rw[b];exact h.vw,h.cm,h.idl,h.ai,by rw[d,Ac];have:=h.nr;simp;omega,by rw[d];exact Fy h.recs ⟨iz2,iz0,iz0,hx⟩,h.msgs,h.done,by rw[d,GD,b,e,h.layl],fun q=>by rw[d,GD,b,e,h.lay q],h.dn,h.same⟩
theorem CA.Inv.putB(h:c.Inv a t n y){s:Nat}(hs:s<=t)(ht:t<=1000000):(c.put ⟨3,(s:Int),0,[]⟩).Inv a t (n+1) y:=by
 have e:∀k:DW,k.lay ⟨3,(s:Int),0,[]⟩=⟨k.view,k.normal,k.log.take (min (max (s:Int) 0) k.log.length).toNat⟩:=fun k=>by unfold DW.lay;rw[Aa n31,Aa n32,Ah rfl]
 have b:(c.put ⟨3,(s:Int),0,[]⟩).keep=⟨c.keep.view,c.keep.normal,c.keep.log.take (min (max (s:Int) 0) c.keep.log.length).toNat⟩:=e c.keep
 have d:(c.put ⟨3,(s:Int),0,[]⟩).out.recs=c.out.recs++[⟨3,(s:Int),0,[]⟩]:=rfl
 have hl:=h.len
 refine⟨by rw[b];exact AA (List.length_take_le' ..) hl,by rw[b];exact fun e he=>h.ent e (Bx he),h.dos,by rw[b];exact h.vw,h.cm,h.idl,h.ai,by rw[d,Ac];have:=h.nr;simp;omega,by rw[d];exact Fy h.recs ⟨iz3,NW (by show(0:Int)<=s;omega) (by show(s:Int)<=_;omega),iz0,Je.nil⟩,h.msgs,h.done,by rw[d,GD,b,e,h.layl],fun q=>by rw[d,GD,b,e,h.lay q],h.dn,h.same⟩
theorem CA.Inv.send(h:c.Inv a t n y){m:Db}(hm:m.Sm t):(c.send m).Inv a t n y:=
 ⟨h.len,h.ent,h.dos,h.vw,h.cm,h.idl,h.ai,h.nr,h.recs,Fy h.msgs ⟨hm.len,hm.at_,hm.ent,hm.byt,hm.ask⟩,h.done,h.layl,h.lay,h.dn,h.same⟩
theorem RA{m:Db}(hm:m.Sm t):∀(k:Nat) (to:Int) {c:CA},c.Inv a t n y->(CA.allL m k to c).Inv a t n y
 |0,_,_,h=>h
 |k+1,to,c,h=>by
  unfold CA.allL
  split
  ·refine RA hm k (to+1) ?_
   split
   ·exact h
   ·exact h.send ⟨hm.len,hm.at_,hm.ent,hm.byt,hm.ask⟩
  ·exact h
theorem CA.Inv.all(h:c.Inv a t n y){m:Db}(hm:m.Sm t):(c.all m).Inv a t n y:=RA hm 8 1 h
theorem Mc:∀(k:Nat) {c:CA},c.Inv a t n y->c.commit+k<=t->(Zv k c).Inv a t n y
 |0,_,h,_=>h
 |k+1,c,h,hk=>by
  unfold Zv
  refine Mc k ?_ (by show c.commit+1+k<=t;omega)
  refine⟨h.len,h.ent,h.dos,h.vw,by show c.commit+1<=t;omega,h.idl,h.ai,h.nr,h.recs,h.msgs,Fy h.done ?_,h.layl,h.lay,?_,h.same⟩
  ·rw[AB]
   cases e:c.keep.log[c.commit.toNat]? with
   |none=>exact Je.nil
   |some x=>exact h.ent x (Aj e)
  ·have:=h.dn
   show c.commit+1=a.commit+((c.out.done++[_]).length:Int)
   rw[Ac];simp;omega
theorem CA.Inv.reach(h:c.Inv a t n y)(k:Int):(c.reach k).Inv a t n y:=by
 unfold CA.reach
 have h1:=h.cm;have h2:=h.len
 exact Mc _ h (by omega)
theorem CA.Inv.count(h:c.Inv a t n y):c.count.Inv a t n y:=by
 unfold CA.count;split
 ·exact h.reach _
 ·exact h
theorem Rl:∀(bs:List N_) {c:CA} {n:Nat},c.Inv a t n y->(∀x∈bs,Je x)->c.keep.log.length+bs.length<=t->(c.puts bs).Inv a t (n+bs.length) y
 |[],_,_,h,_,_=>h
 |x::bs,c,n,h,hx,hl=>by
  simp only[List.length_cons]at hl
  have:=Rl bs (h.putP (by omega) (hx x Ar)) (fun q hq=>hx q (Aw _ hq)) (by
   have e:(c.put ⟨2,0,0,x⟩).keep.log=c.keep.log++[x]:=by show(c.keep.lay _).log=_;unfold DW.lay;rw[Aa n21,Ah rfl]
   rw[e];simp;omega)
  exact this.le (Al _) (by simp;omega)
theorem CA.Inv.begun(h:c.Inv a t n y):c.begun_.Inv a t (n+1) true:=by
 have h0:=h.vw
 have h1:=h.putM (v:=c.keep.view) (w:=c.keep.view) (by omega) (AK _) (by omega)
 exact⟨h1.len,h1.ent,(fun _ _ q=>by cases q),h1.vw,h1.cm,(by have:=h1.ai;show(0:Int)<=a.idle+1;omega),h1.ai,h1.nr,h1.recs,h1.msgs,h1.done,h1.layl,h1.lay,h1.dn,h1.same⟩
theorem CA.Inv.adopt(h:c.Inv a t n y){log:List N_}(hl:log.length<=t)(hx:∀x∈log,Je x)(ht:t<=1000000):(c.adopt log).Inv a t (n+t+2) true:=by
 unfold CA.adopt CA.adopt2
 have hs:=IF log c.keep.log
 have h1:(c.adopt1 log).Inv a t (n+1) y:=by
  unfold CA.adopt1;split
  ·exact h.putB (by omega) ht
  ·exact h.le (Al _) (AL _)
 have h2:=Rl (log.drop (Ff log c.keep.log)) h1 (fun x q=>hx x (Bw q)) (by rw[Jo,AD];omega)
 exact h2.begun.le (Al _) (by rw[AD];omega)
theorem PB{c:CA}(h:∀k m,alk k c.dos=some m->m.list.length<=t/\∀e∈m.list,Je e):∀(k:Nat) (f:Int) (x:Db×Int),(x.1.list.length<=t/\∀e∈x.1.list,Je e)->((c.bestL k f x).1.list.length<=t/\∀e∈(c.bestL k f x).1.list,Je e)
 |0,_,_,hx=>hx
 |k+1,f,x,hx=>by
  unfold CA.bestL
  split
  ·refine PB h k (f+1) _ ?_
   split
   ·exact hx
   ·rename_i m hm
    show _/\_
    dsimp only
    split
    ·exact h _ _ hm
    ·exact hx
  ·exact hx
theorem Qw(k:Int){to at_ commit normal:Int}(hk:k≠1):({CY k with to:=to,at_:=at_,commit:=commit,normal:=normal}:Db).Sm t:=
 ⟨Af _,fun e=>absurd e hk,(fun _ q=>by cases q),(fun _ q=>by cases q),fun _=>Af _⟩
theorem PX(k:Int){to commit normal:Int}{l:List N_}(hk:k≠1)(hl:l.length<=t)(he:∀e∈l,Je e):({CY k with to:=to,normal:=normal,commit:=commit,list:=l}:Db).Sm t:=
 ⟨hl,fun e=>absurd e hk,he,(fun _ q=>by cases q),fun _=>Af _⟩
theorem CA.Inv.begin_(h:c.Inv a t n y)(hy:y=true)(ht:t<=1000000):c.begin_.Inv a t (n+t+2) true:=by
 unfold CA.begin_;split
 ·unfold CA.begin2
  obtain⟨h1,h2⟩:=PB h.dos 8 1 ({CY 0 with normal:= -1},0) ⟨Af _,fun _ q=>by cases q⟩
  have h3:=h.adopt (log:=c.best.1.list) h1 h2 ht
  exact((h3.all (PX 5 (by decide) h3.len h3.ent)).reach _).count
 ·subst hy;exact h.le (Al _) (by omega)
theorem CA.Inv.setDos(h:c.Inv a t n y){k:Int}{m:Db}(h1:m.list.length<=t)(h2:∀e∈m.list,Je e):CA.Inv {c with dos:=aset k m c.dos} a t n y:=
 ⟨h.len,h.ent,fun j x hx=>by
  have hx:alk j (aset k m c.dos)=some x:=hx
  rw[DE]at hx
  split at hx
  ·cases hx;exact⟨h1,h2⟩
  ·exact h.dos j x hx,h.vw,h.cm,h.idl,h.ai,h.nr,h.recs,h.msgs,h.done,h.layl,h.lay,h.dn,h.same⟩
theorem CA.Inv.wanted(h:c.Inv a t n y)(hy:y=true)(ht:t<=1000000):c.wanted.Inv a t (n+t+2) true:=by
 unfold CA.wanted;split
 ·split
  ·exact(h.setDos (m:=c.doM) h.len h.ent).begin_ hy ht
  ·subst hy;exact(h.send (m:=c.doM) (PX 4 (by decide) h.len h.ent)).le (Al _) (by omega)
 ·subst hy;exact h.le (Al _) (by omega)
theorem CA.Inv.change(h:c.Inv a t n y){v:Int}(h1:c.keep.view<=v)(h2:v<=1099511627776)(ht:t<=1000000):(c.change v).Inv a t (n+t+3) true:=by
 have h0:=h.vw
 have h3:=h.putM (v:=v) (w:=c.keep.normal) h0.1 (by omega) h2
 have h4:(c.put ⟨1,v,c.keep.normal,[]⟩).changed.Inv a t (n+1) true:=⟨h3.len,h3.ent,(fun _ _ q=>by cases q),h3.vw,h3.cm,(by have:=h3.ai;show(0:Int)<=a.idle+1;omega),h3.ai,h3.nr,h3.recs,h3.msgs,h3.done,h3.layl,h3.lay,h3.dn,h3.same⟩
 exact((h4.all (m:=CY 3) ⟨Af _,(fun e=>by cases e),(fun _ q=>by cases q),(fun _ q=>by cases q),fun _=>Af _⟩).wanted rfl ht).le (Al _) (by omega)
theorem CA.Inv.started(h:c.Inv a t n y)(hy:y=true)(ht:t<=1000000)(m:Db):(c.started m).Inv a t (n+t+2) true:=by
 have h':c.Inv a t (n+t+2) true:=by subst hy;exact h.le (Al _) (by omega)
 unfold CA.started;split
 ·exact h'
 ·split
  ·split
   ·exact h'
   ·exact CA.Inv.wanted (c:={c with begun:=aset m.from_ true c.begun}) ⟨h.len,h.ent,h.dos,h.vw,h.cm,h.idl,h.ai,h.nr,h.recs,h.msgs,h.done,h.layl,h.lay,h.dn,h.same⟩ hy ht
  ·split
   ·exact h'.send (PX 5 (by decide) h.len h.ent)
   ·exact h'
theorem Ow{at_:Int}:∀(xs:List N_) (i:Nat) {c:CA} {n:Nat},c.Inv a t n y->(∀x∈xs,Je x)->at_+i+xs.length<=t->(ZD at_ i xs c).Inv a t (n+xs.length) y
 |[],_,_,_,h,_,_=>h
 |x::xs,i,c,n,h,hx,hl=>by
  simp only[List.length_cons]at hl
  unfold ZD
  have h1:(if(c.keep.log.length:Int)<=at_+i/\c.keep.log.length<2000 then c.put ⟨2,0,0,x⟩else c).Inv a t (n+1) y:=by
   split
   ·exact h.putP (by omega) (hx x Ar)
   ·exact h.le (Al _) (AL _)
  exact(Ow xs (i+1) h1 (fun q hq=>hx q (Aw _ hq)) (by omega)).le (Al _) (by simp;omega)
theorem CA.Inv.prep(h:c.Inv a t n y)(hy:y=true){m:Db}(hm:m.Sm t)(hk:m.kind=1):(c.prep m).Inv a t (n+t) true:=by
 have h0:CA.Inv {c with idle:=0} a t n y:=⟨h.len,h.ent,h.dos,h.vw,h.cm,(by have:=h.ai;show(0:Int)<=a.idle+1;omega),h.ai,h.nr,h.recs,h.msgs,h.done,h.layl,h.lay,h.dn,h.same⟩
 have h1:(c.prep1 m).Inv a t (n+t) true:=by
  subst hy
  unfold CA.prep1;split
  ·exact((Ow m.list 0 h0 hm.ent (by have:=hm.at_ hk;omega)).le (Al _) (by have:=hm.len;omega)).reach _
  ·exact h0.le (Al _) (by omega)
 unfold CA.prep
 exact h1.send (Qw 2 (by decide))
theorem CA.Inv.feed(h:c.Inv a t n y)(to:Int):(c.feed to).Inv a t n y:=by
 unfold CA.feed
 have h1:=h.len
 have h2:c.feedA to<=c.keep.log.length:=by unfold CA.feedA;omega
 have h3:((c.keep.log.take (min (c.feedA to+8) c.keep.log.length).toNat).drop (c.feedA to).toNat).length<=c.keep.log.length/\c.feedA to+((c.keep.log.take (min (c.feedA to+8) c.keep.log.length).toNat).drop (c.feedA to).toNat).length<=c.keep.log.length:=by
  rw[AD,AF];omega
 exact h.send ⟨by show _<=t;exact AA h3.1 h1,fun _=>Int.le_trans h3.2 (Int.ofNat_le.2 h1),fun e he=>h.ent e (Bx (Bw he)),(fun _ q=>by cases q),fun _=>Af _⟩
theorem Lo:∀(k:Nat) (to:Int) {c:CA},c.Inv a t n y->(Zz k to c).Inv a t n y
 |0,_,_,h=>h
 |k+1,to,c,h=>by
  unfold Zz
  split
  ·refine Lo k (to+1) ?_
   split
   ·exact h
   ·exact h.feed to
  ·exact h
structure CA.St(c:CA)(t:Nat):Prop where
 inv:c.Inv c t 0 true
 fit:c.Fit 0
structure CA.Act(c:CA)(t n:Nat)(o:Vi)(d:CA):Prop where
 nr:o.recs.length<=n
 nm:o.msgs.length<=7000000
 recs:∀r∈o.recs,r.Sm
 msgs:∀m∈o.msgs,m.Sm t
 done:∀e∈o.done,Je e
 lay:o.recs.foldl DW.lay c.keep=d.keep
 dn:d.commit=c.commit+o.done.length
 idl:d.idle<=c.idle+1
 same:d.me=c.me/\d.n=c.n/\d.shard=c.shard/\d.patience=c.patience
 st:d.St t
theorem CA.Inv.act(h:c.Inv a t n true){b:Nat}(hf:c.Fit b)(hb:b<=7000000):a.Act t n c.take.1 c.take.2:=
 ⟨h.nr,AA hf.msgs hb,h.recs,h.msgs,h.done,h.lay rfl,h.dn,h.idl,h.same,⟨⟨h.len,h.ent,h.dos,h.vw,h.cm,(by show c.idle<=c.idle+1;omega),hf.idle.1,Af _,(fun _ q=>by cases q),(fun _ q=>by cases q),(fun _ q=>by cases q),rfl,(fun _=>rfl),(by show c.commit=c.commit+((0:Nat):Int);omega),rfl,rfl,rfl,rfl⟩,
  ⟨hf.me,hf.n,hf.shard,hf.patience,hf.view,hf.normal,hf.log,hf.entry,hf.commit,hf.idle,⟨hf.maps.1,hf.maps.2,hf.maps.3,hf.maps.4,hf.maps.5,hf.maps.6,hf.maps.7⟩,Af _,Af _,Af _⟩⟩⟩
theorem CA.St.nop(h:c.St t)(n:Nat):c.Act t n YI c:=
 ⟨Af _,Af _,(fun _ q=>by cases q),(fun _ q=>by cases q),(fun _ q=>by cases q),rfl,(by show c.commit=c.commit+((0:Nat):Int);omega),(by omega),⟨rfl,rfl,rfl,rfl⟩,h⟩
theorem CA.Act.le'{c d:CA}{o:Vi}(h:c.Act t n o d){b:Nat}(hn:n<=b):c.Act t b o d:=⟨AA h.nr hn,h.nm,h.recs,h.msgs,h.done,h.lay,h.dn,h.idl,h.same,h.st⟩
theorem Po:∀(bs:List N_) (c:CA),(c.puts bs).keep.view=c.keep.view
 |[],_=>rfl
 |x::bs,c=>by
  show((c.put ⟨2,0,0,x⟩).puts bs).keep.view=_
  rw[Po bs];show(c.keep.lay _).view=_;unfold DW.lay;rw[Aa n21,Ah rfl]
theorem SH(c:CA)(log:List N_):(c.adopt2 log).keep.view=c.keep.view:=by
 unfold CA.adopt2
 rw[Po]
 unfold CA.adopt1;split
 ·show(c.keep.lay _).view=_;unfold DW.lay;rw[Aa n31,Aa n32,Ah rfl]
 ·rfl
theorem CA.St.le(h:c.St t){t':Nat}(ht:t<=t'):c.St t':=⟨h.inv.le ht (Al _),h.fit⟩
end
section
variable {a c:CA}{t n:Nat}{y:Bool}{m:Db}
theorem Su{b:Nat}(h:c.Fit b)(h1:1<=m.from_)(h7:m.from_<=7):(c.started m).Fit (b+3145800):=by
 unfold CA.started;split
 ·exact h.le (BF _ _)
 ·split
  ·split
   ·exact h.le (BF _ _)
   ·exact JH (Gl h h1 h7)
  ·split
   ·exact(send_fit h _).le (by omega)
   ·exact h.le (BF _ _)
theorem prep_fit{b:Nat}(h:c.Fit b)(hm:m.Fit):(c.prep m).Fit (b+3145800):=by
 have h1:=KO m.at_ m.list 0 _ b (Hp h) hm.entry
 have h2:=hm.list
 have h3:(c.prep1 m).Fit (b+3145799):=by
  unfold CA.prep1;split
  ·exact(FK h1 _).le (by omega)
  ·exact(Hp h).le (by omega)
 exact send_fit h3 _
theorem in1_fit{b:Nat}(h:c.Fit b)(hv:0<=m.view/\m.view<=1099511627776):(c.in1 m).Fit (b+3145900):=by
 unfold CA.in1;split
 ·exact JI h hv
 ·exact h.le (BF _ _)
theorem in2_fit{b:Nat}(h:c.Fit b)(hm:m.Fit)(h1:1<=m.from_)(h7:m.from_<=7)(h0:0<=m.at_)(hv:0<=m.view/\m.view<=1099511627776)(d:Int):(c.in2 m d).Fit (b+3145900):=by
 have hl:=hm.list
 unfold CA.in2
 split
 ·exact(Su h h1 h7).le (by omega)
 ·split
  ·exact(OS (HZ h h1 h7 hm)).le (by omega)
  ·split
   ·exact(send_fit (FK (IR (LE h hv.1 hv.2) m.list hm.entry hl) _) _).le (by omega)
   ·split
    ·exact(prep_fit h hm).le (by omega)
    ·split
     ·exact(IP (LU h h0)).le (by omega)
     ·exact h.le (BF _ _)
theorem CA.Inv.in1(h:c.Inv a t n true)(hv:m.view<=1099511627776)(ht:t<=1000000):(c.in1 m).Inv a t (n+t+3) true:=by
 unfold CA.in1;split
 ·rename_i q;exact h.change (by omega) hv ht
 ·exact h.le (Al _) (by omega)
theorem in1_view(c:CA)(m:Db)(h:c.keep.view<=m.view):(c.in1 m).keep.view<=m.view:=by
 unfold CA.in1;split
 ·have e0:((c.put ⟨1,m.view,c.keep.normal,[]⟩).changed.all (CY 3)).keep.view=m.view:=by
   rw[(IC _ _).1];show(c.keep.lay _).view=_;unfold DW.lay;rw[Ah rfl]
  unfold CA.change CA.wanted
  split
  ·split
   ·unfold CA.begin_;split
    ·unfold CA.begin2
     rw[(FQ _).1,(FP _ _).1,(IC _ _).1]
     unfold CA.adopt CA.begun_
     show((_:CA).keep.lay _).view<=_
     unfold DW.lay;rw[Ah rfl]
     show(CA.adopt2 _ _).keep.view<=_
     rw[SH]
     exact Int.le_of_eq e0
    ·exact Int.le_of_eq e0
   ·exact Int.le_of_eq e0
  ·exact Int.le_of_eq e0
 ·exact h
theorem CA.Inv.in2(h:c.Inv a t n true)(hm:m.Sm t)(hv:c.keep.view<=m.view)(d:m.view<=1099511627776)(ht:t<=1000000)(b:Int):(c.in2 m b).Inv a t (n+t+2) true:=by
 have h':c.Inv a t (n+t+2) true:=h.le (Al _) (by omega)
 unfold CA.in2
 split
 ·exact h.started rfl ht m
 ·split
  ·exact(h.setDos (m:=m) hm.len hm.ent).begin_ rfl ht
  ·split
   ·have h0:=h.vw
    have h1:(c.newview m.view).Inv a t n false:=⟨h.len,h.ent,h.dos,⟨h0.1,by show c.keep.normal<=m.view;omega,d⟩,h.cm,h.idl,h.ai,h.nr,h.recs,h.msgs,h.done,h.layl,(fun q=>by cases q),h.dn,h.same⟩
    exact((h1.adopt hm.len hm.ent ht).reach _).send (Qw 2 (by decide))
   ·split
    ·rename_i q;exact(h.prep rfl hm q.1).le (Al _) (by omega)
    ·split
     ·exact(CA.Inv.count (c:=c.counted m) ⟨h'.len,h'.ent,h'.dos,h'.vw,h'.cm,h'.idl,h'.ai,h'.nr,h'.recs,h'.msgs,h'.done,h'.layl,h'.lay,h'.dn,h'.same⟩)
     ·exact h'
theorem in_act(h:c.St t)(hm:m.Sm t)(hf:m.Fit)(ht:t<=1000000):c.Act t (2*t+8) (c.in_ m).1 (c.in_ m).2:=by
 unfold CA.in_
 split
 ·exact h.nop _
 ·rename_i hb
  have h7:=h.fit.n
  simp only[CA.bad,not_or,Int.not_lt]at hb
  obtain⟨b1,b2,b3,b4,f,e,b,g,i,d⟩:=hb
  split
  ·exact h.nop _
  ·split
   ·unfold CA.behind;split
    ·exact(CA.Inv.act (h.inv.send (Qw 3 (by decide))) (send_fit h.fit _) (by decide)).le' (by omega)
    ·exact(CA.Inv.act h.inv h.fit (by decide)).le' (by omega)
   ·have f1:=in2_fit (in1_fit (m:=m) h.fit ⟨e,b⟩) hf b2 (by omega) d ⟨e,b⟩ (FM m.view c.n)
    exact(((h.inv.in1 (m:=m) b ht).in2 hm (in1_view c m (by omega)) b ht (FM m.view c.n)).act f1 (by decide)).le' (by omega)
theorem CA.Inv.tick3(h:c.Inv a t n true)(ht:t<=1000000):c.tick3.Inv a t (n+t+3) true:=by
 have h':c.Inv a t (n+t+3) true:=h.le (Al _) (by omega)
 unfold CA.tick3;split
 ·refine CA.Inv.count ?_
  unfold CA.tick1;split
  ·exact Lo 8 1 (c:={c with idle:=0}) ⟨h'.len,h'.ent,h'.dos,h'.vw,h'.cm,(by have:=h'.ai;show(0:Int)<=a.idle+1;omega),h'.ai,h'.nr,h'.recs,h'.msgs,h'.done,h'.layl,h'.lay,h'.dn,h'.same⟩
  ·exact h'
 ·split
  ·split
   ·have h1:CA.Inv {c with begun:=aset c.me true c.begun} a t n true:=⟨h.len,h.ent,h.dos,h.vw,h.cm,h.idl,h.ai,h.nr,h.recs,h.msgs,h.done,h.layl,h.lay,h.dn,h.same⟩
    exact((h1.all (m:=CY 3) ⟨Af _,(fun e=>by cases e),(fun _ q=>by cases q),(fun _ q=>by cases q),fun _=>Af _⟩).wanted rfl ht).le (Al _) (by omega)
   ·exact h'
  ·split
   ·split
    ·exact h.change (by omega) (by omega) ht
    ·exact h'
   ·exact h'
theorem XQ{b:Nat}(h:c.Fit b):c.tick3.Fit (b+4000000):=by
 unfold CA.tick3;split
 ·refine CA.Fit.le (IP (b:=b+8) ?_) (by omega)
  unfold CA.tick1;split
  ·exact IV 8 1 _ b (Hp h)
  ·exact h.le (by omega)
 ·split
  ·split
   ·have:=h.me;have:=h.n
    exact(JH (IM (Gl h (k:=c.me) (by omega) (by omega)) _)).le (by omega)
   ·exact h.le (by omega)
  ·split
   ·split
    ·have:=h.view
     exact(JI h ⟨by omega,by omega⟩).le (by omega)
    ·exact h.le (by omega)
   ·exact h.le (by omega)
theorem Ro(h:c.St t)(hi:c.idle<1099511627776)(ht:t<=1000000):c.Act t (2*t+8) c.tick.1 c.tick.2:=by
 have EQ:=h.fit.idle
 have h1:c.tick0.Inv c t 0 true:=⟨h.inv.len,h.inv.ent,h.inv.dos,h.inv.vw,h.inv.cm,AK _,EQ.1,h.inv.nr,h.inv.recs,h.inv.msgs,h.inv.done,h.inv.layl,h.inv.lay,h.inv.dn,h.inv.same⟩
 exact((h1.tick3 ht).act (XQ (Ou h.fit hi)) (by decide)).le' (by omega)
theorem Mb(h:c.St t){x:N_}(hx:Je x)(hl:c.keep.log.length+1<=t)(ht:t<=1000000):c.Act t (2*t+8) (c.propose x).2.1 (c.propose x).2.2.2:=by
 unfold CA.propose
 split
 ·exact h.nop _
 ·split
  ·exact h.nop _
  ·split
   ·exact h.nop _
   ·have h1:=hx.1
    have hp:=Fq h.fit (r:=⟨2,0,0,x⟩) (by show x.length<=_;omega) (fun q=>by cases q) (fun _=>by omega)
    exact(((Lo 8 1 (h.inv.putP hl hx)).count).act (IP (IV 8 1 _ _ hp)) (by decide)).le' (by omega)
end
def Ic(c:CfM)(me:Int)(i:Nat)(k:DW):CU:=⟨QaQ me c.nodes i c.patience k,sh0 (decide (c.level=2)) c.stamps,[],0,0,[],Ma,false⟩
def YZ(c:CfM)(me:Int)(l:EA):CR:=⟨me,c,l,(Ds l c.shards.toNat).mapIdx (Ic c me),Du.new me c.nodes c.patience, -1,[]⟩
theorem Nx(l:EA)(n:Nat):(Ds l n).length=n:=by
 unfold Ds Jj
 have:∀(ns:List N_) (ks:List DW),(ns.foldl GV ks).length=ks.length:=fun ns=>by
  induction ns with
  |nil=>intro ks;rfl
  |cons x ns ih=>intro ks;rw[BX,ih];exact Ke ks _
 rw[this,Kz,List.length_replicate]
theorem Xc(E:Nat)(S:N_)(L:PL)(d0 d:Dw)(l:EA)(c:CfM)(hc:c.Ok)(hbug:c.bugs=0)(hG:GLB L)(me:Int)(ho:d0.open_=(l,d,0))(a0:d0.Ok)(hL:Fw true l d)(hk:∀k∈Ds l c.shards.toNat,¬Zx me c.nodes c.patience k/\k.log.length<=1048576):
  Sp P0 78 [Cr E,.agg (cfv c).toArray,Cs me] [cm S (DZ E d0),pool L] fun v h=>∃p L' S' u pc ps,Le L L'/\v= .tuple #[Cr p,Cs 0]/\h=[cm S' (Jn u pc ps true p E L' (YZ c me l)),pool L']:=by
 have q1:=hc.shards;have q2:=hc.nodes;have q3:=hc.patience
 have hst:=hL.st;have hns:=hL.ns;have hnn:=hL.nn
 obtain⟨n,hn⟩:∃n,n=c.shards.toNat:=⟨_,rfl⟩
 have a4:(n:Int)=c.shards:=by omega
 rw[<-hn]at hk
 have hkl:=Nx l n
 have hpl:(YZ c me l).parts.length=n:=by show((Ds l c.shards.toNat).mapIdx _).length=n;rw[<-hn,List.length_mapIdx,hkl]
 refine Sq Tryz.func78 fun w0 b_=>?_
 refine OA 2 ?_
 refine O6 YR fun b4=>?_
 refine OA 7 ?_
 refine O8 (Zd rfl (en 45) rfl (.p1 .d) (Iv c hc L hG)) ?_
 refine OA 2 ?_
 refine Tp (.t0 (.t1 (.t0 .e))) (OA 5 ?_)
 refine CH rfl (fun I=>absurd rfl I) fun I=>?_
 refine OA 4 ?_
 refine Oc rfl (en 11) rfl (.p0 (.p0 .d)) (NA E S L d0 a0) ?_
 rintro _ _ ⟨L1,S2,Q,hor⟩
 rw[ho]at hor
 rcases hor with ⟨q,_⟩|⟨_,W,Y,rfl,rfl⟩
 ·exact absurd rfl q
 refine OA 12 ?_
 refine CH rfl (fun J=>absurd rfl J) fun J=>?_
 refine OA 2 ?_
 refine Cw (.t .d) rfl (fun j=>false) ?_
 intro a5
 refine DA [0,1,2,3,4,5,6,7] ?_
 refine Da 8 ?_
 refine D6 rfl (YP rfl (en 100) rfl (.d) (Pf me c.nodes c.patience)) ?_
 rintro _ _ ⟨_,⟨X,S3,rfl,rfl⟩,rfl⟩
 refine ys (D1 9 rfl (Xb bt93.h) ?_)
 refine Da 10 ?_
 refine D6 rfl YR ?_
 rintro _ _ ⟨N,rfl,rfl⟩
 refine ys (D1 11 rfl FC ?_)
 refine OA 6 ?_
 refine O1 (YK (v':=Cs (n:Int)) (Zi u3) (by rw[a4])) ?_
 refine Oc rfl (en 13) rfl (.p3 (.p2 .d)) (LP W E Y L1 l n (by omega) (by omega) (by omega) (by omega) (fun x hx=>by have:=(hns x hx).1;omega)) ?_
 rintro _ _ ⟨L2,Y,kb,V,R,a3,rfl,rfl⟩
 refine OA 3 ?_
 refine Ti (Cv.up (B:=DV X L (Du.new me c.nodes c.patience)) s2 fun _ h=>h L) (Tx (YL (a:=[]) .d (A:=DH (Fe L2) [] []) DH.nil) fun M=>Ti (Cv.nil 101 1) (Tp (.t5 (.t0 (.t2 (.t3 (.t4 (.t3 (.t2 (.t0 (.t0 .e))))))))) (Tb (CD (fun((i,F,M,u,pc,ps):Nat×PL×N_×A_×Nat×N_)=>[(0,Cr E),(2,Cs me),(4,Cr b4),(11,Cr N),(43,.slice (some ⟨kb,0,none⟩) n n),(44,Cs n),(45,Cs i)]) (fun(i,F,M,u,pc,ps)=>[pool F,blk b4 (.cells (cfv c).toArray 26 (0,0)),Mg N (YZ c me l) W X (.slice u i pc) (.slice none 0 0),blk kb (.cells V.toArray 42 (0,0)),sq u i pc 101 1 (ps.map DG),cm M (DH (Fe F) ps ((YZ c me l).parts.take i)),cm Y (Ey W E L2 l),cm S2 (DZ E d),cm S3 (DV X L (Du.new me c.nodes c.patience))]) (fun(i,F,M,u,pc,ps)=>i<=n/\Le L2 F/\ps.length=i) (fun(i,_)=>n-i) (0,L2,M,none,0,[]) ?_ ?_))))
 ·exact⟨⟨Af _,.refl _,rfl⟩,Sb7,.refl _⟩
 clear M
 rintro⟨i,F,M,u,pc,ps⟩ ⟨hi,t,hpi⟩
 conv=>arg 7;dsimp only
 conv=>arg 8;dsimp only
 refine OA 5 ?_
 refine Cy rfl (fun U=>?_) (fun U=>?_)
 ·obtain⟨k,O⟩:∃k,(Ds l n)[i]? =some k:=⟨_,Ae (by omega)⟩
  obtain⟨hkb,T⟩:=hk k (Aj O)
  obtain⟨a7,⟨lv,rfl,hlv⟩,a2⟩:=a3.at (s:=3) (fun _ _ ⟨_,e,_⟩=>by rw[e];rfl) O
  obtain⟨a8,a9,rfl,_,_⟩:=hlv.sh
  have w:(YZ c me l).parts[i]? =some (Ic c me i k):=by show((Ds l c.shards.toNat).mapIdx (Ic c me))[i]? =_;rw[<-hn,List.getElem?_mapIdx,O];rfl
  refine OA 6 ?_
  refine O1 (Jt i u39) ?_
  refine O1 (YW (j:=i*3) u42 Reads.blk a2 rfl) ?_
  refine O6 (YQ Ve) fun a6=>?_
  refine OA 12 ?_
  refine O1 (YK (v':=Cs 0) (Zi u3) (by rw[hbug])) ?_
  refine O1 (ZX 3 u42) ?_
  refine O2 (Zd rfl (en 139) rfl (.p0 .d) (new_spec me c.nodes i c.patience F k _ (hlv.le t) T)) ?_
  rintro _ _ ⟨_,hor,rfl⟩
  rcases hor with ⟨q,_⟩|⟨_,cp,f,Sc,b,rfl,rfl⟩
  ·exact absurd q hkb
  refine OA 12 ?_
  refine CH rfl (fun K=>absurd rfl K) fun K=>?_
  refine Tk (Tx (YL (.p2 (.p4 (.p4 (.p4 .d)))) (A:=(fun rs=>rs=[blk kb (.cells V.toArray 42 (0,0)),cm Y (Ey W E L2 l),cm S2 (DZ E d),cm S3 (DV X L (Du.new me c.nodes c.patience))])) rfl) fun S6=>Tp (.t0 (.t0 (.t0 (.t0 (.t1 (.t1 (.t1 .e))))))) (Cw (.t (.t .d)) rfl (fun j=>Nat.beq j 22) ?_))
  intro a5
  refine DA [0,1,2,3,4,5,6,7,8,9] ?_
  refine D1 10 rfl (YK (v':=Cs 0) (Zi u3) (by rw[hbug])) ?_
  refine DA [11,12] ?_
  refine Da3 13 14 15 ?_ ?_ ?_
  ·refine D6 rfl (YP rfl (en 140) rfl (.d) (GF (decide (c.level=2)) c.stamps f)) ?_
   rintro _ _ ⟨_,⟨sp,Z,rfl,rfl⟩,rfl⟩
   refine ys (Jy 14 15 ?_ ?_)
   ·refine D6 rfl (YS gQ) ?_
    rintro _ _ ⟨G,rfl,rfl⟩
    refine ys (Da 15 ?_)
    refine D6 rfl (YS gI) ?_
    rintro _ _ ⟨H,rfl,rfl⟩
    refine ys (D1 16 rfl (Xb bt100.h) ?_)
    refine Da 17 ?_
    refine D6 rfl YR ?_
    rintro _ _ ⟨g,rfl,rfl⟩
    refine ys (Da 18 ?_)
    refine D6 rfl (YY u90) ?_
    rintro _ _ ⟨D,rfl,rfl⟩
    refine ys (Da 19 ?_)
    refine D6 rfl (LO.app (ao:=u) WZ) ?_
    rintro _ _ ⟨o,r,rfl,rfl⟩
    refine ys (D2 20 rfl (fun _=>Hl) ?_)
    refine D1 21 rfl (Ct.fld 3 18 18 u93) ?_
    refine Da 22 ?_
    refine D8 rfl YO ?_
    refine D0 (Tx (Qam (L:=f) (m:=Ic c me i k) (.p10 (.p8 (.p8 (.p4 (.p6 .d)))))) fun P=>Ti (Cv.up (B:=DH (Fe f) ps ((YZ c me l).parts.take i)) s3 (fun _ h=>h.mono fun _ _ _ h=>Fe.le b _ h)) (Tx (Qau (.p7 (.p3 .d))) fun C=>Cx (Cv.op (.p4 .d)) ?_))
    rintro _ ⟨_,rfl,rfl⟩
    refine Tp (.t3 (.t0 (.t0 (.t3 (.t0 (.t1 (.t1 (.t1 (.t1 .e))))))))) (OA 4 ?_)
    exact⟨(i+1,f,C,o,r,ps++[g]),⟨⟨by omega,t.trans b,by rw[Ac,hpi];rfl⟩,⟨rfl,rfl,rfl,rfl,rfl,rfl,Dd rfl (by omega),trivial⟩,by dsimp only;rw[Dg w,AO];exact .refl _⟩,by simp only;omega⟩
   refine D6 rfl (YS gI) ?_
   rintro _ _ ⟨H,rfl,rfl⟩
   refine ys (Da 14 ?_)
   refine D6 rfl (YS gQ) ?_
   rintro _ _ ⟨G,rfl,rfl⟩
   refine ys (D1 16 rfl (Xb bt100.h) ?_)
   refine Da 17 ?_
   refine D6 rfl YR ?_
   rintro _ _ ⟨g,rfl,rfl⟩
   refine ys (Da 18 ?_)
   refine D6 rfl (YY u90) ?_
   rintro _ _ ⟨D,rfl,rfl⟩
   refine ys (Da 19 ?_)
   refine D6 rfl (LO.app (ao:=u) WZ) ?_
   rintro _ _ ⟨o,r,rfl,rfl⟩
   refine ys (D2 20 rfl (fun _=>Hl) ?_)
   refine D1 21 rfl (Ct.fld 3 18 18 u93) ?_
   refine Da 22 ?_
   refine D8 rfl YO ?_
   refine D0 (Tx (Qam (L:=f) (m:=Ic c me i k) (.p10 (.p9 (.p8 (.p4 (.p6 .d)))))) fun P=>Ti (Cv.up (B:=DH (Fe f) ps ((YZ c me l).parts.take i)) s3 (fun _ h=>h.mono fun _ _ _ h=>Fe.le b _ h)) (Tx (Qau (.p7 (.p3 .d))) fun C=>Cx (Cv.op (.p4 .d)) ?_))
   rintro _ ⟨_,rfl,rfl⟩
   refine Tp (.t3 (.t0 (.t0 (.t3 (.t0 (.t1 (.t1 (.t1 (.t1 .e))))))))) (OA 4 ?_)
   exact⟨(i+1,f,C,o,r,ps++[g]),⟨⟨by omega,t.trans b,by rw[Ac,hpi];rfl⟩,⟨rfl,rfl,rfl,rfl,rfl,rfl,Dd rfl (by omega),trivial⟩,by dsimp only;rw[Dg w,AO];exact .refl _⟩,by simp only;omega⟩
  ·refine D6 rfl (YS gQ) ?_
   rintro _ _ ⟨G,rfl,rfl⟩
   refine ys (Jy 13 15 ?_ ?_)
   ·refine D6 rfl (YP rfl (en 140) rfl (.d) (GF (decide (c.level=2)) c.stamps f)) ?_
    rintro _ _ ⟨_,⟨sp,Z,rfl,rfl⟩,rfl⟩
    refine ys (Da 15 ?_)
    refine D6 rfl (YS gI) ?_
    rintro _ _ ⟨H,rfl,rfl⟩
    refine ys (D1 16 rfl (Xb bt100.h) ?_)
    refine Da 17 ?_
    refine D6 rfl YR ?_
    rintro _ _ ⟨g,rfl,rfl⟩
    refine ys (Da 18 ?_)
    refine D6 rfl (YY u90) ?_
    rintro _ _ ⟨D,rfl,rfl⟩
    refine ys (Da 19 ?_)
    refine D6 rfl (LO.app (ao:=u) WZ) ?_
    rintro _ _ ⟨o,r,rfl,rfl⟩
    refine ys (D2 20 rfl (fun _=>Hl) ?_)
    refine D1 21 rfl (Ct.fld 3 18 18 u93) ?_
    refine Da 22 ?_
    refine D8 rfl YO ?_
    refine D0 (Tx (Qam (L:=f) (m:=Ic c me i k) (.p10 (.p7 (.p8 (.p4 (.p6 .d)))))) fun P=>Ti (Cv.up (B:=DH (Fe f) ps ((YZ c me l).parts.take i)) s3 (fun _ h=>h.mono fun _ _ _ h=>Fe.le b _ h)) (Tx (Qau (.p7 (.p3 .d))) fun C=>Cx (Cv.op (.p4 .d)) ?_))
    rintro _ ⟨_,rfl,rfl⟩
    refine Tp (.t3 (.t0 (.t0 (.t3 (.t0 (.t1 (.t1 (.t1 (.t1 .e))))))))) (OA 4 ?_)
    exact⟨(i+1,f,C,o,r,ps++[g]),⟨⟨by omega,t.trans b,by rw[Ac,hpi];rfl⟩,⟨rfl,rfl,rfl,rfl,rfl,rfl,Dd rfl (by omega),trivial⟩,by dsimp only;rw[Dg w,AO];exact .refl _⟩,by simp only;omega⟩
   refine D6 rfl (YS gI) ?_
   rintro _ _ ⟨H,rfl,rfl⟩
   refine ys (Da 13 ?_)
   refine D6 rfl (YP rfl (en 140) rfl (.d) (GF (decide (c.level=2)) c.stamps f)) ?_
   rintro _ _ ⟨_,⟨sp,Z,rfl,rfl⟩,rfl⟩
   refine ys (D1 16 rfl (Xb bt100.h) ?_)
   refine Da 17 ?_
   refine D6 rfl YR ?_
   rintro _ _ ⟨g,rfl,rfl⟩
   refine ys (Da 18 ?_)
   refine D6 rfl (YY u90) ?_
   rintro _ _ ⟨D,rfl,rfl⟩
   refine ys (Da 19 ?_)
   refine D6 rfl (LO.app (ao:=u) WZ) ?_
   rintro _ _ ⟨o,r,rfl,rfl⟩
   refine ys (D2 20 rfl (fun _=>Hl) ?_)
   refine D1 21 rfl (Ct.fld 3 18 18 u93) ?_
   refine Da 22 ?_
   refine D8 rfl YO ?_
   refine D0 (Tx (Qam (L:=f) (m:=Ic c me i k) (.p10 (.p7 (.p7 (.p4 (.p6 .d)))))) fun P=>Ti (Cv.up (B:=DH (Fe f) ps ((YZ c me l).parts.take i)) s3 (fun _ h=>h.mono fun _ _ _ h=>Fe.le b _ h)) (Tx (Qau (.p7 (.p3 .d))) fun C=>Cx (Cv.op (.p4 .d)) ?_))
   rintro _ ⟨_,rfl,rfl⟩
   refine Tp (.t3 (.t0 (.t0 (.t3 (.t0 (.t1 (.t1 (.t1 (.t1 .e))))))))) (OA 4 ?_)
   exact⟨(i+1,f,C,o,r,ps++[g]),⟨⟨by omega,t.trans b,by rw[Ac,hpi];rfl⟩,⟨rfl,rfl,rfl,rfl,rfl,rfl,Dd rfl (by omega),trivial⟩,by dsimp only;rw[Dg w,AO];exact .refl _⟩,by simp only;omega⟩
  refine D6 rfl (YS gI) ?_
  rintro _ _ ⟨H,rfl,rfl⟩
  refine ys (Jy 13 14 ?_ ?_)
  ·refine D6 rfl (YP rfl (en 140) rfl (.d) (GF (decide (c.level=2)) c.stamps f)) ?_
   rintro _ _ ⟨_,⟨sp,Z,rfl,rfl⟩,rfl⟩
   refine ys (Da 14 ?_)
   refine D6 rfl (YS gQ) ?_
   rintro _ _ ⟨G,rfl,rfl⟩
   refine ys (D1 16 rfl (Xb bt100.h) ?_)
   refine Da 17 ?_
   refine D6 rfl YR ?_
   rintro _ _ ⟨g,rfl,rfl⟩
   refine ys (Da 18 ?_)
   refine D6 rfl (YY u90) ?_
   rintro _ _ ⟨D,rfl,rfl⟩
   refine ys (Da 19 ?_)
   refine D6 rfl (LO.app (ao:=u) WZ) ?_
   rintro _ _ ⟨o,r,rfl,rfl⟩
   refine ys (D2 20 rfl (fun _=>Hl) ?_)
   refine D1 21 rfl (Ct.fld 3 18 18 u93) ?_
   refine Da 22 ?_
   refine D8 rfl YO ?_
   refine D0 (Tx (Qam (L:=f) (m:=Ic c me i k) (.p10 (.p9 (.p7 (.p4 (.p6 .d)))))) fun P=>Ti (Cv.up (B:=DH (Fe f) ps ((YZ c me l).parts.take i)) s3 (fun _ h=>h.mono fun _ _ _ h=>Fe.le b _ h)) (Tx (Qau (.p7 (.p3 .d))) fun C=>Cx (Cv.op (.p4 .d)) ?_))
   rintro _ ⟨_,rfl,rfl⟩
   refine Tp (.t3 (.t0 (.t0 (.t3 (.t0 (.t1 (.t1 (.t1 (.t1 .e))))))))) (OA 4 ?_)
   exact⟨(i+1,f,C,o,r,ps++[g]),⟨⟨by omega,t.trans b,by rw[Ac,hpi];rfl⟩,⟨rfl,rfl,rfl,rfl,rfl,rfl,Dd rfl (by omega),trivial⟩,by dsimp only;rw[Dg w,AO];exact .refl _⟩,by simp only;omega⟩
  refine D6 rfl (YS gQ) ?_
  rintro _ _ ⟨G,rfl,rfl⟩
  refine ys (Da 13 ?_)
  refine D6 rfl (YP rfl (en 140) rfl (.d) (GF (decide (c.level=2)) c.stamps f)) ?_
  rintro _ _ ⟨_,⟨sp,Z,rfl,rfl⟩,rfl⟩
  refine ys (D1 16 rfl (Xb bt100.h) ?_)
  refine Da 17 ?_
  refine D6 rfl YR ?_
  rintro _ _ ⟨g,rfl,rfl⟩
  refine ys (Da 18 ?_)
  refine D6 rfl (YY u90) ?_
  rintro _ _ ⟨D,rfl,rfl⟩
  refine ys (Da 19 ?_)
  refine D6 rfl (LO.app (ao:=u) WZ) ?_
  rintro _ _ ⟨o,r,rfl,rfl⟩
  refine ys (D2 20 rfl (fun _=>Hl) ?_)
  refine D1 21 rfl (Ct.fld 3 18 18 u93) ?_
  refine Da 22 ?_
  refine D8 rfl YO ?_
  refine D0 (Tx (Qam (L:=f) (m:=Ic c me i k) (.p10 (.p8 (.p7 (.p4 (.p6 .d)))))) fun P=>Ti (Cv.up (B:=DH (Fe f) ps ((YZ c me l).parts.take i)) s3 (fun _ h=>h.mono fun _ _ _ h=>Fe.le b _ h)) (Tx (Qau (.p7 (.p3 .d))) fun C=>Cx (Cv.op (.p4 .d)) ?_))
  rintro _ ⟨_,rfl,rfl⟩
  refine Tp (.t3 (.t0 (.t0 (.t3 (.t0 (.t1 (.t1 (.t1 (.t1 .e))))))))) (OA 4 ?_)
  exact⟨(i+1,f,C,o,r,ps++[g]),⟨⟨by omega,t.trans b,by rw[Ac,hpi];rfl⟩,⟨rfl,rfl,rfl,rfl,rfl,rfl,Dd rfl (by omega),trivial⟩,by dsimp only;rw[Dg w,AO];exact .refl _⟩,by simp only;omega⟩
 have a1:i=(YZ c me l).parts.length:=by rw[hpl];omega
 subst a1
 rw[BJ]
 refine Ti (Cv.up (B:=Ey W E F l) s6 (Ey.le t)) (Ti (Cv.up (B:=DV X F (Du.new me c.nodes c.patience)) s8 (DV.le (Q.trans (R.trans t)))) (Ti (Cv.nil 138 12) (OA 7 ?_)))
 refine Tx (ZW (x:=YZ c me l) (y:=true) (.p2 (.p3 (.p7 (.p4 (.p4 (.p4 (.p3 .d))))))) hL hpi .nil) fun S8=>Tp (.t3 (.t0 .e)) ?_
 exact Cu (Dq rfl rfl rfl (.refl _) ⟨N,F,S8,u,pc,ps,Q.trans (R.trans t),rfl,rfl⟩)
def CU.setC(m:CU)(c:CA):CU:={m with core:=c}
def CU.fresh(m:CU):CU:=if m.core.keep.view≠m.seen then {m with wants:=[],seen:=m.core.keep.view}else m
def CU.asked(m:CU)(d:N_)(w:Int×Int):CU:=(m.setC (m.core.propose d).2.2.2).fresh.setW (aset (m.core.propose d).1 w (m.setC (m.core.propose d).2.2.2).fresh.wants)
def CR.propose(x:CR)(i:Nat)(m:CU)(d:N_)(w:Int×Int):Bool×CR:=
 if(m.core.propose d).2.2.1≠0 then (false,x.setP i (m.setC (m.core.propose d).2.2.2))
 else (true,(x.setP i (m.asked d w)).do_ i (m.asked d w) (m.core.propose d).2.1)
theorem QR.of{L L':PL}(k:Le L L'){o:Vi}{i f d:A_}{j g e:Nat}{c mcs b:V_}(h1:Rws (RcR L) c o.recs)(h2:Rws (Gu L) mcs o.msgs)(h3:Dz L b o.done):QR L' o (.agg [.slice i o.recs.length j,.slice f o.msgs.length g,.slice d o.done.length e].toArray) [sq i o.recs.length j 119 4 c,sq f o.msgs.length g 138 12 mcs,sq d o.done.length e 53 1 b]:=
 ⟨i,f,d,j,g,e,c,mcs,b,rfl,rfl,h1.mono fun _ _ h=>h.le k,h2.mono fun _ _ h=>h.le k,h3.le k⟩
theorem Nt(m:CU):m.fresh.core=m.core/\m.fresh.state=m.state/\m.fresh.done=m.done/\m.fresh.ages=m.ages/\m.fresh.told=m.told/\m.fresh.tell=m.tell:=by
 unfold CU.fresh;split<;>exact⟨rfl,rfl,rfl,rfl,rfl,rfl⟩
theorem HI{x:CR}{i:Nat}{m m':CU}(h:x.parts[i]? =some m):(x.setP i m').parts[i]? =some m':=by
 show(x.parts.set i m')[i]? =_
 rw[Bj (Ab.1 h).1]
theorem Oj{o:A_}{pc:Nat}{ps:N_}(p r:Nat)(S:N_)(L:PL)(x:CR)(i:Nat)(m:CU)(b N:Nat)(d:N_)(a:A_)(G:Nat)(hB:Bs L (.slice a d.length G) d)(w:Int×Int)(hi:x.parts[i]? =some m)(hf:m.core.Fit b)(P:(m.core.propose d).2.2.2.Fit b)(hbb:b<67000000)(hx:(m.core.propose d).2.2.1=0->(x.setP i (m.asked d w)).DoOk i (m.core.propose d).2.1 (m.asked d w) b N):
  Sp P0 184 [Cr p,Cs i,.slice a d.length G,gQ w] [cm S (Jn o pc ps true p r L x),pool L] fun v h=>v= .bool (x.propose i m d w).1/\∃L' S',Le L L'/\h=[cm S' (Jn o pc ps true p r L' (x.propose i m d w).2),pool L']:=by
 have hil:=(Ab.1 hi).1
 obtain⟨m1,hm1⟩:∃m1,m1=m.setC (m.core.propose d).2.2.2:=⟨_,rfl⟩
 have hmc:m1.core=(m.core.propose d).2.2.2:=by rw[hm1];rfl
 have hP:∀q l sp f ab,Qy q m l sp f ab=Qy q m1 l sp f ab:=fun q l sp f ab=>by rw[hm1];rfl
 have hw1:m.wants=m1.wants:=by rw[hm1];rfl
 have C:m.ages=m1.ages:=by rw[hm1];rfl
 have hs1:m.state=m1.state:=by rw[hm1];rfl
 have Q:m.asked d w=m1.fresh.setW (aset (m.core.propose d).1 w m1.fresh.wants):=by rw[hm1];rfl
 refine Sq Tryz.func184 fun w0 b_=>?_
 refine OA 2 ?_
 refine O6 YR fun b7=>?_
 refine OA 2 ?_
 refine Cx (Cv.cpO (.p0 .d) hi) ?_
 rintro _ ⟨D,E,oa,oc,mcs,dk,q,l,sp,f,ab,X,Y,Z,S4,u,Sh,⟨hL,hp,hm,s⟩,rfl⟩
 have hg:=FV s
 refine CO (fun w hw=>hw.sqNN (ao:=o) at3 (by omega)) fun⟨g,hgg⟩=>?_
 subst hgg
 refine OA 7 ?_
 refine O1 (Km i u90) ?_
 refine O1 (YV u101 hg) ?_
 refine OA 2 ?_
 obtain⟨o,hpa⟩:∃o,o=(some ⟨g,0,none⟩:A_):=⟨_,rfl⟩
 rw[<-hpa]
 refine Tp (.t0 (.t0 (.t7 (.t7 (.t8 (.t0 (.t0 (.t0 (.t0 (.t0 (.t0 (.t0 (.t0 (.t0 .e)))))))))))))) (Tx (YL (.p5 (.p5 (.p5 (.p5 (.p5 (.p5 (.p5 (.p5 (.p5 .d))))))))) (A:=(fun rs=>rs=[Mg p x D E (.slice o x.parts.length pc) (.slice oa x.out.length oc),sq o x.parts.length pc 101 1 (ps.map DG),sq oa x.out.length oc 138 12 mcs,cm X (Ey D r L x.log),cm Y (DZ r dk),cm Z (DV E L x.post),cm S4 (DH (Fe L) (ps.eraseIdx i) (x.parts.eraseIdx i)),Dm ab gI m.ages,cm Sh (Ih sp L m.state)])) rfl) fun Sr=>OA 7 ?_)
 refine Oc rfl (en 115) rfl (.p4 (.p0 .d)) (Ks l u L m.core b hf hbb a G d hB) ?_
 rintro _ _ ⟨L1,u,a1,ov,c,rfl,⟨ra,ma,da,rc,mc,dc,W,V,I,rfl,rfl,hr,R,hd⟩,rfl⟩
 refine OA 4 ?_
 refine O6 (YQ MB) fun B=>?_
 refine OA 4 ?_
 rw[<-hmc,hP,hw1]
 refine OA 6 ?_
 refine CH rfl (fun k=>?_) (fun k=>?_)
 ·have he:x.propose i m d w=(false,x.setP i m1):=by rw[hm1];exact Ah k
  rw[he]
  refine OA 4 ?_
  refine Cx (Cv.op (.p3 .d)) ?_
  rintro _ ⟨_,rfl,rfl⟩
  rw[C,hs1]
  refine Tx (Qal (x:=x) (x':=x.setP i m1) (m:=m1) (y:=true) (L:=L1) (.p9 (.p9 (.p9 (.p9 (.p9 (.p9 (.p9 (.p1 (.p1 (.p7 (.p1 (.p6 .d)))))))))))) hL hp (hm.mono fun _ _ h=>h.le c) s rfl rfl rfl c c c (.refl _) c) fun F=>Tp (.t6 (.t1 .e)) ?_
  exact Cu (Rr ⟨rfl,L1,F,c,rfl⟩)
 have he:x.propose i m d w=(true,(x.setP i (m.asked d w)).do_ i (m.asked d w) (m.core.propose d).2.1):=Aa (fun q=>q k)
 rw[he]
 refine OA 8 ?_
 refine Oc rfl (en 10) rfl (.p4 (.p4 .d)) (FO l u L1 m1.core b (by rw[hmc];exact P)) ?_
 rintro _ _ ⟨L2,u,lv,e,hlv,rfl,rfl⟩
 refine O1 (Ct.field (cs:=[Cs m1.core.keep.view,Cs m1.core.keep.normal,lv]) 0 rfl rfl u42 rfl u3 rfl rfl) ?_
 refine OA 11 ?_
 refine CP (fun(f:Nat)=>[(0,Cr p),(1,Cs i),(7,Cr b7),(9,Cr q),(10,Cs (m.core.propose d).1),(11,Cr B)]) (fun f=>[blk b7 (.cells [Cs w.1,Cs w.2].toArray 196 (0,0)),Qy q m1.fresh l sp f ab,cm Sr (fun rs=>rs=[Mg p x D E (.slice o x.parts.length pc) (.slice oa x.out.length oc),sq o x.parts.length pc 101 1 (ps.map DG),sq oa x.out.length oc 138 12 mcs,cm X (Ey D r L x.log),cm Y (DZ r dk),cm Z (DV E L x.post),cm S4 (DH (Fe L) (ps.eraseIdx i) (x.parts.eraseIdx i)),Dm ab gI m.ages,cm Sh (Ih sp L m.state)]),sq ra ((m.core.propose d).2.1).recs.length rc 119 4 W,sq ma ((m.core.propose d).2.1).msgs.length mc 138 12 V,sq da ((m.core.propose d).2.1).done.length dc 53 1 I,blk B (.cells [.slice ra ((m.core.propose d).2.1).recs.length rc,.slice ma ((m.core.propose d).2.1).msgs.length mc,.slice da ((m.core.propose d).2.1).done.length dc].toArray 106 (0,0)),cm u (Dr l L2 m1.core),pool L2,Dm f gQ m1.fresh.wants]) (fun _=>True) ?_ ?_
 ·refine CH rfl (fun n=>?_) (fun n=>?_)
  ·have t:m1.fresh= {m1 with wants:=[],seen:=m1.core.keep.view}:=Ah n
   refine OA 3 ?_
   refine O6 (YS gQ) fun H=>?_
   refine OA 8 ?_
   exact⟨H,trivial,Sb6,by rw[t];exact .cons_cons _ (.cons_cons _ (.cons _ (.refl _)))⟩
  have t:m1.fresh=m1:=Aa (fun q=>q n)
  refine Tp (.t0 (.t0 (.t1 (.t1 (.t1 (.t1 (.t1 (.t1 (.t1 (.t0 .e)))))))))) (Tk ?_)
  exact⟨f,trivial,Sb6,by rw[t];exact .refl _⟩
 clear f
 rintro f -
 conv=>arg 4;dsimp only
 conv=>arg 5;dsimp only
 refine Ts (Cw (.t (.t .d)) rfl (fun j=>Nat.beq j 6) ?_)
 intro a0
 refine DA [0,1,2,3,4,5] ?_
 refine Da 6 ?_
 refine D8 rfl (ZK (g:=gQ) (m.core.propose d).1 w u95 u3) ?_
 refine D0 ?_
 have hx2:=hx k
 rw[Q]at hx2 ⊢
 obtain⟨m2,hm2⟩:∃m2,m2=m1.fresh.setW (aset (m.core.propose d).1 w m1.fresh.wants):=⟨_,rfl⟩
 obtain⟨f1,f2,f3,f4,f5,f6⟩:=Nt m1
 have K:∀q l sp f ab,Qy q m1.fresh l sp f ab=Qy q m2 l sp f ab:=fun q l sp f ab=>by rw[hm2];rfl
 have U:aset (m.core.propose d).1 w m1.fresh.wants=m2.wants:=by rw[hm2];rfl
 have M:m.ages=m2.ages:=by rw[hm2,C,<-f4];rfl
 have T:m.state=m2.state:=by rw[hm2,hs1,<-f2];rfl
 have O:m1.core=m2.core:=by rw[hm2,<-f1];rfl
 rw[<-hm2]at hx2 ⊢
 rw[K,U,O]
 refine Cx (Cv.op (.p2 .d)) ?_
 rintro _ ⟨_,rfl,rfl⟩
 rw[M,T]
 refine Tx (Qal (x:=x) (x':=x.setP i m2) (m:=m2) (y:=true) (L:=L2) (.p9 (.p9 (.p9 (.p9 (.p9 (.p9 (.p9 (.p1 (.p7 (.p7 (.p5 (.p6 .d)))))))))))) hL hp (hm.mono fun _ _ h=>h.le (c.trans e)) s rfl rfl rfl (c.trans e) (c.trans e) (c.trans e) (.refl _) (c.trans e)) fun F=>OA 5 ?_
 refine Oc rfl (en 51) rfl (.p6 (.p5 (.p1 (.p1 (.p1 .d))))) (My p r F L2 (x.setP i m2) i ((m.core.propose d).2.1) m2 b N (HI hi) hx2 _ _ (QR.of e hr R hd)) ?_
 rintro _ _ ⟨rfl,L3,S10,J,rfl⟩
 refine OA 5 ?_
 refine Tp (.t2 (.t2 .e)) ?_
 exact Cu (Rr ⟨rfl,L3,S10,(c.trans e).trans J,rfl⟩)
abbrev ClnS:=List (Int×Int)×Int×Du
def Lt(ages:List (Int×Int))(w:Ge):Int:=(alk w.txn ages).getD 0+1
def clnK(w:Ge):AkM:=⟨w.home,⟨4,Hx,⟨w.txn,false,0⟩⟩⟩
def Vf(b:Int)(i:Nat)(ages:List (Int×Int))(s:ClnS)(w:Ge):ClnS:=
 if 6*b<Lt ages w/\s.2.1<0 then (aset w.txn 0 (aset w.txn (Lt ages w) s.1),i,s.2.2.askA (clnK w))
 else (aset w.txn (Lt ages w) s.1,s.2.1,s.2.2)
def CR.setB(x:CR)(busy:Int)(post:Du):CR:={x with busy:=busy,post:=post}
def CU.idle(m:CU):CU:={m with ages:=[],tell:=false}
def CU.toldC(m:CU)(c:CA):CU:={m with tell:=false,core:=c}
def CU.aged(m:CU)(now:List (Int×Int)):CU:={m with ages:=now}
def CU.cmd(m:CU):KM:=⟨5,Hx,m.told⟩
def CR.clnF(x:CR)(i:Nat)(m:CU):ClnS:=m.state.store.waits.foldl (Vf x.c.patience i m.ages) ([],x.busy,x.post)
def CR.clean(x:CR)(i:Nat)(m:CU):CR:=
 if m.core.leads=false then x.setP i m.idle
 else if m.tell=true then
  if(m.core.propose m.cmd.wr.b).2.2.1=0/\0<(m.core.propose m.cmd.wr.b).1 then (x.setP i (m.toldC (m.core.propose m.cmd.wr.b).2.2.2)).do_ i (m.toldC (m.core.propose m.cmd.wr.b).2.2.2) (m.core.propose m.cmd.wr.b).2.1
  else x.setP i (m.toldC (m.core.propose m.cmd.wr.b).2.2.2)
 else (x.setB (x.clnF i m).2.1 (x.clnF i m).2.2).setP i (m.aged (x.clnF i m).1)
structure CR.ClnOk(x:CR)(i:Nat)(m:CU)(b N pb:Nat):Prop where
 fit:m.core.Fit b
 bb:b<67000000
 fit2:m.core.leads=true->m.tell=true->(m.core.propose m.cmd.wr.b).2.2.2.Fit b/\(x.setP i (m.toldC (m.core.propose m.cmd.wr.b).2.2.2)).DoOk i (m.core.propose m.cmd.wr.b).2.1 (m.toldC (m.core.propose m.cmd.wr.b).2.2.2) b N
 store:m.state.store.Fit
 ages:KN m.ages
 agesV:∀k v,alk k m.ages=some v->0<=v/\v<=1000000000000
 pat:0<=x.c.patience/\x.c.patience<=1000
 post:x.post.Fit pb
 pb:pb<1000000000
theorem clnA_bd{x:CR}{i b N c:Nat}{m:CU}(h:x.ClnOk i m b N c)(w:Ge):0<=(alk w.txn m.ages).getD 0/\(alk w.txn m.ages).getD 0<=1000000000000:=by
 cases e:alk w.txn m.ages with
 |none=>exact⟨AK 0,by decide⟩
 |some v=>exact h.agesV _ v e
theorem XW{α β:Type}(f:β->α->β)(b:β){l:List α}{j:Nat}{x:α}(h:l[j]? =some x):(l.take (j+1)).foldl f b=f ((l.take j).foldl f b) x:=by
 rw[Dg h,BP];rfl
theorem UY{r:A_}{pc:Nat}{ps:N_}(p u:Nat)(S:N_)(L:PL)(x:CR)(i:Nat)(m:CU)(b N pb:Nat)(hi:x.parts[i]? =some m)(hx:x.ClnOk i m b N pb):
  Sp P0 53 [Cr p,Cs i] [cm S (Jn r pc ps true p u L x),pool L] fun v h=>v= .tuple #[]/\∃L' S',Le L L'/\h=[cm S' (Jn r pc ps true p u L' (x.clean i m)),pool L']:=by
 have hil:=(Ab.1 hi).1
 refine Sq Tryz.func53 fun w0 b_=>?_
 refine Cx (Cv.cpO (.p0 .d) hi) ?_
 rintro _ ⟨R,T,oa,oc,mcs,dk,q,F,sp,U,ab,W,X,t,Y,G,Z,⟨hL,hp,hm,C⟩,rfl⟩
 have hg:=FV C
 refine CO (fun w hw=>hw.sqNN (ao:=r) at2 (by omega)) fun⟨g,hgg⟩=>?_
 subst hgg
 refine OA 7 ?_
 refine O1 (Km i u90) ?_
 refine O1 (YV u101 hg) ?_
 refine OA 2 ?_
 obtain⟨r,hpa⟩:∃r,r=(some ⟨g,0,none⟩:A_):=⟨_,rfl⟩
 rw[<-hpa]
 refine Tp (.t0 (.t7 (.t9 (.t8 (.t0 (.t4 (.t6 (.t0 (.t0 (.t0 (.t0 (.t0 (.t0 .e))))))))))))) (Tx (YL (.p7 (.p7 (.p7 (.p7 (.p7 (.p7 .d)))))) (A:=(fun rs=>rs=[sq r x.parts.length pc 101 1 (ps.map DG),sq oa x.out.length oc 138 12 mcs,cm W (Ey R u L x.log),cm X (DZ u dk),cm Y (DH (Fe L) (ps.eraseIdx i) (x.parts.eraseIdx i)),Dm U gQ m.wants])) rfl) fun Sr=>OA 7 ?_)
 refine O8 (Zd rfl (en 104) rfl (.p2 .d) (LZ F G L m.core b hx.fit)) ?_
 refine O1 (YK (v':=.bool (decide (m.core.leads=false))) (Ct.not rfl rfl) (by cases m.core.leads<;>rfl)) ?_
 refine On (Cy rfl (fun k=>?_) (fun k=>?_))
 ·rw[show x.clean i m=x.setP i m.idle from Ah k]
  refine OA 6 ?_
  refine O4 (LO.clrA u96) ?_
  refine OA 8 ?_
  refine Cx (Cv.op (.p6 .d)) ?_
  rintro _ ⟨_,rfl,rfl⟩
  refine Tx (Qal (x:=x) (x':=x.setP i m.idle) (m:=m.idle) (y:=true) (L:=L) (.p3 (.p6 (.p6 (.p6 (.p6 (.p3 (.p5 (.p1 (.p4 (.p1 (.p2 (.p1 .d)))))))))))) hL hp hm C rfl rfl rfl (.refl _) (.refl _) (.refl _) (.refl _) (.refl _)) fun E=>Tp (.t1 (.t0 .e)) ?_
  exact Cu (JY rfl (.refl _) ⟨rfl,L,E,.refl _,rfl⟩)
 have hld:m.core.leads=true:=by cases e:m.core.leads;exact absurd e k;rfl
 refine OA 9 ?_
 refine CE rfl (fun l=>?_) (fun l=>?_)
 ·obtain⟨a9,hdo⟩:=hx.fit2 hld l
  have I:m.cmd.ready.Fit:=⟨Af _,Af _⟩
  have hcl:x.clean i m=if(m.core.propose m.cmd.wr.b).2.2.1=0/\0<(m.core.propose m.cmd.wr.b).1 then (x.setP i (m.toldC (m.core.propose m.cmd.wr.b).2.2.2)).do_ i (m.toldC (m.core.propose m.cmd.wr.b).2.2.2) ((m.core.propose m.cmd.wr.b).2.1)else x.setP i (m.toldC (m.core.propose m.cmd.wr.b).2.2.2):=(Aa k).trans (Ah l)
  rw[hcl]
  refine OA 14 ?_
  refine Oc rfl (en 114) rfl (.p0 .d) (LT L _ m.cmd ⟨_,_,rfl,Dx.nil _ _,Dx.nil _ _⟩ I) ?_
  rintro _ _ ⟨ba,bc,rfl,rfl⟩
  refine OA 2 ?_
  refine Cx (Zg (.p7 (.p7 .d))) ?_
  rintro _ ⟨L1,d,hps,rfl⟩
  refine Ti (Cv.up (B:=Dr F L1 m.core) s6 (Dr.le d)) (OA 7 ?_)
  refine Oc rfl (en 115) rfl (.p6 (.p6 .d)) (Ks F G L1 m.core b hx.fit hx.bb ba bc m.cmd.wr.b ⟨hps,(KM.wr_ok I).1.byt⟩) ?_
  rintro _ _ ⟨L2,G,b1,ov,c,rfl,⟨ra,ma,da,rc,mc,dc,b3,b0,a8,rfl,rfl,hr,a2,hd⟩,rfl⟩
  refine OA 4 ?_
  refine O6 (YQ MB) fun b7=>?_
  refine OA 6 ?_
  refine CQ 60 ((m.core.propose m.cmd.wr.b).2.2.1=0/\0<(m.core.propose m.cmd.wr.b).1) ?_ ?_
  ·refine OA 4 ?_
   refine CJ 57 rfl (fun M=>?_) (fun M=>?_)
   ·refine OA 4 ?_
    exact Ex
   refine OA 4 ?_
   exact Ex
  refine Cx (Cv.op (.p5 .d)) ?_
  rintro _ ⟨_,rfl,rfl⟩
  refine Tx (Qal (x:=x) (x':=x.setP i (m.toldC (m.core.propose m.cmd.wr.b).2.2.2)) (m:=(m.toldC (m.core.propose m.cmd.wr.b).2.2.2)) (y:=true) (L:=L2) (.p2 (.p10 (.p10 (.p10 (.p10 (.p2 (.p9 (.p0 (.p8 (.p0 (.p1 (.p0 .d)))))))))))) hL hp (hm.mono fun _ _ h=>h.le (d.trans c)) C rfl rfl rfl (d.trans c) (d.trans c) (d.trans c) (.refl _) (d.trans c)) fun E=>Cy rfl (fun o=>?_) (fun o=>?_)
  ·rw[Ah o]
   refine OA 4 ?_
   refine Oc rfl (en 51) rfl (.p5 (.p0 (.p0 (.p0 (.p0 .d))))) (My p u E L2 (x.setP i (m.toldC (m.core.propose m.cmd.wr.b).2.2.2)) i ((m.core.propose m.cmd.wr.b).2.1) (m.toldC (m.core.propose m.cmd.wr.b).2.2.2) b N (HI hi) hdo _ _ (QR.of (.refl _) hr a2 hd)) ?_
   rintro _ _ ⟨rfl,V,S10,D,rfl⟩
   refine On (Tp (.t1 (.t1 .e)) ?_)
   exact Cu (JY rfl (.refl _) ⟨rfl,V,S10,(d.trans c).trans D,rfl⟩)
  rw[Aa o]
  refine Tk (Tp (.t5 (.t0 .e)) ?_)
  exact Cu (JY rfl (.refl _) ⟨rfl,L2,E,d.trans c,rfl⟩)
 have hcl:x.clean i m=(x.setB (x.clnF i m).2.1 (x.clnF i m).2.2).setP i (m.aged (x.clnF i m).1):=(Aa k).trans (Aa fun q=>by rw[l]at q;cases q)
 rw[hcl]
 refine OA 3 ?_
 refine O6 (YS gI) fun H=>?_
 refine OA 9 ?_
 refine CL (Cv.shO (.p5 .d)) ?_
 rintro _ ⟨q2,db,S5,rfl⟩
 refine O8 (Zd rfl (en 116) rfl (.p8 .d) (Ql sp q2 db m.state)) ?_
 refine Oc rfl (en 117) rfl (.p9 (.p0 .d)) (MJ q2 S5 L m.state.store hx.store) ?_
 rintro _ _ ⟨L1,S6,cs,d,hps,a5,rfl⟩
 obtain⟨wa,wc,rfl,_,hwl,_⟩:=id hps
 unfold maxLen at hwl
 refine OA 3 ?_
 refine Tx (Qae (L:=L1) (m:=m.state) (.p8 (.p7 (.p7 .d)))) fun Z=>Tx (YL (.p4 (.p4 (.p6 .d))) (A:=(fun rs=>rs=[cm Sr (fun rs=>rs=[sq r x.parts.length pc 101 1 (ps.map DG),sq oa x.out.length oc 138 12 mcs,cm W (Ey R u L x.log),cm X (DZ u dk),cm Y (DH (Fe L) (ps.eraseIdx i) (x.parts.eraseIdx i)),Dm U gQ m.wants]),cm G (Dr F L m.core),cm Z (Ih sp L1 m.state)])) rfl) fun Sq=>Ti (Cv.up (B:=DV T L1 x.post) s3 (DV.le d)) (Tp (.t5 (.t0 (.t0 (.t0 (.t0 (.t0 (.t0 .e))))))) ?_)
 have hpat:=hx.pat
 refine Tb (CD (fun((j,L2,s,t):Nat×PL×ClnS×N_)=>[(0,Cr p),(1,Cs i),(4,Cr q),(9,.map (some H)),(71,.slice wa m.state.store.waits.length wc),(72,Cs m.state.store.waits.length),(73,Cs j)]) (fun(j,L2,s,t)=>[pool L2,Qy q m F sp U ab,Dm ab gI m.ages,Mg p (x.setB s.2.1 s.2.2) R T (.slice r x.parts.length pc) (.slice oa x.out.length oc),cm t (DV T L2 s.2.2),Dm H gI s.1,cm Sq (fun rs=>rs=[cm Sr (fun rs=>rs=[sq r x.parts.length pc 101 1 (ps.map DG),sq oa x.out.length oc 138 12 mcs,cm W (Ey R u L x.log),cm X (DZ u dk),cm Y (DH (Fe L) (ps.eraseIdx i) (x.parts.eraseIdx i)),Dm U gQ m.wants]),cm G (Dr F L m.core),cm Z (Ih sp L1 m.state)])]) (fun(j,L2,s,t)=>j<=m.state.store.waits.length/\Le L1 L2/\(m.state.store.waits.take j).foldl (Vf x.c.patience i m.ages) ([],x.busy,x.post)=s/\(s.2.1<0->s.2.2=x.post)) (fun(j,_)=>m.state.store.waits.length-j) (0,L1,([],x.busy,x.post),t) ?_ ?_)
 ·exact⟨⟨Af _,.refl _,rfl,fun _=>rfl⟩,Sb7,.refl _⟩
 clear t
 rintro⟨j,L2,s,t⟩ ⟨hj,c,n,J⟩
 conv=>arg 7;dsimp only
 conv=>arg 8;dsimp only
 refine OA 5 ?_
 refine Cy rfl (fun O=>?_) (fun O=>?_)
 ·obtain⟨w,Q⟩:∃w,m.state.store.waits[j]? =some w:=⟨_,Ae (by omega)⟩
  obtain⟨b2,⟨wv,rv,rfl,a6,a4⟩,hrc⟩:=a5.at (s:=5) (fun _ _ ⟨_,_,e,_⟩=>by rw[e];rfl) Q
  obtain⟨xa,xc,rfl,_,_⟩:=a6.sh
  obtain⟨ya,yc,rfl,_,_⟩:=a4.sh
  have hrd:=Reads.pool (hps.le c)
  have hbd:=clnA_bd hx w
  have a3:0<=(x.setB s.2.1 s.2.2).c.patience/\(x.setB s.2.1 s.2.2).c.patience<=1000:=hpat
  have hft:=XW (Vf x.c.patience i m.ages) ([],x.busy,x.post) Q
  rw[n]at hft
  refine CM at0 hrd (hrc 0 _ rfl) fun ad a0=>?_
  subst a0
  refine OA 5 ?_
  refine O1 (Jt j u206) ?_
  refine O1 (YW (j:=j*5) u201 hrd hrc rfl) ?_
  refine O6 (YQ Lx) fun a7=>?_
  refine OA 3 ?_
  refine Cw (.s (.t (.t (.s4 (.t .d))))) rfl (fun j=>Nat.beq j 11) ?_
  intro K
  refine DA [0,1,2,3,4,5,6,7,8] ?_
  refine D1 9 rfl (YK (v':=Cs ((alk w.txn m.ages).getD 0)) (ZF (g:=gI) (z:=gI 0) w.txn u96 u3) EB) ?_
  refine D1 10 rfl SX ?_
  refine Da 11 ?_
  refine D8 rfl (ZK (g:=gI) w.txn (Lt m.ages w) u96 u3) ?_
  refine OA 2 ?_
  refine CQ 105 (6*(x.setB s.2.1 s.2.2).c.patience<Lt m.ages w/\(x.setB s.2.1 s.2.2).busy<0) ?_ ?_
  ·refine Cw (.s3 (.t (.s (.t (.s (.t .d)))))) rfl (fun j=>false) ?_
   intro K
   refine DA [0,1,2] ?_
   refine D1 3 rfl (YK (v':=Cs (Lt m.ages w)) (ZF (g:=gI) (z:=gI 0) w.txn u96 u3) (by rw[EB,DE,Ah rfl];rfl)) ?_
   refine DA [4,5,6,7,8,9,10,11] ?_
   refine Dy 99 rfl (fun P=>?_) (fun P=>?_)
   ·refine DA [12,13,14,15,16,17] ?_
    refine D0 ?_
    exact Ex
   refine DA [12,13,14,15,16,17] ?_
   refine D0 ?_
   exact Ex
  refine Cy rfl (fun f=>?_) (fun f=>?_)
  ·have hsx:=J f.2
   have hst:Vf x.c.patience i m.ages s w=(aset w.txn 0 (aset w.txn (Lt m.ages w) s.1),(i:Int),s.2.2.askA (clnK w)):=Ah f
   rw[hst]at hft
   refine OA 5 ?_
   refine O4 (ZK (g:=gI) w.txn 0 u96 u3) ?_
   refine OA 9 ?_
   refine Cw (.s3 (.t (.s3 (.t .d)))) rfl (fun j=>false) ?_
   intro K
   refine DA [0,1,2,3,4,5,6,7,8,9,10] ?_
   refine Da 11 ?_
   refine DB rfl rfl (en 118) rfl (.p4 (.p0 .d)) (Pp T t L2 s.2.2 pb (by rw[hsx];exact hx.post) (by have:=hx.pb;omega) (clnK w) _ ⟨_,_,rfl,Dx.nil _ _,Dx.nil _ _⟩ ⟨Af _,Af _⟩) ?_
   rintro _ _ ⟨rfl,V,S7,D,rfl⟩
   refine ys (D0 (Tp (.t7 (.t0 (.t0 (.t0 (.t3 (.t0 (.t0 .e))))))) (OA 4 ?_)))
   exact⟨(j+1,V,(aset w.txn 0 (aset w.txn (Lt m.ages w) s.1),(i:Int),s.2.2.askA (clnK w)),S7),⟨⟨by omega,c.trans D,hft,fun q=>absurd q (by show ¬((i:Int)<0);omega)⟩,⟨rfl,rfl,rfl,rfl,rfl,rfl,Dd rfl (by omega),trivial⟩,.refl _⟩,by simp only;omega⟩
  have hst:Vf x.c.patience i m.ages s w=(aset w.txn (Lt m.ages w) s.1,s.2.1,s.2.2):=Aa f
  rw[hst]at hft
  refine Tk (Tp (.t0 (.t0 (.t0 (.t0 (.t0 (.t0 (.t0 .e))))))) (OA 4 ?_))
  exact⟨(j+1,L2,(aset w.txn (Lt m.ages w) s.1,s.2.1,s.2.2),t),⟨⟨by omega,c,hft,J⟩,⟨rfl,rfl,rfl,rfl,rfl,rfl,Dd rfl (by omega),trivial⟩,.refl _⟩,by simp only;omega⟩
 have a1:j=m.state.store.waits.length:=by omega
 subst a1
 rw[BJ]at n
 have n:x.clnF i m=s:=n
 rw[n]
 refine OA 8 ?_
 refine Dk rfl ?_
 refine(Cv.op (.p6 .d)).then fun _ ⟨_,e,e2⟩=>?_
 subst e;subst e2
 refine(Cv.op (.p6 .d)).then fun _ ⟨_,e,e2⟩=>?_
 subst e;subst e2
 refine(Qal (x:=x) (x':=(x.setB s.2.1 s.2.2).setP i (m.aged s.1)) (m:=m.aged s.1) (y:=true) (L:=L2) (.p3 (.p7 (.p7 (.p7 (.p7 (.p3 (.p6 (.p1 (.p5 (.p2 (.p2 (.p2 .d)))))))))))) hL hp (hm.mono fun _ _ h=>h.le (d.trans c)) C rfl rfl rfl (d.trans c) (.refl _) (d.trans c) (d.trans c) c).then fun _ ⟨E,e⟩=>?_
 subst e
 exact(YN (.t2 (.t0 .e))).then fun _ e=>YM ⟨rfl,L2,E,d.trans c,e⟩
theorem Sp.pre{P:Program}{f:FuncId}{vs:V_}{a:Mem}{F:Mem->Prop}{R:Value->Mem->Prop}(hi:∀w0 b_,Cv w0 b_ a F)(hg:∀h,F h->Sp P f vs h R):Sp P f vs a R:=fun w ho=>by
 obtain⟨h',b,o⟩:=hi w _ w ho
 exact Calls.mono (hg h' b w (o.lend (Mo h'))) fun _ _ ⟨v,h1,he,hR,ho1⟩=>⟨v,h1,he,hR,o.called (Mo h') ho1⟩
theorem UA(x:CR):x.less.parts=x.parts:=by unfold CR.less;split<;>rfl
theorem IJ(x:CR)(i:Nat)(m:CU)(o:Vi):(x.do_ i m o).parts=x.parts.set i (m.reset.doneL x.me i o.done).1:=by
 unfold CR.do_;rw[UA];rfl
theorem WN(x:CR)(i:Nat)(m:CU):(x.clean i m).parts.length=x.parts.length:=by
 have h:∀(y:CR) (q:CU),(y.setP i q).parts.length=y.parts.length:=fun y q=>AQ
 unfold CR.clean
 split
 ·exact h x _
 ·split
  ·split
   ·rw[IJ,AQ];exact h x _
   ·exact h x _
  ·exact h _ _
def CR.ticked(x:CR)(i:Nat)(m:CU):CR:=(x.setP i (m.setC m.core.tick.2)).do_ i (m.setC m.core.tick.2) m.core.tick.1
def CR.tk1(x:CR)(i:Nat):CR:=match x.parts[i]? with
 |none=>x
 |some m=>match (x.ticked i m).parts[i]? with
  |none=>x.ticked i m
  |some m'=>(x.ticked i m).clean i m'
def CR.tkL(x:CR):Nat->CR
 |0=>x
 |k+1=>(x.tkL k).tk1 k
def CR.posted(x:CR):CR:={x with post:={x.post.tick with out:=[]},out:=x.out++x.post.tick.out}
def CR.tick(x:CR):CR:=(x.tkL x.parts.length).posted
theorem Hz(x:CR)(i:Nat)(m:CU):(x.ticked i m).parts.length=x.parts.length:=by
 unfold CR.ticked;rw[IJ,AQ];exact AQ
theorem tk1_len(x:CR)(i:Nat):(x.tk1 i).parts.length=x.parts.length:=by
 unfold CR.tk1
 split
 ·rfl
 ·split
  ·exact Hz _ _ _
  ·rw[WN];exact Hz _ _ _
theorem WA(x:CR):∀k,(x.tkL k).parts.length=x.parts.length
 |0=>rfl
 |k+1=>(tk1_len _ _).trans (WA x k)
theorem UG{x:CR}{i:Nat}{m m':CU}(h:x.parts[i]? =some m)(h':(x.ticked i m).parts[i]? =some m'):x.tk1 i=(x.ticked i m).clean i m':=by
 unfold CR.tk1;rw[h];dsimp only;rw[h']
structure CR.TkOk(x:CR)(i:Nat)(m:CU)(b N pb:Nat):Prop where
 fit:m.core.Fit b
 bb:b<60000000
 idle:m.core.idle<1099511627776
 do_:(x.setP i (m.setC m.core.tick.2)).DoOk i m.core.tick.1 (m.setC m.core.tick.2) b N
 cln:∀m',(x.ticked i m).parts[i]? =some m'->(x.ticked i m).ClnOk i m' b N pb
structure CR.TicOk(x:CR)(b N pb:Nat):Prop where
 tk:∀i m,i<x.parts.length->(x.tkL i).parts[i]? =some m->(x.tkL i).TkOk i m b N pb
 post:(x.tkL x.parts.length).post.Fit pb
 pb:pb<1000000000
 out:(x.tkL x.parts.length).out.length+(x.tkL x.parts.length).post.tick.out.length<=1000000000
 parts:x.parts.length<=4
theorem GP{c:A_}{pc:Nat}{ps:N_}(p b:Nat)(S:N_)(L:PL)(x:CR):Sp P0 18 [Cr p] [cm S (Jn c pc ps true p b L x)] fun v h=>v= .bool false/\∃f,h=[cm f (Jn c pc ps true p b L x)]:=
 Sp.pre (fun _ _=>Qaf (.p0 .d)) fun _ ⟨i,pp,oa,oc,mcs,d,S1,S2,S3,S4,⟨hL,hp,hm⟩,e⟩=>by
  subst e
  exact((Jw p b i pp x _ _ S1 L).frame (.p0 (.p2 .d))).imp fun _ _ v h ⟨_,⟨h1,S5,h2⟩,h3⟩=>by
   subst h1 h2 h3
   exact(ZW (y:=true) (.p5 (.p0 (.p0 (.p3 (.p0 (.p0 (.p0 .d))))))) hL hp hm).then fun _ ⟨g,e⟩=>YM ⟨rfl,g,e⟩
theorem TK{k:A_}{pc:Nat}{ps:N_}(p n:Nat)(S:N_)(L:PL)(x:CR)(b N O:Nat)(hx:x.TicOk b N O):
  Sp P0 20 [Cr p] [cm S (Jn k pc ps true p n L x),pool L] fun v h=>v= .tuple #[]/\∃L' W,Le L L'/\h=[cm W (Jn k pc ps true p n L' x.tick),pool L']:=by
 have hpl:=hx.parts
 refine Sq Tryz.func20 fun w0 b_=>?_
 refine OA 4 ?_
 refine Oc rfl (en 18) rfl (.p0 .d) (GP p n S L x) ?_
 rintro _ _ ⟨rfl,S,rfl⟩
 refine On (CE rfl (fun A=>?_) (fun A=>?_))
 ·cases A
 refine Cx (Qaf (.p1 .d)) ?_
 rintro _ ⟨K,D,oa,oc,mcs,d,Q,l,E,R,⟨hL,hp,hm⟩,rfl⟩
 refine OA 11 ?_
 refine Tx (ZW (y:=true) (.p1 (.p1 (.p1 (.p1 (.p1 (.p1 (.p1 .d))))))) hL hp hm) fun l=>Tp (.t1 (.t0 .e)) (Tb (CD (fun((j,L2,l):Nat×PL×N_)=>[(0,Cr p),(9,.slice k x.parts.length pc),(10,Cs x.parts.length),(11,Cs j)]) (fun(j,L2,l)=>[cm l (Jn k pc ps true p n L2 (x.tkL j)),pool L2]) (fun(j,L2,l)=>j<=x.parts.length/\Le L L2) (fun(j,_)=>x.parts.length-j) (0,L,l) ?_ ?_))
 ·exact⟨⟨Af _,.refl _⟩,Sb4,.refl _⟩
 clear l
 rintro⟨j,L2,l⟩ ⟨hj,s⟩
 conv=>arg 7;dsimp only
 conv=>arg 8;dsimp only
 refine OA 5 ?_
 refine Cy rfl (fun u=>?_) (fun u=>?_)
 ·have htl:=WA x j
  obtain⟨m,f⟩:∃m,(x.tkL j).parts[j]? =some m:=⟨_,Ae (by omega)⟩
  have hk:=hx.tk j m (by omega) f
  obtain⟨y,hy⟩:∃y,y=x.tkL j:=⟨_,rfl⟩
  rw[<-hy]at f hk htl ⊢
  have J:(.slice k x.parts.length pc:Value)= .slice k y.parts.length pc:=by rw[htl]
  rw[J]
  refine Cx (Cv.cpO (.p0 .d) f) ?_
  rintro _ ⟨K,D,oa,oc,mcs,d,q,Z,sp,wb,ab,Q,E,R,T,U,Sh,⟨hL,hp,hm,t⟩,rfl⟩
  have hg:=FV t
  refine CO (fun w hw=>hw.sqNN (ao:=k) at2 (by omega)) fun⟨g,hgg⟩=>?_
  subst hgg
  refine OA 6 ?_
  refine O1 (Km j u90) ?_
  refine O1 (YV u101 hg) ?_
  refine OA 3 ?_
  obtain⟨k,hpa⟩:∃k,k=(some ⟨g,0,none⟩:A_):=⟨_,rfl⟩
  rw[<-hpa]
  refine OA 8 ?_
  refine Oc rfl (en 52) rfl (.p11 (.p0 .d)) (Xu Z U L2 m.core b hk.fit (by have:=hk.bb;omega) hk.idle) ?_
  rintro _ _ ⟨r,U,a6,c,⟨ra,ma,da,rc,mc,dc,a7,a5,a0,rfl,rfl,hr,I,hd⟩,rfl⟩
  refine CL (Qal (x:=y) (x':=y.setP j (m.setC m.core.tick.2)) (m:=m.setC m.core.tick.2) (y:=true) (L:=r) (.p0 (.p0 (.p0 (.p0 (.p0 (.p0 (.p0 (.p0 (.p0 (.p0 (.p1 (.p0 .d)))))))))))) hL hp (hm.mono fun _ _ h=>h.le c) t rfl rfl rfl c c c (.refl _) c) ?_
  rintro _ ⟨Y,rfl⟩
  refine Oc rfl (en 51) rfl (.p4 (.p0 (.p0 (.p0 (.p0 .d))))) (My p n Y r _ j m.core.tick.1 (m.setC m.core.tick.2) b N (HI f) hk.do_ _ _ (QR.of (.refl _) hr I hd)) ?_
  rintro _ _ ⟨rfl,P,S10,F,rfl⟩
  refine On ?_
  have htk:=Hz y j m
  obtain⟨m',i⟩:∃m',(y.ticked j m).parts[j]? =some m':=⟨_,Ae (by omega)⟩
  have hcl:=hk.cln m' i
  have hnx:x.tkL (j+1)=(y.ticked j m).clean j m':=by show(x.tkL j).tk1 j=_;rw[<-hy];exact UG f i
  refine OA 4 ?_
  refine Oc rfl (en 18) rfl (.p0 .d) (GP p n S10 P (y.ticked j m)) ?_
  rintro _ _ ⟨rfl,S11,rfl⟩
  refine On (CE rfl (fun o=>?_) (fun o=>?_))
  ·cases o
  refine OA 4 ?_
  refine Oc rfl (en 53) rfl (.p1 (.p0 .d)) (UY p n S11 P (y.ticked j m) j m' b N O i hcl) ?_
  rintro _ _ ⟨rfl,V,S12,G,rfl⟩
  refine OA 5 ?_
  exact⟨(j+1,V,S12),⟨⟨by omega,s.trans (c.trans (F.trans G))⟩,⟨rfl,rfl,rfl,Dd rfl (by omega),trivial⟩,by dsimp only;rw[hnx];exact .refl _⟩,by simp only;omega⟩
 have H:j=x.parts.length:=by omega
 subst H
 obtain⟨y,hy⟩:∃y,y=x.tkL x.parts.length:=⟨_,rfl⟩
 have hpf:=hx.post;have hpb:=hx.pb;have hxo:=hx.out
 rw[show x.tick=(x.tkL x.parts.length).posted from rfl]
 rw[<-hy]at hpf hxo ⊢
 refine Cx (Qaf (.p0 .d)) ?_
 rintro _ ⟨K,D,oa,oc,mcs,d,Q,l,E,R,⟨hL,hp,hm⟩,rfl⟩
 refine OA 7 ?_
 refine Oc rfl (en 54) rfl (.p6 (.p0 .d)) (JF D E L2 y.post O hpf (by omega)) ?_
 rintro _ _ ⟨rfl,r,T,c,rfl⟩
 refine On (Cw (.t .d) rfl (fun j=>Nat.beq j 13) ?_)
 intro a1
 refine DA [0,1,2,3,4,5,6,7,8] ?_
 refine Da 9 ?_
 refine DB rfl rfl (en 55) rfl (.p6 .d) (Nu D T r y.post.tick) ?_
 rintro _ _ ⟨S6,a2,a4,C,rfl,hm2,rfl⟩
 refine ys (Da 10 ?_)
 refine D6 rfl (ZH (ao:=oa) YB .sq (hl:=hm2.len Gu.len) (h1:=Gu.one hm2)) ?_
 rintro _ _ ⟨a3,M,rfl,rfl⟩
 refine ys (D2 11 rfl (fun _=>Hl) ?_)
 refine D1 12 rfl (Ct.fld 7 22 22 u93) ?_
 refine Da 13 ?_
 refine D8 rfl YO ?_
 refine D0 (Dk rfl ?_)
 refine(Cv.up (B:=Ey K n r y.log) s3 (Ey.le c)).then fun _ e=>?_
 subst e
 refine(Cv.up (B:=DH (Fe r) ps y.parts) s5 (fun _ h=>h.mono fun _ _ _ h=>Fe.le c _ h)).then fun _ e=>?_
 subst e
 rw[show y.out.length+y.post.tick.out.length=y.posted.out.length from Ac.symm]
 refine(ZW (x:=y.posted) (y:=true) (mcs:=mcs++C) (oc:=M) (.p0 (.p0 (.p0 (.p0 (.p0 (.p2 (.p0 .d))))))) hL hp ((hm.mono fun _ _ h=>h.le c).append hm2)).then fun _ ⟨X,e⟩=>?_
 subst e
 exact(YN (.t2 (.t0 .e))).then fun _ e=>YM ⟨rfl,r,X,s.trans c,e⟩
def CU.toldE(m:CU)(e:NY):CU:={m with told:=e,tell:=true}
def refM(me b view:Int)(m:Db):Db:={CY 7 with from_:=me,to:=m.from_,shard:=m.shard,id:=m.id,err:=50,view:=FM view b}
def CR.refuse(x:CR)(m:Db)(q:CU):CR:=x.says [refM x.me x.c.nodes q.core.keep.view m]
def CU.noP(q:CU)(d:N_):CU:=q.setC (q.core.propose d).2.2.2
def CU.inC(q:CU)(m:Db):CU:=q.setC (q.core.in_ m).2
def CR.inT(x:CR)(m:Db):CR:=
 if(x.post.in_ m).2.2=true/\0<=x.busy then
  match x.parts[x.busy.toNat]? with
  |none=>x
  |some q=>(x.setB (-1) (x.post.in_ m).1).setP x.busy.toNat (q.toldE (x.post.in_ m).2.1.fin)
 else x.setB x.busy (x.post.in_ m).1
def CR.inP(x:CR)(m:Db)(i:Nat)(q:CU):CR:=
 if m.kind=6 then
  if(x.propose i q m.data (m.from_,m.id)).1=true then (x.propose i q m.data (m.from_,m.id)).2
  else (x.setP i (q.noP m.data)).refuse m (q.noP m.data)
 else (x.setP i (q.inC m)).do_ i (q.inC m) (q.core.in_ m).1
def CR.in_(x:CR)(m:Db):CR:=
 if m.to≠x.me then x
 else if m.kind=7 then x.inT m
 else if m.shard<0∨(x.parts.length:Int)<=m.shard then x
 else match x.parts[m.shard.toNat]? with
  |none=>x
  |some q=>x.inP m m.shard.toNat q
structure CR.InOk(x:CR)(m:Db)(b N pb:Nat):Prop where
 post:x.post.Fit pb
 data:m.data.length<=1048576
 view:m.view<=1099511627776
 busy:x.busy<x.parts.length
 parts:x.parts.length<=4
 nodes:x.c.nodes<=7
 out:x.out.length<=1000000
 bb:b<60000000
 mfit:m.Fit
 at_:m.at_<=1099511627776
 part:∀(i:Nat) q,m.to=x.me->m.kind≠7->m.shard=(i:Int)->x.parts[i]? =some q->q.core.Fit b/\
  (m.kind=6->(q.core.propose m.data).2.2.2.Fit b/\((q.core.propose m.data).2.2.1=0->(x.setP i (q.asked m.data (m.from_,m.id))).DoOk i (q.core.propose m.data).2.1 (q.asked m.data (m.from_,m.id)) b N))/\
  (m.kind≠6->(x.setP i (q.inC m)).DoOk i (q.core.in_ m).1 (q.inC m) b N)
theorem VC{x:CR}{i:Nat}{q:CU}{d:N_}{w:Int×Int}(h:¬(x.propose i q d w).1=true):(x.propose i q d w).2=x.setP i (q.noP d):=by
 unfold CR.propose at h ⊢
 split
 ·rfl
 ·rename_i e
  rw[Aa e]at h
  exact absurd rfl h
theorem in_part{x:CR}{m:Db}{i:Nat}{q:CU}(h1:m.to=x.me)(h2:m.kind≠7)(h3:m.shard=(i:Int))(h4:x.parts[i]? =some q):x.in_ m=x.inP m i q:=by
 have hl:=(Ab.1 h4).1
 unfold CR.in_
 rw[Aa (fun q=>q h1),Aa h2,Aa (by omega),show m.shard.toNat=i by omega,h4]
theorem Xf{O:A_}{pc:Nat}{ps:N_}(p E:Nat)(S:N_)(L:PL)(x:CR)(m:Db)(b N pb:Nat)(hx:x.InOk m b N pb)(W dv:Value)(hl:EI L W m.list)(hd:Bs L dv m.data):
  Sp P0 136 [Cr p,.agg (GL m W dv).toArray] [cm S (Jn O pc ps true p E L x),pool L] fun v h=>v= .tuple #[]/\∃L' S',Le L L'/\h=[cm S' (Jn O pc ps true p E L' (x.in_ m)),pool L']:=by
 have hpl:=hx.parts
 obtain⟨xa,xc,rfl,_,_⟩:=hl.sh
 obtain⟨ya,yc,rfl,_,_⟩:=hd.sh
 refine Sq Tryz.func136 fun w0 b_=>?_
 refine OA 2 ?_
 refine O6 YR fun b3=>?_
 refine On (Cx (Qaf (.p0 .d)) ?_)
 rintro _ ⟨U,Q,oa,oc,mcs,dk,S1,S2,X,S4,⟨hL,hp,hm⟩,rfl⟩
 refine OA 2 ?_
 refine Cw (.s (.t (.t .d))) rfl (fun j=>false) ?_
 intro t
 refine D1 0 rfl DC ?_
 refine Da 1 ?_
 refine DB rfl rfl (en 18) rfl (.p2 (.p4 .d)) (Jw p E U Q x _ _ S1 L) ?_
 rintro _ _ ⟨rfl,S5,rfl⟩
 refine ys (DA [2,3,4,5,6,7,8,9,10] ?_)
 refine D0 (CH rfl (fun u=>?_) (fun u=>?_))
 ·rw[show x.in_ m=x from Ah u]
  refine Tx (ZW (y:=true) (.p7 (.p2 (.p2 (.p5 (.p2 (.p2 (.p2 .d))))))) hL hp hm) fun s=>Tp (.t2 (.t0 .e)) ?_
  exact Cu (JY rfl (.refl _) ⟨rfl,L,s,.refl _,rfl⟩)
 have hto:m.to=x.me:=u
 refine OA 9 ?_
 refine Cy rfl (fun l=>?_) (fun l=>?_)
 ·have a0:x.in_ m=x.inT m:=by unfold CR.in_;rw[Aa (fun q=>q hto),Ah l]
  rw[a0]
  refine Ts (CP (fun((b4,L1,G,I,J):Nat×PL×N_×A_×Nat)=>[(0,Cr p),(3,Cr b3),(4,Cr b4),(5,.bool (x.post.in_ m).2.2)]) (fun(b4,L1,G,I,J)=>[pool L1,Mg p x U Q (.slice O x.parts.length pc) (.slice oa x.out.length oc),sq O x.parts.length pc 101 1 (ps.map DG),sq oa x.out.length oc 138 12 mcs,cm S5 (Ey U E L x.log),cm S2 (DZ E dk),cm G (DV Q L1 (x.post.in_ m).1),cm S4 (DH (Fe L) ps x.parts),blk b4 (.cells (Ue (x.post.in_ m).2.1 (.slice I ((x.post.in_ m).2.1).vals.length J)).toArray 193 (0,0)),blk b3 (.cells (GL m (.slice xa m.list.length xc) (.slice ya m.data.length yc)).toArray 138 (0,0))]) (fun(b4,L1,G,I,J)=>Le L L1) ?_ ?_)
  ·refine Cw (.s (.t (.s5 (.t .d)))) rfl (fun j=>Nat.beq j 10 || Nat.beq j 11) ?_
   intro t
   refine DA [0,1,2,3,4] ?_
   refine Jy 5 9 ?_ ?_
   ·refine DB rfl rfl (en 183) rfl (.p5 (.p0 .d)) (Np Q X L x.post pb hx.post m _ _ hl hd hx.data hx.view) ?_
    rintro _ _ ⟨L1,G,cs,c,rfl,⟨vv,rfl,M⟩,hvl,rfl⟩
    refine ys ?_
    obtain⟨I,J,rfl,_,_⟩:=M.sh
    refine DA [6,7] ?_
    refine D2 8 rfl (fun _=>Yo) ?_
    refine Da 9 ?_
    refine D6 rfl (YQ Ib) ?_
    rintro _ _ ⟨b4,rfl,rfl⟩
    refine ys (Da 10 ?_)
    refine D8 rfl YO ?_
    refine Di (YN (.t8 (.t5 (.t1 (.t1 (.t3 (.t1 (.t2 (.t1 (.t1 (.t0 .e))))))))))) ?_
    refine D2 11 rfl (fun _=>FC) ?_
    refine D0 ?_
    exact⟨(b4,L1,G,I,J),c,Sb4,.refl _⟩
   refine D6 rfl (YQ Ib) ?_
   rintro _ _ ⟨b4,rfl,rfl⟩
   refine ys (Da 5 ?_)
   refine DB rfl rfl (en 183) rfl (.p5 (.p0 .d)) (Np Q X L x.post pb hx.post m _ _ hl hd hx.data hx.view) ?_
   rintro _ _ ⟨L1,G,cs,c,rfl,⟨vv,rfl,M⟩,hvl,rfl⟩
   refine ys ?_
   obtain⟨I,J,rfl,_,_⟩:=M.sh
   refine DA [6,7] ?_
   refine D2 8 rfl (fun _=>Yo) ?_
   refine Da 10 ?_
   refine D8 rfl YO ?_
   refine Di (YN (.t9 (.t5 (.t1 (.t1 (.t3 (.t1 (.t3 (.t1 (.t1 (.t0 .e))))))))))) ?_
   refine D2 11 rfl (fun _=>FC) ?_
   refine D0 ?_
   exact⟨(b4,L1,G,I,J),c,Sb4,.refl _⟩
  rintro⟨b4,L1,G,I,J⟩ c
  replace c:Le L L1:=c
  conv=>arg 4;dsimp only
  conv=>arg 5;dsimp only
  refine Ts (CQ 55 ((x.post.in_ m).2.2=true/\0<=x.busy) ?_ ?_)
  ·refine OA 3 ?_
   refine Df 49 rfl (fun C=>?_) (fun C=>?_)
   ·refine OA 7 ?_
    (refine Zt (And.intro (by (repeat' (first|exact trivial|refine⟨rfl,?_⟩))) (And.intro ?_ rfl));exact CT rfl (congrArg Value.bool (by simp[C])))
   refine OA 7 ?_
   (refine Zt (And.intro (by (repeat' (first|exact trivial|refine⟨rfl,?_⟩))) (And.intro ?_ rfl));exact CT rfl (congrArg Value.bool (by simp[C])))
  refine Cy rfl (fun D=>?_) (fun D=>?_)
  ·have hxb:=hx.busy
   obtain⟨j,hj⟩:∃j:Nat,x.busy=(j:Int):=⟨x.busy.toNat,by omega⟩
   obtain⟨q,R⟩:∃q,x.parts[j]? =some q:=⟨_,Ae (by omega)⟩
   obtain⟨qp,f⟩:∃q,ps[j]? =some q:=⟨_,Ae (by omega)⟩
   have a1:x.inT m=(x.setB (-1) (x.post.in_ m).1).setP j (q.toldE ((x.post.in_ m).2.1).fin):=by
    unfold CR.inT
    rw[Ah D,show x.busy.toNat=j by omega,R]
   rw[a1]
   have hg:=FV f
   refine Cx (ZC (.p7 .d) f R) ?_
   rintro _ ⟨S7,S8,rfl⟩
   refine Cx (QaC (.p9 .d)) ?_
   rintro _ ⟨V,sp,wb,ab,P,Y,rfl⟩
   refine CO (fun w hw=>hw.sqNN (ao:=O) at2 (by omega)) fun⟨g,hgg⟩=>?_
   subst hgg
   refine Ts (Cw (.s (.t (.t .d))) rfl (fun j=>false) ?_)
   intro t
   refine DA [0,1,2,3,4,5,6] ?_
   refine D1 7 rfl (YK (v':=Cs (j:Int)) (Zi u3) (by rw[hj])) ?_
   refine D1 8 rfl (Km j u90) ?_
   refine D1 9 rfl (YV u101 hg) ?_
   refine D1 10 rfl FC ?_
   refine OA 20 ?_
   refine Dk rfl ?_
   refine(Qal (x:=x) (x':=(x.setB (-1) (x.post.in_ m).1).setP j (q.toldE ((x.post.in_ m).2.1).fin)) (m:=q.toldE ((x.post.in_ m).2.1).fin) (y:=true) (L:=L1) (.p1 (.p1 (.p1 (.p1 (.p1 (.p1 (.p3 (.p3 (.p3 (.p3 (.p3 (.p3 .d)))))))))))) hL hp (hm.mono fun _ _ h=>h.le c) f rfl rfl rfl c (.refl _) c c c).then fun _ ⟨s,e⟩=>?_
   subst e
   exact(YN (.t3 (.t0 .e))).then fun _ e=>YM ⟨rfl,L1,s,c,e⟩
  rw[show x.inT m=x.setB x.busy (x.post.in_ m).1 from Aa D]
  refine Tk (Dk rfl ?_)
  refine(Cv.up (B:=Ey U E L1 x.log) s4 (Ey.le c)).then fun _ e=>?_
  subst e
  refine(Cv.up (B:=DH (Fe L1) ps x.parts) s7 (fun _ h=>h.mono fun _ _ _ h=>Fe.le c _ h)).then fun _ e=>?_
  subst e
  refine(ZW (x:=x.setB x.busy (x.post.in_ m).1) (y:=true) (.p1 (.p1 (.p1 (.p1 (.p1 (.p1 (.p1 .d))))))) hL hp (hm.mono fun _ _ h=>h.le c)).then fun _ ⟨s,e⟩=>?_
  subst e
  exact(YN (.t3 (.t0 .e))).then fun _ e=>YM ⟨rfl,L1,s,c,e⟩
 refine Ts (CQ 77 (m.shard<0∨(x.parts.length:Int)<=m.shard) ?_ ?_)
 ·refine Cw (.s (.t (.s5 (.t .d)))) rfl (fun j=>false) ?_
  intro t
  refine DA [0,1,2,3] ?_
  refine Dy 81 rfl (fun T=>?_) (fun T=>?_)
  ·refine DA [4,5,6,7,8,9,10,11,12,13] ?_
   refine D0 ?_
   exact Ex
  refine DA [4,5,6,7,8,9,10,11,12,13] ?_
  refine D0 ?_
  exact Ex
 refine Cy rfl (fun H=>?_) (fun H=>?_)
 ·rw[show x.in_ m=x by unfold CR.in_;rw[Aa (fun q=>q hto),Aa l,Ah H]]
  refine Tk (Dk rfl ?_)
  refine(ZW (y:=true) (.p7 (.p2 (.p2 (.p5 (.p2 (.p2 (.p2 .d))))))) hL hp hm).then fun _ ⟨s,e⟩=>?_
  subst e
  exact(YN (.t2 (.t0 .e))).then fun _ e=>YM ⟨rfl,L,s,.refl _,e⟩
 obtain⟨i,r⟩:∃i:Nat,m.shard=(i:Int):=⟨m.shard.toNat,by omega⟩
 obtain⟨q,o⟩:∃q,x.parts[i]? =some q:=⟨_,Ae (by omega)⟩
 rw[in_part hto l r o]
 obtain⟨hf,a4,hdo⟩:=hx.part i q hto l r o
 have hbb:=hx.bb
 refine OA 7 ?_
 refine Cy rfl (fun n=>?_) (fun n=>?_)
 ·obtain⟨K,a3⟩:=a4 n
  rw[show x.inP m i q=if(x.propose i q m.data (m.from_,m.id)).1=true then (x.propose i q m.data (m.from_,m.id)).2 else (x.setP i (q.noP m.data)).refuse m (q.noP m.data) from Ah n]
  refine Tx (ZW (y:=true) (.p7 (.p2 (.p2 (.p5 (.p2 (.p2 (.p2 .d))))))) hL hp hm) fun s=>OA 4 ?_
  refine O1 (YK (v':=Cs (i:Int)) (Zi u3) (by rw[r])) ?_
  refine OA 7 ?_
  refine Oc rfl (en 184) rfl (.p2 (.p0 .d)) (Oj p E s L x i q b N m.data ya yc hd (m.from_,m.id) o hf K (by omega) a3) ?_
  rintro _ _ ⟨rfl,L1,S10,c,rfl⟩
  refine OA 2 ?_
  refine Df 107 rfl (fun d=>?_) (fun d=>?_)
  ·have F:¬(x.propose i q m.data (m.from_,m.id)).1=true:=fun e=>by rw[e]at d;cases d
   rw[Aa F,VC F]
   have EQ:=HI (m':=q.noP m.data) o
   have hout:(x.setP i (q.noP m.data)).out.length<=1000000:=hx.out
   refine O1 DC ?_
   refine Oc rfl (en 18) rfl (.p1 .d) (GP p E _ L1 _) ?_
   rintro _ _ ⟨rfl,S11,rfl⟩
   refine OA 3 ?_
   refine Cx (Cv.cpO (.p2 .d) EQ) ?_
   rintro _ ⟨U,Q,oa,oc,mcs,dk,qp,V,sp,wb,ab,S1,S2,X,S4,P,Y,⟨hL,hp,hm,f⟩,rfl⟩
   have hg:=FV f
   refine CO (fun w hw=>hw.sqNN (ao:=O) at3 (by omega)) fun⟨g,hgg⟩=>?_
   subst hgg
   refine Tyy rfl ?_
   refine Cw (.t (.s (.t (.t (.s5 (.t .d)))))) rfl (fun j=>Nat.beq j 39) ?_
   intro t
   refine DA [0,1,2,3,4,5,6,7,8,9,10,11,12,13,14,15,16,17,18,19] ?_
   refine D1 20 rfl (YK (v':=Cs (i:Int)) (Zi u3) (by rw[r])) ?_
   refine D1 21 rfl (Km i u90) ?_
   refine D1 22 rfl (YV u101 hg) ?_
   refine DA [23,24,25,28,29,30,31,32] ?_
   refine Da 26 ?_
   refine DB rfl rfl (en 10) rfl (.p12 (.p1 .d)) (FO V P L1 (q.noP m.data).core b K) ?_
   rintro _ _ ⟨L2,P,W,k,hlv,rfl,rfl⟩
   refine ys (Dp (YL (.p9 (.p9 (.p9 .d))) (A:=fun rs=>rs=[Dm wb gQ (q.noP m.data).wants,Dm ab gI (q.noP m.data).ages,cm Y (Ih sp L1 (q.noP m.data).state)]) rfl) ?_)
   rintro _ ⟨Sw,rfl⟩
   refine D1 27 rfl (Ct.field (cs:=[Cs (q.noP m.data).core.keep.view,Cs (q.noP m.data).core.keep.normal,W]) 0 rfl rfl u42 rfl u3 rfl rfl) ?_
   refine Da 33 ?_
   refine Gz rfl (Zc rfl (en 153) rfl (Ga (q.noP m.data).core.keep.view x.c.nodes K.view.1 (by have:=hx.nodes;omega))) ?_
   refine D1 34 rfl (Xb bt138.h) ?_
   refine Da 35 ?_
   refine D6 rfl (YY u73) ?_
   rintro _ _ ⟨a5,rfl,rfl⟩
   refine ys (Da 36 ?_)
   refine D6 rfl (LO.app (ao:=oa) YB) ?_
   rintro _ _ ⟨a7,a8,rfl,rfl⟩
   refine ys (D5 37 [(39,[38])] rfl Hl ?_)
   refine D1 38 rfl (Ct.fld 7 22 22 u93) ?_
   refine Da 39 ?_
   refine D8 rfl YO ?_
   refine D0 (Dk rfl ?_)
   refine(Cv.op (.p11 .d)).then fun _ ⟨_,e,e2⟩=>?_
   subst e;subst e2
   refine(Qal (x:=x.setP i (q.noP m.data)) (x':=(x.setP i (q.noP m.data)).refuse m (q.noP m.data)) (m:=q.noP m.data) (y:=true) (L:=L2) (.p1 (.p1 (.p1 (.p1 (.p1 (.p1 (.p1 (.p1 (.p4 (.p4 (.p1 (.p3 .d)))))))))))) hL hp ((hm.mono fun _ _ h=>h.le k).snoc ⟨_,_,rfl,EI.nil _,Bs.nil _⟩) f (Dc EQ).symm rfl (by show _=(_++[_]).length;rw[Ac];rfl) k k k (.refl _) k).then fun _ ⟨S12,e⟩=>?_
   subst e
   exact(YN (.t3 (.t1 .e))).then fun _ e=>YM ⟨rfl,L2,S12,c.trans k,e⟩
  have F:(x.propose i q m.data (m.from_,m.id)).1=true:=by cases e:(x.propose i q m.data (m.from_,m.id)).1;rw[e]at d;cases d;rfl
  rw[Ah F]
  refine OA 7 ?_
  refine Dk rfl ?_
  exact(YN (.t1 (.t1 .e))).then fun _ e=>YM ⟨rfl,L1,S10,c,e⟩
 rw[show x.inP m i q=(x.setP i (q.inC m)).do_ i (q.inC m) (q.core.in_ m).1 from Aa n]
 obtain⟨qp,f⟩:∃q,ps[i]? =some q:=⟨_,Ae (by omega)⟩
 have hg:=FV f
 refine Cx (ZC (.p6 .d) f o) ?_
 rintro _ ⟨S7,S8,rfl⟩
 refine Cx (QaC (.p8 .d)) ?_
 rintro _ ⟨V,sp,wb,ab,P,Y,rfl⟩
 refine CO (fun w hw=>hw.sqNN (ao:=O) at2 (by omega)) fun⟨g,hgg⟩=>?_
 subst hgg
 refine Cw (.s (.t (.t (.s3 (.t (.s2 (.t .d))))))) rfl (fun j=>Nat.beq j 16) ?_
 intro t
 refine D1 0 rfl DC ?_
 refine D5 1 [(16,[2])] rfl (Ct.fld 3 3 3 u138) ?_
 refine D1 2 rfl (YK (v':=Cs (i:Int)) (Zi u3) (by rw[r])) ?_
 refine D5 3 [(16,[15,13,12,11,10,9,6,5,4])] rfl DC ?_
 refine D5 4 [(16,[15,13,12,11,10,9,6,5])] rfl Hl ?_
 refine D5 5 [(16,[15,13,12,11,10,9,6])] rfl (Ct.fld 3 18 18 u93) ?_
 refine D5 6 [(16,[15,13,12,11,10,9])] rfl (Zi u90) ?_
 refine D5 7 [(16,[15,13,12,11,10,9,8])] rfl (Ct.fld 3 3 3 u138) ?_
 refine D5 8 [(16,[15,13,12,11,10,9])] rfl (YK (v':=Cs (i:Int)) (Zi u3) (by rw[r])) ?_
 refine D5 9 [(16,[15,13,12,11,10])] rfl (Km i u90) ?_
 refine D5 10 [(16,[15,13,12,11])] rfl (YV u101 hg) ?_
 refine D5 11 [(16,[15,13,12])] rfl Hl ?_
 refine D5 12 [(16,[15,13])] rfl (Ct.fld 0 0 0 u100) ?_
 refine D5 13 [(16,[15])] rfl (Zi u43) ?_
 refine D5 14 [(16,[15])] rfl (ZX 12 u138) ?_
 refine Da 15 ?_
 refine DB rfl rfl (en 185) rfl (.p12 (.p0 .d)) (in_spec V P L q.core b hf hbb m hx.mfit hx.at_ _ _ hl hd) ?_
 rintro _ _ ⟨L1,P,b0,c,⟨ra,ma,da,rc,mc,dc,b1,a9,a6,rfl,rfl,hr,a2,Z⟩,rfl⟩
 refine ys (Da 16 ?_)
 refine Ew (Qal (x:=x) (x':=x.setP i (q.inC m)) (m:=q.inC m) (y:=true) (L:=L1) (.p5 (.p1 (.p1 (.p3 (.p1 (.p1 (.p1 (.p1 (.p1 (.p1 (.p2 (.p1 .d)))))))))))) hL hp (hm.mono fun _ _ h=>h.le c) f rfl rfl rfl c c c (.refl _) c) ?_
 rintro _ ⟨s,rfl⟩
 refine DB rfl rfl (en 51) rfl (.p5 (.p1 (.p1 (.p1 (.p1 .d))))) (My p E s L1 _ i (q.core.in_ m).1 (q.inC m) b N (HI o) (hdo n) _ _ (QR.of (.refl _) hr a2 Z)) ?_
 rintro _ _ ⟨rfl,L2,S10,k,rfl⟩
 refine yk ?_
 refine D0 (Dk rfl ?_)
 exact(YN (.t1 (.t1 .e))).then fun _ e=>YM ⟨rfl,L2,S10,c.trans k,e⟩
theorem Hm{w:CF}{x k:Nat}(hx:x+1<2 ^ k)(b:x<18446744073709551615):(w.num x).n+1<=w.n+2*k:=by
 obtain⟨m,h1,h2,h3,_⟩:=JA (x:=x)
 have hm:m<k:=by
  rcases Ca m k with h|h
  ·exact h
  ·have:=BN (show 0<2 by decide) h
   omega
 unfold CF.num
 rw[Aa (by omega)]
 simp only[ZT]
 omega
theorem DI{w:CF}{x:Int}{k:Nat}(h0:0<=x)(hk:2*x+1<(2 ^ k:Nat))(b:x<4611686018427387904):(w.int x).n+1<=w.n+2*k:=by
 obtain⟨y,rfl⟩:=Cg h0
 unfold CF.int
 rw[WF (by omega)]
 exact Hm (by omega) (by omega)
theorem putB_len{i:Nat}(hi:i<=3){b:N_}(hb:b.length<=40):(Dj i (JE b)).length<=4+b.length:=by
 have h:=(IH (i:Int) (JE b) (by show b.length<_;omega)).1.len
 have e1:=DI (w:=EV) (x:=(i:Int)) (k:=3) (by omega) (by omega) (by omega)
 have e2:=DI (w:=EV.int i) (x:=2) (k:=3) (by decide) (by decide) (by decide)
 have e3:=DI (w:=(EV.int i).int 2) (x:=0) (k:=1) (by decide) (by decide) (by decide)
 have e4:=DI (w:=((EV.int i).int 2).int 0) (x:=0) (k:=1) (by decide) (by decide) (by decide)
 have e5:=Hm (w:=(((EV.int i).int 2).int 0).int 0) (x:=b.length) (k:=6) (by omega) (by omega)
 have e0:EV.n=0:=rfl
 have hn:(Jl (i:Int) (JE b)).n=(((((EV.int i).int 2).int 0).int 0).num b.length).n:=rfl
 unfold Dj
 rw[Ac,h,hn]
 show _+b.length<=_
 omega
theorem MA{i:Int}{r:HY}(h:r.Sm):(Dj i r).length<=121/\Eu (Dj i r):=by
 have h1:=h.2.2.2.1
 have:=IS i r (by omega)
 exact⟨by omega,by unfold Dj;exact(IH i r (by omega)).1.byt.append h.2.2.2.2⟩
theorem Si(x:N_):(Fu x).length=2+x.length:=by simp[Fu];omega
theorem Ri{x:N_}(h:Eu x):Eu (Fu x):=by
 unfold Fu
 refine Eu.append (fun y hy=>?_) h
 simp only[List.mem_cons,List.not_mem_nil,or_false]at hy
 rcases hy with rfl|rfl<;>omega
theorem OB{i:Nat}(hi:i<=3):∀ {bs:List N_},(∀b∈bs,Je b)->(Id i bs).length<=46*bs.length/\Eu (Id i bs)
 |[],_=>⟨Al _,fun _ h=>by cases h⟩
 |b::bs,h=>by
  obtain⟨h1,h2⟩:=OB hi fun x hx=>h x (Aw _ hx)
  have hb:=h b Ar
  have h3:=putB_len hi hb.1
  have h4:=Si (Dj i (JE b))
  have:=hb.1
  refine⟨?_,(Ri (MA (r:=JE b) ⟨iz2,iz0,iz0,hb⟩).2).append h2⟩
  show(Fu (Dj i (JE b))++Id i bs).length<=_
  rw[Ac,Am];omega
theorem WM{i:Nat}(hi:i<=3){k:DW}{t:Nat}(hl:k.log.length<=t)(he:∀b∈k.log,Je b)(h1:KP k.view)(h2:KP k.normal):(Ij i k).length<=46*t+123/\Eu (Ij i k):=by
 obtain⟨h3,h4⟩:=OB hi he
 obtain⟨h5,h6⟩:=MA (i:=i) (r:=Kd k) ⟨iz1,h1,h2,Je.nil⟩
 have h7:=Si (Dj i (Kd k))
 refine⟨?_,h4.append (Ri h6)⟩
 unfold Ij
 rw[Ac];omega
structure DW.Sm(k:DW)(t:Nat):Prop where
 len:k.log.length<=t
 ent:∀b∈k.log,Je b
 view:KP k.view
 normal:KP k.normal
theorem KG{t:Nat}:∀ {ks:List DW} {i:Nat},i+ks.length<=4->(∀k∈ks,k.Sm t)->(Eo i ks).length<=ks.length*(46*t+123)/\Eu (Eo i ks)
 |[],_,_,_=>⟨Af _,fun _ h=>by cases h⟩
 |k::ks,i,hn,h=>by
  simp only[List.length_cons]at hn
  obtain⟨h1,h2⟩:=KG (i:=i+1) (ks:=ks) (by omega) fun x hx=>h x (Aw _ hx)
  rw[show((i+1:Nat):Int)=(i:Int)+1 by omega]at h1 h2
  have hk:=h k Ar
  obtain⟨h3,h4⟩:=WM (i:=i) (by omega) hk.len hk.ent hk.view hk.normal
  refine⟨?_,h4.append h2⟩
  show(Ij i k++Eo ((i:Int)+1) ks).length<=_
  rw[Ac,Am,Nat.succ_mul]
  omega
theorem UI(ks:List DW)(x:N_)(ns:List N_):Jj ks (x::ns)=Jj (GV ks x) ns:=BX ..
theorem Tn{ks:List DW}{i:Nat}(hi:i<ks.length)(EQ:i<1024)(rs:List HY):∀q:DW,(∀r∈rs,r.Sm)->Jj (ks.set i q) (rs.map (Dj i))=ks.set i (rs.foldl DW.lay q):=by
 induction rs with
 |nil=>intro q _;rfl
 |cons r rs ih=>
  intro q h
  have hr:=h r Ar
  have hd:=hr.2.2.2.1
  rw[AJ,UI,Jv hi EQ hr.1 hr.2.1 hr.2.2.1 (by omega),BX]
  exact ih _ fun x hx=>h x (Aw _ hx)
theorem DW.Sm.sv{k:DW}{t:Nat}(h:k.Sm t):k.Sv:=⟨h.view,h.normal,fun b hb=>by have:=(h.ent b hb).1;omega⟩
structure CfM.Sm(c:CfM):Prop where
 ok:c.Ok
 nodes:c.nodes<=3
 shards:c.shards<=2
 clients:c.clients<=3
 txns:c.txns<=3
 patience:c.patience<=6
 keys:c.plan.keys<=4
 most:c.plan.most<=4
 room:c.room=1048576
structure CU.St(m:CU)(t:Nat):Prop where
 core:m.core.St t
 run:m.state.RunA 0 m.done.toNat
 dn:m.done=m.core.commit
 wants:KN m.wants
 ages:KN m.ages
 agesV:∀k v,alk k m.ages=some v->0<=v/\v<=t
theorem Db.Sm.le{m:Db}{t t':Nat}(h:m.Sm t)(q:t<=t'):m.Sm t':=⟨AA h.len q,fun e=>by have:=h.at_ e;omega,h.ent,h.byt,h.ask⟩
theorem CU.St.le{m:CU}{t t':Nat}(h:m.St t)(q:t<=t'):m.St t':=⟨h.core.le q,h.run,h.dn,h.wants,h.ages,fun k v e=>by have:=h.agesV k v e;omega⟩
structure Du.Sm(p:Du):Prop where
 ask:Je p.ask.cmd.wr.b
 out:∀m∈p.out,m.Sm 0
structure CR.St(x:CR)(c:CfM)(t n T:Nat):Prop where
 cf:x.c=c
 parts:(x.parts.length:Int)=c.shards
 part:∀(i:Nat) (m:CU),x.parts[i]? =some m->m.St t
 idle:∀(i:Nat) (m:CU),x.parts[i]? =some m->m.core.idle<=T
 keeps:Ds x.log x.parts.length=x.keeps
 notes:x.log.notes.length<150
 note:∀b∈x.log.notes,b.length<=121
 state:x.log.state.length<=60000/\Eu x.log.state
 turn:x.log.turn<=T
 post:x.post.Fit T
 ask:x.post.Sm
 busy: -1<=x.busy/\x.busy<x.parts.length
 out:∀m∈x.out,m.Sm t
 outl:x.out.length<=n
theorem CA.St.sm{d:CA}{t:Nat}(h:d.St t):d.keep.Sm t:=
 ⟨h.inv.len,h.inv.ent,NW (by have:=h.inv.vw;omega) h.inv.vw.2.2,NW h.inv.vw.1 (by have:=h.inv.vw;omega)⟩
theorem PE(m:CU)(b:N_)(ws:List (Int×(Int×Int))):((m.step b).setW ws).done=m.done+1:=by
 show(m.step b).done=_
 unfold CU.step;rfl
theorem Py(m:CU)(b:N_)(ws:List (Int×(Int×Int))):((m.step b).setW ws).core=m.core:=(Ja (m.step b) ws).1.trans (Hs m b).1
theorem PI(m:CU)(b:N_)(ws:List (Int×(Int×Int))):((m.step b).setW ws).ages=m.ages:=(Ja (m.step b) ws).2.1.trans (Hs m b).2.1
theorem OE(me at_:Int)(m:CU):CU.doneL me at_ m []=(m,[]):=by rw[CU.doneL]
theorem NB(me at_:Int)(m:CU)(b:N_)(ds:List N_):CU.doneL me at_ m (b::ds)=((CU.doneL me at_ ((m.step b).tells me at_ (m.state.apply b).1).1 ds).1,((m.step b).tells me at_ (m.state.apply b).1).2++(CU.doneL me at_ ((m.step b).tells me at_ (m.state.apply b).1).1 ds).2):=by rw[CU.doneL]
theorem Yz{t N d:Nat}{me at_:Int}(h2:StN N d)(ds:List N_):∀(m:CU) (j:Nat),m.state.RunA N j->j+ds.length<=d->KN m.wants->(∀e∈ds,Je e)->
  (CU.doneL me at_ m ds).1.core=m.core/\(CU.doneL me at_ m ds).1.ages=m.ages/\(CU.doneL me at_ m ds).1.done=m.done+ds.length/\KN (CU.doneL me at_ m ds).1.wants/\(CU.doneL me at_ m ds).1.state.RunA N (j+ds.length)/\(∀q∈(CU.doneL me at_ m ds).2,q.Sm t)/\(CU.doneL me at_ m ds).2.length<=ds.length:=by
 induction ds with
 |nil=>
  intro m j h1 _ h4 _
  rw[OE]
  exact⟨rfl,rfl,by show m.done=m.done+((0:Nat):Int);omega,h4,h1,(fun _ q=>by cases q),Al _⟩
 |cons b ds ih=>
  intro m j h1 h3 h4 h5
  simp only[List.length_cons]at h3
  have hb:=h5 b Ar
  have hbl:b.length<=1048576:=by have:=hb.1;omega
  have hr:=h1.next h2 (by omega) hb.2 hbl
  have hav:=NO m.state hb.2 hbl
  obtain⟨an,c⟩:∃a,a=(m.state.apply b).1:=⟨_,rfl⟩
  rw[<-c]at hav
  have key:∃m1 ms,(m.step b).tells me at_ an=(m1,ms)/\m1.core=m.core/\m1.ages=m.ages/\m1.done=m.done+1/\KN m1.wants/\m1.state.RunA N (j+1)/\(∀q∈ms,q.Sm t)/\ms.length<=1:=by
   cases hw:(alk (m.done+1) m.wants).isSome with
   |true=>exact⟨_,_,ME hw,Py _ _ _,PI _ _ _,PE _ _ _,by rw[FJ];exact h4.adel,by rw[FR];exact hr,fun q hq=>by rw[Ap.1 hq];exact⟨Af _,(fun e=>by cases e),(fun _ e=>by cases e),(Jd.wr_ok an hav).1.byt,fun e=>by cases e⟩,Al _⟩
   |false=>exact⟨_,_,NX hw,Py _ _ _,PI _ _ _,PE _ _ _,by rw[FJ];exact h4,by rw[FR];exact hr,(fun _ e=>by cases e),Af _⟩
  obtain⟨m1,ms,e,k1,k2,k3,k4,k,l,o⟩:=key
  obtain⟨g1,g2,f,g,h,i,n⟩:=ih m1 (j+1) k (by omega) k4 fun x hx=>h5 x (Aw _ hx)
  have e1:CU.doneL me at_ m (b::ds)=((CU.doneL me at_ m1 ds).1,ms++(CU.doneL me at_ m1 ds).2):=by
   rw[NB,<-c,e]
  rw[e1]
  refine⟨g1.trans k1,g2.trans k2,?_,g,?_,fun q hq=>?_,?_⟩
  ·rw[f,k3,Am];omega
  ·rw[Am,show j+(ds.length+1)=j+1+ds.length by omega];exact h
  ·rcases AC.1 hq with hq|hq
   ·exact l q hq
   ·exact i q hq
  ·rw[Ac,Am];omega
def NN(m:CU):Nat:=16777216*m.done.toNat
theorem RunA.nn{m:CU}{s:FA}(h:s.RunA 0 m.done.toNat):s.Run (NN m):=by
 unfold FA.RunA at h;rw[AE]at h;exact h
theorem stN_nn{m:CU}{d:Nat}(h:m.done.toNat+d<=1000):StN (NN m) d:=by
 unfold StN NN
 omega
theorem runA_nn{m:CU}{s:FA}{j:Nat}(h:s.RunA (NN m) j):s.RunA 0 (m.done.toNat+j):=by
 unfold FA.RunA NN at h
 unfold FA.RunA
 rw[AE,Nat.mul_add];exact h
theorem nsz_le{k:Nat}:∀ {ns:List N_},(∀x∈ns,x.length<=k)->PA ns<=ns.length*(12+k)
 |[],_=>Af _
 |x::ns,h=>by
  have h1:=nsz_le fun y hy=>h y (Aw _ hy)
  have:=h x Ar
  rw[Am,Nat.succ_mul]
  simp only[PA];omega
theorem Rx{m:CU}(h:KN m.wants):KN m.reset.wants:=by
 unfold CU.reset;split
 ·trivial
 ·exact h
theorem DW.Sm.le{k:DW}{t t':Nat}(h:k.Sm t)(q:t<=t'):k.Sm t':=⟨AA h.len q,h.ent,h.view,h.normal⟩
theorem KH{x:CR}{i:Nat}{m:CU}:(x.setP i m).keeps=x.keeps.set i m.core.keep:=by
 unfold CR.keeps CR.setP
 rw[List.map_set]
theorem less_law{y:CR}{c:CfM}{t n T:Nat}(hc:c.Sm)(ht:t<=640)(h1:y.c=c)(h2:(y.parts.length:Int)=c.shards)(h3:∀(i:Nat) (m:CU),y.parts[i]? =some m->m.St t)(h5:∀(i:Nat) (m:CU),y.parts[i]? =some m->m.core.idle<=T+1)(h4:Ds y.log y.parts.length=y.keeps)
  (h6:∀b∈y.log.notes,b.length<=121) (h7:y.log.state.length<=60000/\Eu y.log.state) (h8:y.log.turn<=T) (h9:y.post.Fit (T+1)) (d:y.post.Sm) (e: -1<=y.busy/\y.busy<y.parts.length) (f:∀m∈y.out,m.Sm t) (g:y.out.length<=n):y.less.St c t n (T+1):=by
 have hsh:=hc.shards
 have h:∀k∈y.keeps,k.Sm t:=fun k hk=>by
  unfold CR.keeps at hk
  obtain⟨m,hm,rfl⟩:=AZ.1 hk
  obtain⟨i,hi⟩:=BU.1 hm
  exact(h3 i m hi).core.sm
 have hkl:y.keeps.length=y.parts.length:=by unfold CR.keeps;rw[AP]
 unfold CR.less
 split
 ·exact⟨h1,h2,h3,h5,h4,by assumption,h6,h7,AY h8,h9,d,e,f,g⟩
 ·obtain⟨s1,s2⟩:=KG (t:=t) (ks:=y.keeps) (i:=0) (by omega) h
  have s3:y.keeps.length*(46*t+123)<=2*(46*640+123):=Nat.mul_le_mul (by omega) (by omega)
  refine⟨h1,h2,h3,h5,?_,by show(0:Nat)<150;decide,(fun _ q=>by cases q),⟨AA s1 (AA s3 (by decide)),s2⟩,Ci h8,h9,d,e,f,g⟩
  show Ds ⟨y.log.turn+1,Eo 0 y.keeps,[]⟩ y.parts.length=y.keeps
  rw[<-hkl]
  exact RJ (by omega) fun k hk=>(h k hk).sv
def N0:Nat:=16777216000
theorem nn_le{m:CU}(h:m.done.toNat<=1000):NN m<=N0:=by unfold NN N0;omega
theorem stN_n0{d:Nat}(h:d<=1000):StN N0 d:=by unfold StN N0;omega
theorem Qs{x:CR}{c:CfM}{t t' n T i:Nat}{g m:CU}{o:Vi}(hc:c.Sm)(h:x.St c t n T)(hi:x.parts[i]? =some g)(ha:g.core.Act t' (2*t'+8) o m.core)(hs:m.state=g.state)(hd:m.done=g.done)(hw:KN m.wants)(hg:KN m.ages)(hg2:∀k v,alk k m.ages=some v->0<=v/\v<=t')(l:t<=t')(ht:t'<=640)(F:T<=100000)(hn:n<=100000000):
  (x.setP i m).DoOk i o m 0 N0/\((x.setP i m).do_ i m o).St c t' (n+8000000) (T+1):=by
 have hsh:=hc.shards;have hpl:=h.parts
 have hil:=(Ab.1 hi).1
 have h0:=h.part i g hi
 have f:∀j q,(x.setP i m).parts[j]? =some q->j≠i->q.St t:=fun j q hq hj=>by
  have hq:(x.parts.set i m)[j]? =some q:=hq
  rw[BO (Ne.symm hj)]at hq
  exact h.part j q hq
 have hcm:=h0.core.fit.commit
 have hcm2:=ha.st.inv.cm
 have hdn:=ha.dn
 have s:0<=m.done/\m.done.toNat+o.done.length<=1000:=by rw[hd,h0.dn];omega
 have w:∀k∈(x.setP i m).keeps,k.Sm t':=fun k hk=>by
  unfold CR.keeps at hk
  obtain⟨q,hq,rfl⟩:=AZ.1 hk
  obtain⟨j,hj⟩:=BU.1 hq
  by_cases e:j=i
  ·subst e
   rw[HI hi]at hj
   cases hj;exact ha.st.sm
  ·exact(f j q hj e).core.sm.le l
 have hkl:(x.setP i m).keeps.length=x.parts.length:=by unfold CR.keeps CR.setP;rw[AP,AQ]
 obtain⟨s1,s2⟩:=KG (t:=t') (ks:=(x.setP i m).keeps) (i:=0) (by omega) w
 have s3:(x.setP i m).keeps.length*(46*t'+123)<=2*(46*640+123):=Nat.mul_le_mul (by omega) (by omega)
 have hrec:∀b∈x.log.notes++o.recs.map (Dj i),b.length<=121:=fun b hb=>by
  rcases AC.1 hb with hb|hb
  ·exact h.note b hb
  ·obtain⟨r,hr,rfl⟩:=AZ.1 hb
   exact(MA (ha.recs r hr)).1
 have hnr:=ha.nr;have hnn:=h.notes;have hst:=h.state;have htu:=h.turn;have hol:=h.outl;have hnm:=ha.nm
 have hz:=nsz_le hrec
 have y:(x.log.notes++o.recs.map (Dj i)).length<=1438:=by rw[Ac,AP];omega
 have E:(x.log.notes++o.recs.map (Dj i)).length*(12+121)<=1438*133:=Nat.mul_le_mul y (by decide)
 refine⟨⟨⟨?_,?_,?_,?_,?_⟩,?_,?_,?_,?_,?_,?_,?_,hw,?_⟩,?_⟩
 ·show x.c.bugs=0
  rw[h.cf];exact hc.ok.bugs
 ·intro q hq
  have hq:q∈x.parts.set i m:=hq
  obtain⟨j,hj⟩:=BU.1 hq
  by_cases e:j=i
  ·subst e
   have hj:(x.setP j m).parts[j]? =some q:=hj
   rw[HI hi]at hj
   cases hj;exact ha.st.fit
  ·exact(f j q hj e).core.fit
 ·show(x.parts.set i m).length<=4
  rw[AQ];omega
 ·exact⟨AA s1 (AA s3 (by decide)),s2⟩
 ·show x.log.turn<_
  omega
 ·intro r hr
  have:=(ha.recs r hr).2.2.2
  exact⟨by have:=this.1;omega,this.2⟩
 ·show 46+x.log.state.length+PA (x.log.notes++o.recs.map (Dj i))<=1048576
  omega
 ·show x.log.notes.length+o.recs.length<=1000000
  omega
 ·rw[hs];exact(RunA.nn (by rw[hd];exact h0.run)).le (nn_le (by omega))
 ·exact stN_n0 (by omega)
 ·intro e he
  have:=(ha.done e he).1
  omega
 ·omega
 ·show x.out.length+o.msgs.length+o.done.length<=1000000000
  omega
 ·obtain⟨e1,e2,e3,e4⟩:=JB m
  obtain⟨g1,g2,p,A,B,C,D⟩:=Yz (t:=t') (me:=(x.setP i m).me) (at_:=i) (stN_nn s.2) o.done m.reset 0 (by rw[e2,hs];exact(RunA.nn (by rw[hd];exact h0.run)).a) (by omega) (Rx hw) ha.done
  obtain⟨m2,hm2⟩:∃q,q=CU.doneL (x.setP i m).me i m.reset o.done:=⟨_,rfl⟩
  rw[<-hm2]at g1 g2 p A B C D
  have hdo:(x.setP i m).do_ i m o=CR.less (((((x.setP i m).noted i o.recs).says o.msgs).says m2.2).setP i m2.1):=by rw[hm2];rfl
  rw[hdo]
  have d:(((((x.setP i m).noted i o.recs).says o.msgs).says m2.2).setP i m2.1).parts=x.parts.set i m2.1:=by show(x.parts.set i m).set i m2.1=_;rw[set_set]
  have hkp:(((((x.setP i m).noted i o.recs).says o.msgs).says m2.2).setP i m2.1).keeps=x.keeps.set i m.core.keep:=by
   rw[KH,g1,e1]
   show(x.setP i m).keeps.set i m.core.keep=_
   rw[KH,set_set]
  have u:x.keeps[i]? =some g.core.keep:=by unfold CR.keeps;rw[Aq,hi];rfl
  refine less_law hc ht h.cf (by rw[d,AQ];exact hpl) ?_ ?_ ?_ hrec hst htu (h.post.le (AL _)) h.ask (by rw[d,AQ];exact h.busy) ?_ ?_
  ·intro j q hq
   rw[d]at hq
   by_cases e:j=i
   ·subst e
    rw[Bj hil]at hq
    cases hq
    refine⟨by rw[g1,e1];exact ha.st,?_,?_,A,by rw[g2,e4.1];exact hg,by rw[g2,e4.1];exact hg2⟩
    ·have:=runA_nn B
     rw[p,e3]
     rw[show(m.done+(o.done.length:Int)).toNat=m.done.toNat+(0+o.done.length) by omega]
     exact this
    ·rw[p,e3,g1,e1,hd,h0.dn,hdn]
   ·rw[BO (Ne.symm e)]at hq
    exact(h.part j q hq).le l
  ·intro j q hq
   rw[d]at hq
   by_cases e:j=i
   ·subst e
    rw[Bj hil]at hq
    cases hq
    have:=ha.idl;have:=h.idle j g hi
    rw[g1,e1];omega
   ·rw[BO (Ne.symm e)]at hq
    have:=h.idle j q hq
    omega
  ·rw[hkp,d,AQ]
   show Ds {x.log with notes:=x.log.notes++o.recs.map (Dj i)} x.parts.length=_
   rw[Vj,h.keeps]
   have:=Tn (ks:=x.keeps) (i:=i) (by unfold CR.keeps;rw[AP];exact hil) (by omega) o.recs g.core.keep ha.recs
   rw[Dc u,ha.lay]at this
   exact this
  ·intro q hq
   have hq:q∈(x.out++o.msgs)++m2.2:=hq
   rcases AC.1 hq with hq|hq
   ·rcases AC.1 hq with hq|hq
    ·exact(h.out q hq).le l
    ·exact ha.msgs q hq
   ·exact C q hq
  ·show((x.out++o.msgs)++m2.2).length<=_
   rw[Ac,Ac];omega
theorem CR.St.le{x:CR}{c:CfM}{t n T t' b T':Nat}(h:x.St c t n T)(h1:t<=t')(h2:n<=b)(h3:T<=T'):x.St c t' b T':=
 ⟨h.cf,h.parts,fun i m e=>(h.part i m e).le h1,fun i m e=>by have:=h.idle i m e;omega,h.keeps,h.notes,h.note,h.state,AA h.turn h3,h.post.le h3,h.ask,h.busy,fun m e=>(h.out m e).le h1,AA h.outl h2⟩
theorem Qbi{p:Du}{b:Nat}(h:p.Fit b){a:AkM}(ha:a.cmd.ready.Fit):(p.askA a).Fit (b+2):=by
 have h1:=h.id
 have h2:0<=(alk a.shard p.lead).getD 0/\(alk a.shard p.lead).getD 0<=1099511627776:=by
  cases e:alk a.shard p.lead with
  |none=>exact⟨AK 0,by decide⟩
  |some v=>exact h.leadV _ v e
 exact Du.send_fit (b:=b+1) ⟨h.nodes,h.patience,⟨by show 0<=p.id+1;omega,by show p.id+1<=_;omega⟩,⟨by show 0<=max 1 _;omega,by show max 1 _<=_;omega⟩,fun _=>by show 1<=max 1 _;omega,h.age,h.lead,h.leadV,ha,AY h.out⟩
theorem Du.Sm.send{p:Du}(h:p.Sm):p.send.Sm:=⟨h.ask,Fy h.out ⟨Af _,(fun e=>by cases e),(fun _ e=>by cases e),h.ask.2,fun _=>h.ask.1⟩⟩
theorem Du.Sm.askA{p:Du}(h:p.Sm){a:AkM}(ha:Je a.cmd.wr.b):(p.askA a).Sm:=Du.Sm.send ⟨ha,h.out⟩
theorem Du.Sm.tick{p:Du}(h:p.Sm):p.tick.Sm:=by
 unfold Du.tick
 split
 ·split
  ·exact Du.Sm.send ⟨h.ask,h.out⟩
  ·exact⟨h.ask,h.out⟩
 ·exact h
theorem Du.Sm.in_{p:Du}(h:p.Sm)(m:Db):(p.in_ m).1.Sm:=by
 unfold Du.in_
 repeat' split
 all_goals exact⟨h.ask,h.out⟩
structure Db.Dec(m:Db):Prop where
 kind:1<=m.kind/\m.kind<=7
 nums:∀x∈m.nums,0<=x/\x<=1099511627776
 list:m.list.length<=2000
 ent:∀b∈m.list,b.length<=4000
 data:m.data.length<=4000
theorem QaA{p:Du}{b:Nat}(h:p.Fit b){m:Db}(hm:0<=m.from_/\m.from_<=1099511627776):(p.in_ m).1.Fit b:=by
 have h1:=h.nodes;have h2:=h.age;have h3:=h.patience
 unfold Du.in_
 split
 ·exact h
 ·split
  ·split
   ·exact⟨h.nodes,h.patience,h.id,h.to,(fun e=>by cases e),h.age,h.lead.aset,fun k v hv=>by
     have hv:alk k (aset p.ask.shard m.from_ p.lead)=some v:=hv
     rw[DE]at hv
     split at hv
     ·cases hv;exact hm
     ·exact h.leadV k v hv,h.ready,h.out⟩
   ·exact h
  ·split
   ·have hg:1<=p.go m/\p.go m<=p.nodes:=by
     unfold Du.go
     split
     ·omega
     ·have:=BR p.to (show p.nodes≠0 by omega)
      have:=BI p.to (show 0<p.nodes by omega)
      omega
    have ht:1<=(p.away m).to/\(p.away m).to<=p.nodes:=by
     show 1<=(if p.go m=m.from_ then p.go m else (p.go m+p.nodes-2)%p.nodes+1)/\(if p.go m=m.from_ then p.go m else (p.go m+p.nodes-2)%p.nodes+1)<=p.nodes
     split
     ·exact hg
     ·have:=BR (p.go m+p.nodes-2) (show p.nodes≠0 by omega)
      have:=BI (p.go m+p.nodes-2) (show 0<p.nodes by omega)
      omega
    exact⟨h.nodes,h.patience,h.id,⟨by show 0<=(p.away m).to;omega,by show(p.away m).to<=_;omega⟩,fun _=>ht.1,⟨by show 0<=max p.age (p.patience-1);omega,by show max p.age (p.patience-1)<=p.patience;omega⟩,h.lead,h.leadV,h.ready,h.out⟩
   ·exact h
theorem wr_ent{w:CF}(h:w.Ok)(hn:w.n<=320):Je w.b:=⟨by rw[h.len];omega,h.byt⟩
theorem Fs{k:Int}(h0:0<=k)(h5:k<=7)(e:NY):Je (⟨k,Hx,e⟩:KM).wr.b:=by
 have hf:(⟨k,Hx,e⟩:KM).ready.Fit:=⟨Af _,Af _⟩
 refine wr_ent (KM.wr_ok hf).1 ?_
 have e1:=DI (w:=EV) (x:=k) (k:=4) h0 (by omega) (by omega)
 obtain⟨k1,a2,a3⟩:=CF.ry_ok Hx (CF.int_ok FL k) (Af _) (Af _)
 have e2:=DI (w:=EV.int k) (x:=0) (k:=1) (by decide) (by decide) (by decide)
 have e3:=DI (w:=(EV.int k).int 0) (x:=0) (k:=1) (by decide) (by decide) (by decide)
 have e4:=DI (w:=((EV.int k).int 0).int 0) (x:=0) (k:=1) (by decide) (by decide) (by decide)
 have e5:=Hm (w:=(((EV.int k).int 0).int 0).int 0) (x:=0) (k:=1) (by decide) (by decide)
 have e6:=Hm (w:=((((EV.int k).int 0).int 0).int 0).num 0) (x:=0) (k:=1) (by decide) (by decide)
 have hn:((EV.int k).ry Hx).n=((((((EV.int k).int 0).int 0).int 0).num 0).num 0).n:=rfl
 obtain⟨k2,a4,a5⟩:=CF.en_ok e k1
 have e0:EV.n=0:=rfl
 show(((EV.int k).ry Hx).en e).n<=320
 omega
theorem Il{x:CR}{c:CfM}{t n T i:Nat}{m m':CU}(h:x.St c t n T)(hi:x.parts[i]? =some m)(hm:m'.St t)(hk:m'.core.keep=m.core.keep)(hd:m'.core.idle<=T):(x.setP i m').St c t n T:=by
 have hil:=(Ab.1 hi).1
 have hp:(x.setP i m').parts=x.parts.set i m':=rfl
 have key:∀ {P:CU->Prop},(∀(j:Nat) (q:CU),x.parts[j]? =some q->P q)->P m'->∀(j:Nat) (q:CU),(x.setP i m').parts[j]? =some q->P q:=fun h1 h2 j q hq=>by
  rw[hp]at hq
  by_cases e:j=i
  ·subst e
   rw[Bj hil]at hq
   cases hq;exact h2
  ·rw[BO (Ne.symm e)]at hq
   exact h1 j q hq
 refine⟨h.cf,by rw[hp,AQ];exact h.parts,key h.part hm,key h.idle hd,?_,h.notes,h.note,h.state,h.turn,h.post,h.ask,by rw[hp,AQ];exact h.busy,h.out,h.outl⟩
 have b:x.keeps[i]? =some m.core.keep:=by unfold CR.keeps;rw[Aq,hi];rfl
 rw[KH,hk,Dc b,hp,AQ]
 exact h.keeps
theorem Nv{x:CR}{c:CfM}{t n T:Nat}(h:x.St c t n T){b:Int}{p:Du}(hb: -1<=b/\b<x.parts.length)(hp:p.Fit T)(ha:p.Sm):(x.setB b p).St c t n T:=
 ⟨h.cf,h.parts,h.part,h.idle,h.keeps,h.notes,h.note,h.state,h.turn,hp,ha,hb,h.out,h.outl⟩
theorem LV{c:CA}{d:N_}(h:(c.propose d).2.2.1≠0):(c.propose d).2.2.2=c:=by
 unfold CA.propose at h ⊢
 split
 ·rfl
 ·split
  ·rfl
  ·split
   ·rfl
   ·rename_i e1 e2 e3
    rw[Aa e1,Aa e2,Aa e3]at h
    exact absurd rfl h
theorem UE:∀(k:Nat) (to:Int) (c:CA),(Zz k to c).keep=c.keep:=fun k=>by
 induction k with
 |zero=>intro _ _;rfl
 |succ k ih=>
  intro to c
  unfold Zz
  split
  ·rw[ih];split<;>rfl
  ·rfl
theorem Rq{c:CA}{d:N_}(h:(c.propose d).2.2.1=0):0<(c.propose d).1:=by
 unfold CA.propose at h ⊢
 split
 ·rename_i e;rw[Ah e]at h;cases h
 ·split
  ·rename_i e1 e2;rw[Aa e1,Ah e2]at h;cases h
  ·split
   ·rename_i e1 e2 e3;rw[Aa e1,Aa e2,Ah e3]at h;cases h
   ·show(0:Int)<((c.propose1 d).keep.log.length:Int)
    unfold CA.propose1 CA.feeds
    rw[(FQ _).1,UE]
    show(0:Int)<((c.keep.lay ⟨2,0,0,d⟩).log.length:Int)
    unfold DW.lay
    rw[Aa n21,Ah rfl]
    show(0:Int)<((c.keep.log++[d]).length:Int)
    rw[Ac];simp
theorem Xe{x:CR}{c:CfM}{t n T i:Nat}{m:CU}(hc:c.Sm)(h:x.St c t n T)(hi:x.parts[i]? =some m)(hl:m.core.keep.log.length+1<=t)(d:∀k v,alk k m.ages=some v->v+1<=t)(ht:t<=640)(g:T<=100000)(hn:n<=100000000):
  x.ClnOk i m 0 N0 T/\(x.clean i m).St c t (n+8000000) (T+2):=by
 have h0:=h.part i m hi
 have hil:=(Ab.1 hi).1
 have hid:=h.idle i m hi
 have hpa:=Mb h0.core (x:=m.cmd.wr.b) (Fs (by decide) (by decide) m.told) hl (by omega)
 have hdo:=Qs hc h hi (m:=m.toldC (m.core.propose m.cmd.wr.b).2.2.2) hpa rfl rfl h0.wants h0.ages h0.agesV (Al _) ht g hn
 refine⟨⟨h0.core.fit,by decide,fun _ _=>⟨hpa.st.fit,hdo.1⟩,(RunA.nn h0.run).fit.store,h0.ages,fun k v e=>by have:=h0.agesV k v e;omega,by rw[h.cf];have:=hc.ok.patience;omega,h.post,by omega⟩,?_⟩
 unfold CR.clean
 split
 ·exact(Il h hi (m':=m.idle) ⟨h0.core,h0.run,h0.dn,h0.wants,trivial,(fun _ _ e=>by cases e)⟩ rfl hid).le (Al _) (by omega) (by omega)
 ·split
  ·split
   ·exact hdo.2.le (Al _) (Al _) (by omega)
   ·rename_i e
    have he:(m.core.propose m.cmd.wr.b).2.2.1≠0:=fun q=>e ⟨q,Rq q⟩
    rw[LV he]
    exact(Il h hi (m':=m.toldC m.core) ⟨h0.core,h0.run,h0.dn,h0.wants,h0.ages,h0.agesV⟩ rfl hid).le (Al _) (by omega) (by omega)
  ·have key:∀(ws:List Ge) (s:ClnS),KN s.1->(∀k v,alk k s.1=some v->0<=v/\v<=t)->(-1<=s.2.1/\s.2.1<x.parts.length)->s.2.2.Fit (T+2)->s.2.2.Sm->(s.2.1<0->s.2.2=x.post)->
     let s':=ws.foldl (Vf x.c.patience i m.ages) s
     KN s'.1/\(∀k v,alk k s'.1=some v->0<=v/\v<=t)/\(-1<=s'.2.1/\s'.2.1<x.parts.length)/\s'.2.2.Fit (T+2)/\s'.2.2.Sm:=fun ws=>by
    induction ws with
    |nil=>intro s k1 k2 k3 k4 b _;exact⟨k1,k2,k3,k4,b⟩
    |cons w ws ih=>
     intro s k1 k2 k3 k4 b f
     have ha:0<=Lt m.ages w/\Lt m.ages w<=t:=by
      unfold Lt
      cases e:alk w.txn m.ages with
      |none=>show 0<=(0:Int)+1/\(0:Int)+1<=t;omega
      |some v=>
       have:=d _ v e;have:=h0.agesV _ v e
       show 0<=v+1/\v+1<=t;omega
     have hset:∀(l:List (Int×Int)) (a:Int),0<=a/\a<=t->(∀k v,alk k l=some v->0<=v/\v<=t)->∀k v,alk k (aset w.txn a l)=some v->0<=v/\v<=t:=fun l a h1 h2 k v hv=>by
      rw[DE]at hv
      split at hv
      ·cases hv;exact h1
      ·exact h2 k v hv
     simp only[List.foldl_cons]
     unfold Vf
     split
     ·rename_i e
      have hx:=f e.2
      refine ih _ k1.aset.aset (hset _ 0 (by omega) (hset _ _ ha k2)) (by show -1<=(i:Int)/\(i:Int)<_;omega) ?_ (b.askA (Fs (by decide) (by decide) _)) (fun q=>absurd q (by show ¬(i:Int)<0;omega))
      rw[hx]
      exact Qbi h.post ⟨Af _,Af _⟩
     ·exact ih _ k1.aset (hset _ _ ha k2) k3 k4 b f
   obtain⟨k1,k2,k3,k4,b⟩:=key m.state.store.waits ([],x.busy,x.post) trivial (fun _ _ e=>by cases e) h.busy (h.post.le (by omega)) h.ask (fun _=>rfl)
   have h2:=(h.le (Al _) (show n<=n+8000000 by omega) (show T<=T+2 by omega))
   exact Il (Nv h2 k3 k4 b) hi (m':=m.aged (x.clnF i m).1) ⟨h0.core,h0.run,h0.dn,h0.wants,k1,k2⟩ rfl (by show m.core.idle<=_;omega)
theorem CR.ClnOk.up{x:CR}{i b N c pb':Nat}{m:CU}(h:x.ClnOk i m b N c)(k:c<=pb')(k2:pb'<1000000000):x.ClnOk i m b N pb':=⟨h.fit,h.bb,h.fit2,h.store,h.ages,h.agesV,h.pat,h.post.le k,k2⟩
theorem Qe(x:CR)(i j:Nat)(m:CU)(h:j≠i):(x.ticked i m).parts[j]? =x.parts[j]? :=by
 unfold CR.ticked
 rw[IJ,BO (Ne.symm h)]
 exact BO (Ne.symm h)
theorem RI(x:CR)(i j:Nat)(m:CU)(h:j≠i):(x.clean i m).parts[j]? =x.parts[j]? :=by
 have k:∀(y:CR) (q:CU),(y.setP i q).parts[j]? =y.parts[j]? :=fun y q=>BO (Ne.symm h)
 unfold CR.clean
 split
 ·exact k x _
 ·split
  ·split
   ·rw[IJ,BO (Ne.symm h)];exact k x _
   ·exact k x _
  ·exact k _ _
theorem Uv(me at_:Int)(ds:List N_):∀m:CU,(CU.doneL me at_ m ds).1.ages=m.ages/\(CU.doneL me at_ m ds).1.core=m.core:=by
 induction ds with
 |nil=>intro m;rw[OE];exact⟨rfl,rfl⟩
 |cons b ds ih=>
  intro m
  obtain⟨h1,h2⟩:=ih ((m.step b).tells me at_ (m.state.apply b).1).1
  obtain⟨t1,t2,_⟩:=MK (m.step b) me at_ (m.state.apply b).1
  obtain⟨p1,p2,_⟩:=Hs m b
  rw[NB]
  exact⟨h1.trans (t2.trans p2),h2.trans (t1.trans p1)⟩
theorem WU{x:CR}{i:Nat}{m m':CU}(hi:x.parts[i]? =some m)(h:(x.ticked i m).parts[i]? =some m'):m'.ages=m.ages/\m'.core=m.core.tick.2:=by
 unfold CR.ticked at h
 have hl:=(Ab.1 hi).1
 rw[IJ,Bj (by show i<(x.parts.set i _).length;rw[AQ];exact hl)]at h
 cases h
 obtain⟨h1,h2⟩:=Uv (x.setP i (m.setC m.core.tick.2)).me i m.core.tick.1.done (m.setC m.core.tick.2).reset
 obtain⟨r1,_,_,r2,_⟩:=JB (m.setC m.core.tick.2)
 exact⟨h1.trans r2,h2.trans r1⟩
theorem VH{x:CR}{c:CfM}{t n T i:Nat}{m:CU}(hc:c.Sm)(h:x.St c (t+1) n T)(hi:x.parts[i]? =some m)(hm:m.St t)(ht:t+1<=640)(e:T<=90000)(hn:n<=80000000):
  x.TkOk i m 0 N0 (T+1)/\(x.tk1 i).St c (t+1) (n+16000000) (T+3)/\∀j,j≠i->(x.tk1 i).parts[j]? =x.parts[j]? :=by
 have hid:=h.idle i m hi
 have hta:=Ro hm.core (by omega) (by omega)
 have h0:=h.part i m hi
 have d:m.core.Act (t+1) (2*(t+1)+8) m.core.tick.1 m.core.tick.2:=(Ro h0.core (by omega) (by omega))
 have hdo:=Qs hc h hi (m:=m.setC m.core.tick.2) d rfl rfl h0.wants h0.ages h0.agesV (Al _) ht (by omega) (by omega)
 have hil:=(Ab.1 hi).1
 obtain⟨m',b⟩:∃m',(x.ticked i m).parts[i]? =some m':=⟨_,Ae (by rw[Hz];exact hil)⟩
 have key:∀m',(x.ticked i m).parts[i]? =some m'->(x.ticked i m).ClnOk i m' 0 N0 (T+1)/\((x.ticked i m).clean i m').St c (t+1) (n+8000000+8000000) (T+1+2):=fun m' b=>by
  obtain⟨e1,e2⟩:=WU hi b
  refine Xe hc hdo.2 b ?_ ?_ ht (by omega) (by omega)
  ·rw[e2];have:=hta.st.inv.len;omega
  ·intro k v hv
   rw[e1]at hv
   have:=hm.agesV k v hv
   omega
 refine⟨⟨h0.core.fit,by decide,by omega,hdo.1,fun m' b=>(key m' b).1⟩,?_,fun j hj=>?_⟩
 ·rw[UG hi b]
  exact(key m' b).2.le (Al _) (by omega) (by omega)
 ·rw[UG hi b,RI _ _ _ _ hj,Qe _ _ _ _ hj]
theorem CR.TkOk.up{x:CR}{i b N c pb':Nat}{m:CU}(h:x.TkOk i m b N c)(k:c<=pb')(k2:pb'<1000000000):x.TkOk i m b N pb':=⟨h.fit,h.bb,h.idle,h.do_,fun m' e=>(h.cln m' e).up k k2⟩
theorem Ug{x:CR}{c:CfM}{t n T:Nat}(h:x.St c t n T):x.posted.St c t (n+(T+1)) (T+1):=by
 have hf:=Qai h.post
 refine⟨h.cf,h.parts,h.part,fun i m e=>by have:=h.idle i m e;omega,h.keeps,h.notes,h.note,h.state,AY h.turn,⟨hf.nodes,hf.patience,hf.id,hf.to,hf.toO,hf.age,hf.lead,hf.leadV,hf.ready,Af _⟩,⟨h.ask.tick.ask,fun _ e=>by cases e⟩,h.busy,fun m hm=>?_,?_⟩
 ·rcases AC.1 hm with hm|hm
  ·exact h.out m hm
  ·exact(h.ask.tick.out m hm).le (Af _)
 ·show(x.out++x.post.tick.out).length<=_
  rw[Ac]
  have:=h.outl;have:=hf.out
  omega
theorem MH{x:CR}{c:CfM}{t n T:Nat}(hc:c.Sm)(h:x.St c t n T)(ht:t+1<=640)(j:T<=80000)(hn:n<=1000000):x.TicOk 0 N0 (T+8)/\x.tick.St c (t+1) (n+33000000) (T+8):=by
 have hsh:=hc.shards;have hs1:=hc.ok.shards;have hpl:=h.parts
 have h':=h.le (AL t) (Al n) (Al T)
 obtain⟨g,hm0⟩:∃m,x.parts[0]? =some m:=⟨_,Ae (by omega)⟩
 obtain⟨a1,a2,a3⟩:=VH hc h' hm0 (h.part 0 g hm0) ht (by omega) (by omega)
 have fin:∀ {y:CR} {f T':Nat},y.St c (t+1) f T'->f<=n+32000000->T'<=T+6->y.post.Fit (T+8)/\y.out.length+y.post.tick.out.length<=1000000000/\y.posted.St c (t+1) (n+33000000) (T+8):=fun hy h1 h2=>by
  have ho:=hy.outl;have hp:=(Qai hy.post).out
  exact⟨hy.post.le (by omega),by omega,(Ug hy).le (Al _) (by omega) (by omega)⟩
 rcases (show x.parts.length=1∨x.parts.length=2 by omega)with hl|hl
 ·obtain⟨f1,d,e⟩:=fin a2 (by omega) (by omega)
  refine⟨⟨fun i m hi hm=>?_,by rw[hl];exact f1,by omega,by rw[hl];exact d,by omega⟩,by unfold CR.tick;rw[hl];exact e⟩
  obtain rfl:i=0:=by omega
  have hm:x.parts[0]? =some m:=hm
  rw[hm0]at hm;cases hm
  exact a1.up (by omega) (by omega)
 ·obtain⟨m1,hm1⟩:∃m,x.parts[1]? =some m:=⟨_,Ae (by omega)⟩
  have b:(x.tk1 0).parts[1]? =some m1:=by rw[a3 1 (by decide)];exact hm1
  obtain⟨b1,b2,b3⟩:=VH hc a2 b (h.part 1 m1 hm1) ht (by omega) (by omega)
  obtain⟨f1,d,e⟩:=fin b2 (by omega) (by omega)
  refine⟨⟨fun i m hi hm=>?_,by rw[hl];exact f1,by omega,by rw[hl];exact d,by omega⟩,by unfold CR.tick;rw[hl];exact e⟩
  rcases (show i=0∨i=1 by omega)with rfl|rfl
  ·have hm:x.parts[0]? =some m:=hm
   rw[hm0]at hm;cases hm
   exact a1.up (by omega) (by omega)
  ·have hm:(x.tk1 0).parts[1]? =some m:=hm
   rw[b]at hm;cases hm
   exact b1.up (by omega) (by omega)
theorem Db.Dec.fit{m:Db}(h:m.Dec):m.Fit:=by
 have h1:=h.nums m.normal (by simp[Db.nums]);have h2:=h.nums m.commit (by simp[Db.nums])
 exact⟨⟨by omega,h1.2⟩,h2,by have:=h.list;omega,fun x hx=>by have:=h.ent x hx;omega⟩
theorem RQ{m:CU}(h:KN m.wants):KN m.fresh.wants:=by
 unfold CU.fresh;split
 ·trivial
 ·exact h
theorem YD(q:CU)(d:N_)(w:Int×Int)(hw:KN q.wants):(q.asked d w).core=(q.core.propose d).2.2.2/\(q.asked d w).state=q.state/\(q.asked d w).done=q.done/\(q.asked d w).ages=q.ages/\KN (q.asked d w).wants:=by
 obtain⟨f1,b,c,e,_⟩:=Nt (q.setC (q.core.propose d).2.2.2)
 obtain⟨s1,s2,_⟩:=Ja (q.setC (q.core.propose d).2.2.2).fresh (aset (q.core.propose d).1 w (q.setC (q.core.propose d).2.2.2).fresh.wants)
 refine⟨s1.trans f1,b,c,s2.trans e,?_⟩
 show KN (aset _ _ _)
 exact KN.aset (RQ (m:=q.setC (q.core.propose d).2.2.2) hw)
theorem says_law{x:CR}{c:CfM}{t n T:Nat}(h:x.St c t n T){m:Db}(hm:m.Sm t):(x.says [m]).St c t (n+1) T:=
 ⟨h.cf,h.parts,h.part,h.idle,h.keeps,h.notes,h.note,h.state,h.turn,h.post,h.ask,h.busy,Fy h.out hm,by show(x.out++[m]).length<=_;rw[Ac];exact Ci h.outl⟩
theorem RY{x:CR}{c:CfM}{t n T i:Nat}{q:CU}{d:N_}{w:Int×Int}(hc:c.Sm)(h:x.St c (t+1) n T)(hi:x.parts[i]? =some q)(hq:q.St t)(hd:Je d)(ht:t+1<=640)(f:T<=80000)(hn:n<=1000000):
  (q.core.propose d).2.2.2.Fit 0/\(x.setP i (q.asked d w)).DoOk i (q.core.propose d).2.1 (q.asked d w) 0 N0/\((x.propose i q d w).1=true->(x.propose i q d w).2.St c (t+1) (n+8000000) (T+1))/\((q.core.propose d).2.2.1≠0->(x.setP i (q.noP d)).St c (t+1) n T):=by
 have h0:=h.part i q hi
 have hl:=hq.core.inv.len
 have ha:=Mb h0.core hd (show q.core.keep.log.length+1<=t+1 by omega) (by omega)
 obtain⟨k1,k2,k3,k4,b⟩:=YD q d w h0.wants
 have hdo:=Qs hc h hi (m:=q.asked d w) (o:=(q.core.propose d).2.1) (by rw[k1];exact ha) k2 k3 b (by rw[k4];exact h0.ages) (by rw[k4];exact h0.agesV) (Al _) ht (by omega) (by omega)
 refine⟨ha.st.fit,hdo.1,fun e=>?_,fun e=>?_⟩
 ·unfold CR.propose at e ⊢
  split
  ·rename_i e2;rw[Ah e2]at e;cases e
  ·exact hdo.2
 ·unfold CU.noP
  rw[LV e]
  exact Il h hi (m':=q.setC q.core) ⟨h0.core,h0.run,h0.dn,h0.wants,h0.ages,h0.agesV⟩ rfl (h.idle i q hi)
theorem Uu{x:CR}{c:CfM}{t n T:Nat}{m:Db}(hc:c.Sm)(h:x.St c t n T)(hm:m.Sm t)(hd:m.Dec)(ht:t+1<=640)(l:T<=80000)(hn:n<=1000000):x.InOk m 0 N0 T/\(x.in_ m).St c (t+1) (n+33000000) (T+8):=by
 have hsh:=hc.shards;have hs1:=hc.ok.shards;have hpl:=h.parts;have hnd:=hc.ok.nodes
 have h':=h.le (AL t) (Al n) (Al T)
 have hv:=hd.nums m.view (by simp[Db.nums]);have hat:=hd.nums m.at_ (by simp[Db.nums]);have hfr:=hd.nums m.from_ (by simp[Db.nums])
 have g:∀(i:Nat) (q:CU),x.parts[i]? =some q->q.core.Act (t+1) (2*(t+1)+8) (q.core.in_ m).1 (q.core.in_ m).2:=fun i q hi=>in_act (h'.part i q hi).core (hm.le (AL t)) hd.fit (by omega)
 have hdo:∀(i:Nat) (q:CU) (hi:x.parts[i]? =some q),(x.setP i (q.inC m)).DoOk i (q.core.in_ m).1 (q.inC m) 0 N0/\((x.setP i (q.inC m)).do_ i (q.inC m) (q.core.in_ m).1).St c (t+1) (n+8000000) (T+1):=fun i q hi=>
  Qs hc h' hi (m:=q.inC m) (g i q hi) rfl rfl (h'.part i q hi).wants (h'.part i q hi).ages (h'.part i q hi).agesV (Al _) ht (by omega) (by omega)
 have f:∀(i:Nat) (q:CU),m.kind=6->x.parts[i]? =some q->_:=fun i q h6 hi=>RY (d:=m.data) (w:=(m.from_,m.id)) hc h' hi (h.part i q hi) ⟨hm.ask h6,hm.byt⟩ ht l hn
 refine⟨⟨h.post,by have:=hd.data;omega,hv.2,h.busy.2,by omega,by rw[h.cf];omega,by have:=h.outl;omega,by decide,hd.fit,hat.2,fun i q _ _ _ hi=>⟨(h.part i q hi).core.fit,fun h6=>⟨(f i q h6 hi).1,fun _=>(f i q h6 hi).2.1⟩,fun _=>(hdo i q hi).1⟩⟩,?_⟩
 have up:∀ {y:CR} {j T':Nat},y.St c (t+1) j T'->j<=n+33000000->T'<=T+8->y.St c (t+1) (n+33000000) (T+8):=fun hy h1 h2=>hy.le (Al _) h1 h2
 have hx:x.St c (t+1) (n+33000000) (T+8):=up h' (by omega) (by omega)
 have hpi:=QaA (m:=m) h'.post hfr
 have hps:=h'.ask.in_ m
 unfold CR.in_
 split
 ·exact hx
 ·split
  ·unfold CR.inT
   split
   ·split
    ·exact hx
    ·rename_i q hq
     have h0:=h'.part _ q hq
     exact up (Il (Nv h' (b:= -1) (by omega) hpi hps) hq (m':=q.toldE (x.post.in_ m).2.1.fin) ⟨h0.core,h0.run,h0.dn,h0.wants,h0.ages,h0.agesV⟩ rfl (h'.idle _ q hq)) (by omega) (by omega)
   ·exact up (Nv h' h'.busy hpi hps) (by omega) (by omega)
  ·split
   ·exact hx
   ·split
    ·exact hx
    ·rename_i q hq
     unfold CR.inP
     split
     ·rename_i h6
      obtain⟨_,_,p3,p4⟩:=f _ q h6 hq
      split
      ·rename_i e;exact up (p3 e) (by omega) (by omega)
      ·rename_i e
       have he:(q.core.propose m.data).2.2.1≠0:=fun e0=>e (by unfold CR.propose;rw[Aa (fun k=>k e0)])
       exact up (says_law (p4 he) ⟨Af _,(fun e=>by cases e),(fun _ e=>by cases e),(fun _ e=>by cases e),fun _=>Af _⟩) (by omega) (by omega)
     ·exact up (hdo _ q hq).2 (by omega) (by omega)
theorem OR{x:CR}{c:CfM}{t n T:Nat}(h:x.St c t n T):x.noOut.St c t 0 T:=
 ⟨h.cf,h.parts,h.part,h.idle,h.keeps,h.notes,h.note,h.state,h.turn,h.post,h.ask,h.busy,(fun _ e=>by cases e),Al _⟩
structure EA.St(l:EA)(c:CfM)(t T:Nat):Prop where
 keep:∀k∈Ds l c.shards.toNat,k.Sm t/\0<=k.normal/\k.normal<=k.view/\k.view<=1099511627776
 notes:l.notes.length<150
 note:∀b∈l.notes,b.length<=121
 state:l.state.length<=60000/\Eu l.state
 turn:l.turn<=T
theorem CR.St.lg{x:CR}{c:CfM}{t n T:Nat}(h:x.St c t n T):x.log.St c t T:=by
 have hp:=h.parts
 refine⟨fun k hk=>?_,h.notes,h.note,h.state,h.turn⟩
 rw[show c.shards.toNat=x.parts.length by omega,h.keeps]at hk
 obtain⟨m,hm,rfl⟩:=AZ.1 hk
 obtain⟨i,hi⟩:=BU.1 hm
 have:=(h.part i m hi).core
 exact⟨this.sm,this.inv.vw⟩
theorem EA.St.le{l:EA}{c:CfM}{t t' T T':Nat}(h:l.St c t T)(h1:t<=t')(h2:T<=T'):l.St c t' T':=⟨fun k hk=>⟨(h.keep k hk).1.le h1,(h.keep k hk).2⟩,h.notes,h.note,h.state,AA h.turn h2⟩
theorem lg0_st(c:CfM):(⟨1,[],[]⟩:EA).St c 0 1:=by
 refine⟨fun k hk=>?_,by show(0:Nat)<150;decide,(fun _ e=>by cases e),⟨Af _,fun _ e=>by cases e⟩,Al _⟩
 have e:Ds ⟨1,[],[]⟩ c.shards.toNat=List.replicate c.shards.toNat Wt:=KS_nil _
 rw[e]at hk
 rw[(List.mem_replicate.1 hk).2]
 exact⟨⟨Af _,(fun _ e=>by cases e),iz0,iz0⟩,by decide,by decide,by decide⟩
theorem newN_st{me n sh b:Int}{k:DW}{t:Nat}(h1:1<=me)(h2:me<=n)(h3:n<=7)(h4:0<=sh/\sh<=4)(h5:1<=b/\b<=1000)(hk:k.Sm t)(hv:0<=k.normal/\k.normal<=k.view/\k.view<=1099511627776)(ht:t<=1000):(QaQ me n sh b k).St t:=by
 have hl:=hk.len
 exact⟨⟨hk.len,hk.ent,(fun _ _ e=>by cases e),hv,(by show(0:Int)<=t;omega),(by show(0:Int)<=0+1;omega),AK 0,Al _,(fun _ e=>by cases e),(fun _ e=>by cases e),(fun _ e=>by cases e),rfl,(fun _=>rfl),rfl,rfl,rfl,rfl,rfl⟩,
  ⟨⟨h1,h2⟩,h3,h4,⟨h5.1,by show b<=_;omega⟩,⟨by show 0<=k.view;omega,hv.2.2⟩,⟨hv.1,by show k.normal<=_;omega⟩,by show k.log.length<=_;omega,fun x hx=>by have:=(hk.ent x hx).1;omega,⟨AK 0,(by decide:(0:Int)<=1099511627776)⟩,⟨AK 0,(by decide:(0:Int)<=1099511627776)⟩,⟨trivial,(fun _ _ e=>by cases e),trivial,(fun _ _ e=>by cases e),trivial,(fun _ _ e=>by cases e),(fun _ _ e=>by cases e)⟩,Al _,Al _,Al _⟩⟩
theorem sh0_run(s:Bool){st:Int}(h:st<=1048576):(sh0 s st).Run 0:=
 ⟨⟨⟨trivial,by show(0:Nat)<_;decide,(fun _ e=>by cases e),(fun _ _ e=>by cases e),trivial,trivial,(fun _ _ e=>by cases e)⟩,by show(0:Nat)+1<_;decide,(fun _=>Al _),AK 0,h,trivial⟩,Al _⟩
theorem Kp{l:EA}{c:CfM}{t T:Nat}{me:Int}(hc:c.Sm)(h:l.St c t T)(h1:1<=me)(h2:me<=c.nodes)(ht:t<=640):(∀k∈Ds l c.shards.toNat,¬Zx me c.nodes c.patience k/\k.log.length<=1048576)/\(YZ c me l).St c t 0 T/\(YZ c me l).keeps=Ds l c.shards.toNat:=by
 have hok:=hc.ok;have q1:=hok.shards;have q2:=hok.nodes;have q3:=hok.patience;have q4:=hc.shards
 have hkl:=Nx l c.shards.toNat
 have hpl:(YZ c me l).parts.length=c.shards.toNat:=by show((Ds l c.shards.toNat).mapIdx _).length=_;rw[List.length_mapIdx,hkl]
 have b:(YZ c me l).keeps=Ds l c.shards.toNat:=by
  show((Ds l c.shards.toNat).mapIdx (Ic c me)).map (fun m=>m.core.keep)=_
  apply List.ext_getElem?
  intro i
  rw[Aq,List.getElem?_mapIdx]
  cases (Ds l c.shards.toNat)[i]? <;>rfl
 have d:∀(i:Nat) (m:CU),(YZ c me l).parts[i]? =some m->∃k,k∈Ds l c.shards.toNat/\i<2/\m=Ic c me i k:=fun i m hi=>by
  have hlt:=(Ab.1 hi).1
  have hi:((Ds l c.shards.toNat).mapIdx (Ic c me))[i]? =some m:=hi
  rw[List.getElem?_mapIdx]at hi
  cases e:(Ds l c.shards.toNat)[i]? with
  |none=>rw[e]at hi;cases hi
  |some k=>rw[e]at hi;cases hi;exact⟨k,Aj e,by omega,rfl⟩
 refine⟨fun k hk=>?_,⟨rfl,by rw[hpl];omega,fun i m hi=>?_,fun i m hi=>?_,?_,h.notes,h.note,h.state,h.turn,?_,?_,?_,(fun _ e=>by cases e),Al _⟩,b⟩
 ·obtain⟨hs,hv⟩:=h.keep k hk
  have:=hs.len
  unfold Zx
  omega
 ·obtain⟨k,hk,EQ,rfl⟩:=d i m hi
  obtain⟨hs,hv⟩:=h.keep k hk
  refine⟨newN_st h1 h2 (by omega) (by omega) q3 hs hv (by omega),(sh0_run _ hok.stamps.2).a,rfl,trivial,trivial,(fun _ _ e=>by cases e)⟩
 ·obtain⟨k,hk,_,rfl⟩:=d i m hi
  show(0:Int)<=T
  omega
 ·rw[b,hpl];rfl
 ·refine⟨by show 1<=max c.nodes 1/\max c.nodes 1<=7;omega,by show 0<=c.patience/\c.patience<=1099511627776;omega,⟨AK 0,by show(0:Int)<=T;omega⟩,⟨AK 0,(by decide:(0:Int)<=1099511627776)⟩,(fun e=>by cases e),⟨AK 0,by show(0:Int)<=c.patience;omega⟩,trivial,(fun _ _ e=>by cases e),⟨Af _,Af _⟩,Af _⟩
 ·exact⟨Fs (k:=0) (by decide) (by decide) Ma,fun _ e=>by cases e⟩
 ·show -1<=(-1:Int)/\(-1:Int)<_
  omega
def CG.Like(a b:CG):Prop:=a.ops=b.ops/\a.id=b.id/\a.shards=b.shards/\a.patience=b.patience
theorem CG.Like.refl(a:CG):a.Like a:=⟨rfl,rfl,rfl,rfl⟩
theorem CG.Like.trans{a b c:CG}(h:a.Like b)(k:b.Like c):a.Like c:=⟨h.1.trans k.1,h.2.1.trans k.2.1,h.2.2.1.trans k.2.2.1,h.2.2.2.trans k.2.2.2⟩
structure CG.Gone(a b:CG):Prop where
 like:b.Like a
 wait:b.wait=a.wait/\b.waited=a.waited
 cur:b.Cur
theorem Tl(c:CG)(i:Int):c.Gone (c.go4 i):=by
 unfold CG.go4
 simp only
 split
 ·rename_i h;exact⟨⟨rfl,rfl,rfl,rfl⟩,⟨rfl,rfl⟩,fun _=>h⟩
 ·exact⟨⟨rfl,rfl,rfl,rfl⟩,⟨rfl,rfl⟩,fun e=>by rcases e with e|e<;>simp at e⟩
theorem TJ(c:CG)(i:Int):c.Gone (c.go7 i):=by
 unfold CG.go7
 simp only
 split
 ·rename_i h;exact⟨⟨rfl,rfl,rfl,rfl⟩,⟨rfl,rfl⟩,fun _=>h⟩
 ·exact⟨⟨rfl,rfl,rfl,rfl⟩,⟨rfl,rfl⟩,fun e=>by rcases e with e|e<;>simp at e⟩
theorem TM(c:CG)(i:Int):c.Gone (c.go1 i):=by
 unfold CG.go1
 simp only
 split
 ·rename_i h;exact⟨⟨rfl,rfl,rfl,rfl⟩,⟨rfl,rfl⟩,fun _=>h⟩
 ·split
  ·have h:=Tl (({c with stage:=1}:CG).goA i ({c with stage:=1}:CG).rdQ) 0
   exact⟨h.like,h.wait,h.cur⟩
  ·exact⟨⟨rfl,rfl,rfl,rfl⟩,⟨rfl,rfl⟩,fun e=>by rcases e with e|e<;>simp at e⟩
theorem PM(c:CG):c.Gone c.fail:=by
 unfold CG.fail
 split
 ·exact⟨⟨rfl,rfl,rfl,rfl⟩,⟨rfl,rfl⟩,fun e=>by rcases e with e|e<;>simp at e⟩
 ·exact⟨⟨rfl,rfl,rfl,rfl⟩,⟨rfl,rfl⟩,fun e=>by rcases e with e|e<;>simp[CG.failA]at e⟩
theorem Se{c:CG}(h:c.Fit):c.fail.Fit:=by
 unfold CG.fail
 split<;>exact⟨h.ops,h.key,h.shards,h.patience,h.at_,h.waited,h.values⟩
theorem VY:∀(ks vs:List Int) (m:List (Int×Int)),KN m->KN (KK ks vs m)
 |k::ks,v::vs,m,h=>VY ks vs _ h.aset
 |[],_,_,h=>by unfold KK;exact h
 |_::_,[],_,h=>by unfold KK;exact h
theorem Qak{a b d:CG}(g:a.Gone b)(hf:b.Fit)(hw:a.wait=false)(hl:a.Like d):b.Good/\b.Like d:=⟨⟨hf,g.cur,fun e=>by rw[g.wait.1,hw]at e;cases e⟩,g.like.trans hl⟩
theorem XL{d:CG}(hf:d.Fit)(hc:d.Cur)(hw:d.wait=false)(a:Jd):(d.take a).Good/\(d.take a).Like d:=by
 have hat:=hf.at_
 have f:∀ {b:CG},b.Fit->b.Cur->b.wait=false->b.Like d->b.Good/\b.Like d:=fun h1 h2 h3 h4=>⟨⟨h1,h2,fun e=>by rw[h3]at e;cases e⟩,h4⟩
 unfold CG.take
 split
 ·split
  ·exact Qak (TM {d with start:=a.at_} 0) (CG.go1_fit (c:={d with start:=a.at_}) ⟨hf.ops,hf.key,hf.shards,hf.patience,hf.at_,hf.waited,hf.values⟩ (AK 0) (by decide)) hw ⟨rfl,rfl,rfl,rfl⟩
  ·exact f (hf.st 8 3) (fun e=>by rcases e with e|e<;>simp at e) hw ⟨rfl,rfl,rfl,rfl⟩
 ·split
  ·rename_i h0 h1
   have hlt:=hc (.inl (by omega))
   have hsh:=hf.shards
   unfold CG.got
   split
   ·split
    ·exact f ⟨hf.ops,hf.key,hf.shards,hf.patience,hf.at_,hf.waited,hf.values⟩ (fun _=>hlt) rfl ⟨rfl,rfl,rfl,rfl⟩
    ·rename_i hp
     exact⟨⟨⟨hf.ops,hf.key,hf.shards,hf.patience,hf.at_,hf.waited,hf.values⟩,fun _=>hlt,fun _=>by show d.waited<d.patience;omega⟩,⟨rfl,rfl,rfl,rfl⟩⟩
   ·split
    ·exact f (hf.st 8 3) (fun e=>by rcases e with e|e<;>simp at e) hw ⟨rfl,rfl,rfl,rfl⟩
    ·exact Qak (TM {d with values:=KK (d.reads d.at_) a.vals d.values,waited:=0} (d.at_+1)) (CG.go1_fit (c:={d with values:=KK (d.reads d.at_) a.vals d.values,waited:=0}) ⟨hf.ops,hf.key,hf.shards,hf.patience,hf.at_,⟨AK 0,by have:=hf.patience;show(0:Int)<=d.patience+1;omega⟩,VY _ _ _ hf.values⟩ (i:=d.at_+1) (by omega) (by omega)) hw ⟨rfl,rfl,rfl,rfl⟩
  ·split
   ·rename_i h0 h1 h2
    have hlt:=hc (.inl (by omega))
    exact f ⟨hf.ops,hf.key,hf.shards,hf.patience,hf.at_,hf.waited,hf.values⟩ (fun _=>hlt) hw ⟨rfl,rfl,rfl,rfl⟩
   ·split
    ·rename_i h0 h1 h2 h3
     have hlt:=hc (.inl (by omega))
     exact f ⟨hf.ops,hf.key,hf.shards,hf.patience,hf.at_,⟨AK 0,by have:=hf.patience;show(0:Int)<=d.patience+1;omega⟩,hf.values⟩ (fun _=>hlt) hw ⟨rfl,rfl,rfl,rfl⟩
    ·split
     ·rename_i h0 h1 h2 h3 h4
      have hlt:=hc (.inl (by omega))
      have hsh:=hf.shards
      split
      ·exact Qak (Tl d (d.at_+1)) (CG.go4_fit hf (by omega) (by omega)) hw ⟨rfl,rfl,rfl,rfl⟩
      ·exact Qak (PM d) (Se hf) hw ⟨rfl,rfl,rfl,rfl⟩
     ·split
      ·split
       ·exact f ⟨hf.ops,hf.key,hf.shards,hf.patience,hf.at_,hf.waited,hf.values⟩ (fun e=>by rcases e with e|e<;>simp at e) hw ⟨rfl,rfl,rfl,rfl⟩
       ·exact Qak (PM d) (Se hf) hw ⟨rfl,rfl,rfl,rfl⟩
      ·split
       ·exact Qak (TJ (d.told a) 0) (CG.go7_fit (c:=d.told a) ⟨hf.ops,hf.key,hf.shards,hf.patience,hf.at_,hf.waited,hf.values⟩ (AK 0) (by decide)) hw ⟨rfl,rfl,rfl,rfl⟩
       ·split
        ·rename_i h7
         have hlt:=hc (.inr h7)
         have hsh:=hf.shards
         exact Qak (TJ d (d.at_+1)) (CG.go7_fit hf (by omega) (by omega)) hw ⟨rfl,rfl,rfl,rfl⟩
        ·exact f hf hc hw (.refl _)
theorem KQ(c:CG):c.next.1.Like c/\c.next.1.wait=c.wait/\c.next.1.waited=c.waited:=by
 rcases c.next_or with h|h<;>rw[h]<;>exact⟨⟨rfl,rfl,rfl,rfl⟩,rfl,rfl⟩
theorem OV{c:CG}(h:c.Good):c.next.1.Good:=by
 obtain⟨h1,h2⟩:=QaH h.fit h.cur
 obtain⟨h3,h4,h5⟩:=KQ c
 exact⟨h1,h2,fun e=>by rw[h5,h3.2.2.2];exact h.wait (by rw[<-h4];exact e)⟩
theorem Pw{c:CG}(h:c.Good)(a:Jd):(c.in_ a).Good/\(c.in_ a).Like c:=by
 obtain⟨h1,h2⟩:=QaH h.fit h.cur
 obtain⟨h3,h4,h5⟩:=KQ c
 unfold CG.in_
 split
 ·rename_i e
  have hw:c.wait=false:=by
   cases hw:c.wait with
   |false=>rfl
   |true=>unfold CG.next at e;rw[Ah hw]at e;cases e
  obtain⟨k1,k2⟩:=XL h1 h2 (h4.trans hw) a
  exact⟨k1,k2.trans h3⟩
 ·exact⟨OV h,h3⟩
structure CG.Sm(t:CG):Prop where
 id:0<=t.id/\t.id<=63
 ops:t.ops.length<=4
 op:∀o∈t.ops,0<=o.key/\o.key<=3/\0<=o.val/\o.val<=700
theorem CG.Sm.like{a b:CG}(h:a.Sm)(k:b.Like a):b.Sm:=⟨by rw[k.2.1];exact h.id,by rw[k.1];exact h.ops,by rw[k.1];exact h.op⟩
theorem Nl{c:CG}{at_:Int}:∀ {os:List Es} {o:Es},o∈c.wrsL at_ os->o∈os
 |[],_,h=>h
 |p::os,o,h=>by
  unfold CG.wrsL at h
  split at h
  ·rcases AW.1 h with rfl|h
   ·exact Ar
   ·exact Aw _ (Nl h)
  ·exact Aw _ (Nl h)
theorem NS{c:CG}{at_:Int}{P:Int->Prop}:∀ {os:List Es} {out:List Int} {wr:List (Int×Bool)},(∀o∈os,P o.key)->(∀k∈out,P k)->∀k∈c.rdsL at_ os out wr,P k
 |[],_,_,_,h=>h
 |p::os,out,wr,h1,h2=>by
  unfold CG.rdsL
  have h3:=fun o ho=>h1 o (Aw _ ho)
  split
  ·exact NS h3 h2
  ·refine NS h3 ?_
   split
   ·exact Fy h2 (h1 p Ar)
   ·exact h2
theorem Tu:∀ {os:List Es} {w:CF},(∀o∈os,0<=o.key/\o.key<=3/\0<=o.val/\o.val<=700)->(w.ops os).n<=w.n+26*os.length
 |[],_,_=>Al _
 |o::os,w,h=>by
  obtain⟨h1,h2,h3,h4⟩:=h o Ar
  have e1:=DI (w:=w) (x:=o.key) (k:=3) h1 (by omega) (by omega)
  have e2:=DI (w:=w.int o.key) (x:=o.val) (k:=11) h3 (by omega) (by omega)
  have:=Tu (w:=(w.int o.key).int o.val) fun p hp=>h p (Aw _ hp)
  show(((w.int o.key).int o.val).ops os).n<=_
  rw[Am];omega
theorem Pq:∀ {ks:List Int} {w:CF},(∀k∈ks,0<=k/\k<=3)->(w.ints ks).n<=w.n+5*ks.length
 |[],_,_=>Al _
 |k::ks,w,h=>by
  obtain⟨h1,h2⟩:=h k Ar
  have e1:=DI (w:=w) (x:=k) (k:=3) h1 (by omega) (by omega)
  have:=Pq (w:=w.int k) fun p hp=>h p (Aw _ hp)
  show((w.int k).ints ks).n<=_
  rw[Am];omega
theorem PC{k id home start:Int}{ws:List Es}{rs:List Int}(h0:0<=k/\k<=7)(h1:0<=id/\id<=63)(h2:0<=home/\home<=5)(h3:ws.length<=4)(h4:∀o∈ws,0<=o.key/\o.key<=3/\0<=o.val/\o.val<=700)(h5:rs.length<=4)(h6:∀k∈rs,0<=k/\k<=3):Je (⟨k,⟨id,home,start,ws,rs⟩,Ma⟩:KM).wr.b:=by
 have hf:(⟨k,⟨id,home,start,ws,rs⟩,Ma⟩:KM).ready.Fit:=⟨by show ws.length<=_;omega,by show rs.length<=_;omega⟩
 refine wr_ent (KM.wr_ok hf).1 ?_
 obtain⟨w1,hw1⟩:∃w,w=EV.int k:=⟨_,rfl⟩
 obtain⟨j,b⟩:∃w,w=w1.int id:=⟨_,rfl⟩
 obtain⟨l,c⟩:∃w,w=j.int home:=⟨_,rfl⟩
 obtain⟨m,d⟩:∃w,w=l.int start:=⟨_,rfl⟩
 obtain⟨n,e⟩:∃w,w=m.num ws.length:=⟨_,rfl⟩
 obtain⟨p,f⟩:∃w,w=n.ops ws:=⟨_,rfl⟩
 obtain⟨q,g⟩:∃w,w=p.num rs.length:=⟨_,rfl⟩
 obtain⟨i,h⟩:∃w,w=q.ints rs:=⟨_,rfl⟩
 have e0:EV.n=0:=rfl
 have e1:=DI (w:=EV) (x:=k) (k:=4) h0.1 (by omega) (by omega)
 have e2:=DI (w:=w1) (x:=id) (k:=7) h1.1 (by omega) (by omega)
 have e3:=DI (w:=j) (x:=home) (k:=4) h2.1 (by omega) (by omega)
 have e4:=(YU l start).2
 have e5:=Hm (w:=m) (x:=ws.length) (k:=3) (by omega) (by omega)
 have e6:=Tu (w:=n) h4
 have e7:=Hm (w:=p) (x:=rs.length) (k:=3) (by omega) (by omega)
 have e8:=Pq (w:=q) h6
 have e9:=DI (w:=i) (x:=0) (k:=1) (by decide) (by decide) (by decide)
 have r:((i.int 0).put 0 1).n=(i.int 0).n+1:=ZT 0 1
 have eb:=DI (w:=(i.int 0).put 0 1) (x:=0) (k:=1) (by decide) (by decide) (by decide)
 rw[<-hw1]at e1;rw[<-b]at e2;rw[<-c]at e3;rw[<-d]at e4;rw[<-e]at e5;rw[<-f]at e6;rw[<-g]at e7;rw[<-h]at e8
 have hn:(⟨k,⟨id,home,start,ws,rs⟩,Ma⟩:KM).wr.n=(((i.int 0).put 0 1).int 0).n:=by rw[h,g,f,e,d,c,b,hw1];rfl
 rw[hn]
 omega
theorem next_ent{t:CG}(h:t.Sm)(hf:t.Fit):Je t.next.2.1.cmd.wr.b:=by
 have hfi:=Qbk hf (AK 0) (by decide) t.conc
 have c:∀i,(t.writes i).length<=4/\∀o∈t.writes i,0<=o.key/\o.key<=3/\0<=o.val/\o.val<=700:=fun i=>⟨by have:=QaG t i t.ops;have:=h.ops;unfold CG.writes;omega,fun o ho=>h.op o (Nl ho)⟩
 have b:∀i,(t.reads i).length<=4/\∀k∈t.reads i,0<=k/\k<=3:=fun i=>⟨by have:=Qap t i t.ops [] [];have:=h.ops;unfold CG.reads;simp only[List.length_nil]at*;omega,NS (fun o ho=>⟨(h.op o ho).1,(h.op o ho).2.1⟩) (fun _ e=>by cases e)⟩
 unfold CG.next
 split
 ·exact Fs (k:=0) (by decide) (by decide) Ma
 ·split
  ·exact Fs (k:=1) (by decide) (by decide) Ma
  ·split
   ·exact PC (by decide) h.id (by decide) (Af _) (fun _ e=>by cases e) (b _).1 (b _).2
   ·split
    ·exact Fs (k:=4) (by decide) (by decide) _
    ·split
     ·exact Fs (k:=5) (by decide) (by decide) _
     ·split
      ·refine PC (by decide) h.id hfi (c _).1 (c _).2 ?_ ?_
       ·split
        ·exact(b _).1
        ·exact Af _
       ·split
        ·exact(b _).2
        ·exact fun _ e=>by cases e
      ·split
       ·exact Fs (k:=4) (by decide) (by decide) _
       ·split
        ·exact Fs (k:=5) (by decide) (by decide) _
        ·exact Fs (k:=0) (by decide) (by decide) Ma
theorem UU{t:CG}(hf:t.Fit):t.next.2.1.cmd.ready.Fit:=by
 unfold CG.next
 repeat' split
 all_goals first|exact Gm|exact⟨Af _,ZY hf _⟩|exact⟨Qag hf _,ZY hf _⟩|exact⟨Qag hf _,Af _⟩
structure De.St(x:De)(c:CfM)(b:Nat):Prop where
 cf:x.c=c
 fit:x.Fit b
 id3:x.id<=3
 nl:(x.n:Int)+x.left=c.txns
 gen:x.gen.Ok (13*x.n)
 genp:x.gen.p=c.plan
 txn:∀t,x.txn=some t->t.Sm
 post:x.post.Sm
 b40:40<=b
section
variable {x:De}{c:CfM}{b:Nat}
theorem EJ.Ok.le{g:EJ}{b b':Nat}(h:g.Ok b)(k:b<=b'):g.Ok b':=⟨h.p,h.client,AA h.n k⟩
theorem De.St.le(h:x.St c b){b':Nat}(k:b<=b'):x.St c b':=by
 have ha:=h.fit.age
 exact⟨h.cf,⟨h.fit.c,h.fit.id,h.fit.gen.le k,h.fit.left,AA h.fit.n k,by omega,h.fit.txn,h.fit.post.le k,AA h.fit.events k⟩,h.id3,h.nl,h.gen,h.genp,h.txn,h.post,AA h.b40 k⟩
theorem De.St.evt(h:x.St c b)(k:Int)(os:List Es):(x.evt k os).St c (b+1):=by
 have h':=h.le (AL b)
 exact⟨h'.cf,⟨h'.fit.c,h'.fit.id,h'.fit.gen,h'.fit.left,h'.fit.n,h'.fit.age,h'.fit.txn,h'.fit.post,by show(x.events++[_]).length<=_;rw[Ac];exact Ci h.fit.events⟩,h'.id3,h'.nl,h'.gen,h'.genp,h'.txn,h'.post,h'.b40⟩
theorem De.St.tell(h:x.St c b):x.tell.St c b:=⟨h.cf,⟨h.fit.c,h.fit.id,h.fit.gen,h.fit.left,h.fit.n,h.fit.age,h.fit.txn,h.fit.post,h.fit.events⟩,h.id3,h.nl,h.gen,h.genp,h.txn,h.post,h.b40⟩
theorem De.St.setT(h:x.St c b){o:Option CG}{p:Du}{a:Int}{b':Nat}(hb:b<=b')(ho:∀t,o=some t->t.Good/\t.Sm)(hp:p.Fit b')(hs:p.Sm)(ha:0<=a/\a<=50000+b'):De.St {x with txn:=o,post:=p,age:=a} c b':=by
 have h':=h.le hb
 exact⟨h'.cf,⟨h'.fit.c,h'.fit.id,h'.fit.gen,h'.fit.left,h'.fit.n,ha,fun t e=>(ho t e).1,hp,h'.fit.events⟩,h'.id3,h'.nl,h'.gen,h'.genp,fun t e=>(ho t e).2,hs,h'.b40⟩
theorem De.St.noT(h:x.St c b):x.noT.St c b:=h.setT (Al _) (fun _ e=>by cases e) h.fit.post h.post h.fit.age
theorem De.St.goE(h:x.St c b)(t:CG):(x.goE t).St c (b+1):=by
 unfold De.goE
 split
 ·exact(h.evt _ _).tell
 ·exact h.le (AL b)
theorem De.St.go1(h:x.St c b):x.go1.St c (b+3):=by
 unfold De.go1
 split
 ·exact h.le (by omega)
 ·rename_i t ht
  have hg:=h.fit.txn t ht;have hs:=h.txn t ht
  have he:=h.goE t
  split
  ·exact he.noT.le (by omega)
  ·have hn:∀q,some t.next.1=some q->q.Good/\q.Sm:=fun q e=>by cases e;exact⟨OV hg,hs.like (KQ t).1⟩
   have ha:=he.fit.age
   unfold De.goN
   split
   ·exact he.setT (b':=b+3) (by omega) hn (Qbi he.fit.post (UU hg.fit)) (he.post.askA (next_ent hs hg.fit)) (by omega)
   ·exact he.setT (b':=b+3) (by omega) hn (he.fit.post.le (by omega)) he.post (by omega)
theorem Du.Sm.drop{p:Du}(h:p.Sm):p.drop.Sm:=⟨h.ask,h.out⟩
theorem De.St.tk0(h:x.St c b):x.tk0.St c (b+1):=by
 have ha:=h.fit.age
 exact h.setT (AL b) (fun t e=>⟨h.fit.txn t e,h.txn t e⟩) (Qai h.fit.post) h.post.tick (by omega)
theorem XC(t:CG):t.tick.Like t:=by unfold CG.tick;split<;>exact⟨rfl,rfl,rfl,rfl⟩
theorem De.St.tk1(hc:c.Sm)(h:x.St c b):x.tk1.St c (b+2):=by
 unfold De.tk1
 split
 ·exact h.le (by omega)
 ·rename_i t ht
  have ha:=h.fit.age
  have hp:=hc.patience
  have hg:=(h.fit.txn t ht).tick
  have hs:=(h.txn t ht).like (XC t)
  have d:∀q,some t.tick=some q->q.Good/\q.Sm:=fun q e=>by cases e;exact⟨hg,hs⟩
  split
  ·unfold De.give De.giveE
   have h1:=h.setT (b':=b+1) (o:=some t.tick) (p:=x.post.drop) (a:=x.age+1) (by omega) d (Qbf (h.fit.post.le (by omega))) h.post.drop (by omega)
   split
   ·exact(h1.evt _ _).noT
   ·exact h1.noT.le (by omega)
  ·exact h.setT (by omega) d (h.fit.post.le (by omega)) h.post (by omega)
theorem De.St.beg(hc:c.Sm)(h:x.St c b)(hl:0<x.left):x.beg.St c (b+14):=by
 have hn:=h.nl;have ht:=hc.txns;have hi:=h.fit.id;have hi3:=h.id3
 have k:x.n<=2:=by omega
 obtain⟨g1,g2,l,m,j,g⟩:=Qq h.gen (c:=700) (by omega)
 rw[h.genp]at j g
 have f:x.gen.next.2.length<=4:=by have:=hc.most;omega
 have d:∀o∈x.gen.next.2,0<=o.key/\o.key<=3/\0<=o.val/\o.val<=700:=fun o ho=>by
  obtain⟨_,k1,k2,k3,k4⟩:=g o ho
  have:=hc.keys
  omega
 have h':=h.le (show b<=b+14 by omega)
 have hpt:=hc.ok.patience
 have hgood:=QaB x.num x.gen.next.2 (decide (x.c.level=2)) x.c.shards x.c.patience (by omega) (fun o ho=>by have:=d o ho;omega) (by rw[h.cf];omega)
 have i:x.num=((16*(x.n+1)+(x.id-1):Nat):Int):=rfl
 refine⟨h.cf,⟨h'.fit.c,h'.fit.id,(h.fit.gen.le (Al b) |> fun _=>g1.le (by have:=h.b40;omega)),?_,?_,?_,fun t e=>?_,h'.fit.post,?_⟩,h.id3,?_,?_,g2.trans h.genp,fun t e=>?_,h.post,h'.b40⟩
 ·have:=h.fit.left;show 0<=x.left-1/\x.left-1<=100;omega
 ·show x.n+1<=_;have:=h.fit.n;omega
 ·show(0:Int)<=0/\(0:Int)<=50000+_;omega
 ·cases e;exact hgood
 ·show(x.events++[_]).length<=_
  rw[Ac];have:=h.fit.events;simp;omega
 ·show((x.n+1:Nat):Int)+(x.left-1)=c.txns;omega
 ·show x.gen.next.1.Ok (13*(x.n+1));exact g1.le (by omega)
 ·cases e
  refine⟨?_,f,d⟩
  show 0<=x.num/\x.num<=63
  omega
theorem De.St.tk2(hc:c.Sm)(h:x.St c b):x.tk2.St c (b+14):=by
 unfold De.tk2
 split
 ·exact h.le (by omega)
 ·split
  ·rename_i hl;exact h.beg hc hl
  ·exact h.le (by omega)
theorem De.St.tick(hc:c.Sm)(h:x.St c b):x.tick.St c (b+20):=by
 exact(((h.tk0.tk1 hc).tk2 hc).go1).le (by omega)
theorem De.St.in_(h:x.St c b){m:Db}(hm:m.Dec):(x.in_ m).St c (b+20):=by
 have hfr:=hm.nums m.from_ (by simp[Db.nums])
 have ha:=h.fit.age
 unfold De.in_
 split
 ·exact h.le (by omega)
 ·rename_i t ht
  have hg:=h.fit.txn t ht;have hs:=h.txn t ht
  split
  ·exact h.le (by omega)
  ·split
   ·obtain⟨k1,k2⟩:=Pw hg (x.post.in_ m).2.1
    have h1:=h.setT (b':=b) (o:=some (t.in_ (x.post.in_ m).2.1)) (p:=(x.post.in_ m).1) (a:=x.age) (Al _) (fun q e=>by cases e;exact⟨k1,hs.like k2⟩) (QaA h.fit.post hfr) (h.post.in_ m) ha
    exact h1.go1.le (by omega)
   ·exact(h.setT (b':=b) (o:=x.txn) (p:=(x.post.in_ m).1) (a:=x.age) (Al _) (fun q e=>⟨h.fit.txn q e,h.txn q e⟩) (QaA h.fit.post hfr) (h.post.in_ m) ha).le (by omega)
def De.cleared(x:De):De:={x with events:=[],post:={x.post with out:=[]}}
theorem De.St.cleared(h:x.St c b):x.cleared.St c b:=
 ⟨h.cf,⟨h.fit.c,h.fit.id,h.fit.gen,h.fit.left,h.fit.n,h.fit.age,h.fit.txn,⟨h.fit.post.nodes,h.fit.post.patience,h.fit.post.id,h.fit.post.to,h.fit.post.toO,h.fit.post.age,h.fit.post.lead,h.fit.post.leadV,h.fit.post.ready,Af _⟩,Af _⟩,h.id3,h.nl,h.gen,h.genp,h.txn,⟨h.post.ask,fun _ e=>by cases e⟩,h.b40⟩
theorem clnew_st(hc:c.Sm){id:Nat}(h1:1<=id)(h2:(id:Int)<=c.clients):(De.new c id).St c 40:=by
 have q1:=hc.clients;have q2:=hc.ok.txns;have q3:=hc.ok.patience;have q4:=hc.ok.nodes
 refine⟨rfl,⟨hc.ok,⟨h1,by show id<=16;omega⟩,⟨hc.ok.plan,⟨h1,by show id<=16;omega⟩,Af _⟩,⟨q2.1,q2.2⟩,Af _,⟨AK 0,by show(0:Int)<=50000+((40:Nat):Int);decide⟩,(fun _ e=>by cases e),?_,Af _⟩,by show id<=3;omega,by show((0:Nat):Int)+c.txns=c.txns;omega,⟨hc.ok.plan,⟨h1,by show id<=16;omega⟩,Af _⟩,rfl,(fun _ e=>by cases e),⟨Fs (k:=0) (by decide) (by decide) Ma,fun _ e=>by cases e⟩,Al _⟩
 exact⟨by show 1<=max c.nodes 1/\max c.nodes 1<=7;omega,by show 0<=c.patience/\c.patience<=1099511627776;omega,⟨AK 0,by show(0:Int)<=((40:Nat):Int);decide⟩,⟨AK 0,(by decide:(0:Int)<=1099511627776)⟩,(fun e=>by cases e),⟨AK 0,by show(0:Int)<=c.patience;omega⟩,trivial,(fun _ _ e=>by cases e),⟨Af _,Af _⟩,Af _⟩
end

import Derived.Test.YtheoifhidoofbaaGreatDoorM11
set_option maxRecDepth 100000
set_option maxHeartbeats 2000000
namespace Go.Cru
open Go Go.Proofs
open Go.Proofs.Tryz renaming prog→P0
theorem Rh{r:CI}{i:Nat}{n:Fz}(hn:r.nds[i]? =some n):r.do_ 8 ((i:Int)+1) 0=(r.setN i ⟨false,n.x⟩,0):=by
 have hi:=(Ab.1 hn).1
 unfold CI.do_
 rw[Aa (by omega),Aa (by omega),Aa (by omega),Aa (by omega),Aa (by omega),Aa (by omega),Aa (by omega),Aa (by omega),Aa (by omega),Aa (by omega),Ah rfl,show((i:Int)+1-1).toNat=i by omega]
 unfold CI.crash
 rw[hn]
theorem SZ{r:CI}{i:Nat}{x:CR}(hn:r.nds[i]? =some ⟨false,x⟩):r.do_ 9 ((i:Int)+1) 0=(r.setN i ⟨true,YZ r.c ((i:Int)+1) x.log⟩,0):=by
 have hi:=(Ab.1 hn).1
 have b:r.isUp i=false:=by unfold CI.isUp;rw[hn]
 unfold CI.do_
 rw[Aa (by omega),Aa (by omega),Aa (by omega),Aa (by omega),Aa (by omega),Aa (by omega),Aa (by omega),Aa (by omega),Aa (by omega),Aa (by omega),Aa (by omega),Ah rfl,show((i:Int)+1-1).toNat=i by omega,b,Aa (fun e=>by cases e)]
 unfold CI.start
 rw[hn]
theorem Mv{r:CI}{i:Nat}{n m:Fz}(hn:r.nds[i]? =some n):(r.setN i m).nds[i]? =some m:=by
 show(r.nds.set i m)[i]? =_
 rw[Bj (Ab.1 hn).1]
theorem QL(L:PL):Reads (pool L) none (iv []):=Reads.pool (m:=0) (cap:=0) ⟨none,0,rfl,Al _,Af _,fun i u h=>by cases h⟩
theorem Wv{x:CR}{j:Nat}{m:CU}(h:x.parts[j]? =some m):x.keeps[j]? =some m.core.keep:=by
 show(x.parts.map fun m=>m.core.keep)[j]? =_
 rw[Aq,h];rfl
theorem whole_spec(L:PL)(hG:GLB L)(c:CfM)(hs:c.seed<18446744073709551616)(sa:A_)(sc:Nat)(ss:List SpM)(scs:V_)(hsl:ss.length<=maxLen)(g1:Rws (SpR L) scs ss)(hps:∀L',Le L L'->Reads (pool L') sa scs)(b1:Int)(ka:A_)(kc:Nat)(zs:List Int)(g3:zs.length<=maxLen)(g4:∀L',Le L L'->Reads (pool L') ka (iv zs)):
  Sp P0 3 [.agg (cfv c).toArray,.slice sa ss.length sc,Cs b1,.slice ka zs.length kc] [pool L] fun v h=>v= .bool true/\∃L',Le L L'/\h=[pool L']:=by
 obtain⟨an,f3,h9,i4⟩:∃a,Fx .i64 b1 1023=a/\0<=a/\a<=1023:=EO (y:=1023) (by decide)
 refine Sq Tryz.func3 fun w0 b_=>?_
 refine OA 2 ?_
 refine O6 YR fun b4=>?_
 refine OA 5 ?_
 refine Oc rfl (en 4) rfl (.p0 .d) (Vy L hG) ?_
 rintro _ _ ⟨rfl,L1,H,rfl⟩
 refine O1 (YK (v':=.bool false) (Ct.not rfl rfl) rfl) ?_
 refine OA 10 ?_
 refine Cy rfl (fun e3=>?_) (fun e3=>?_)
 ·refine OA 4 ?_
  exact Cu (CB rfl rfl (.cons _ (.refl _)) ⟨rfl,L1,H,rfl⟩)
 refine OA 4 ?_
 refine O2 (YP rfl (en 5) rfl (.d) (fit_spec c hs)) ?_
 rintro _ _ ⟨_,⟨c2,g,rfl,rfl⟩,rfl⟩
 refine OA 6 ?_
 refine Oc rfl (en 6) rfl (.p1 .d) (run_spec L1 (hG.le H) c2 g sa sc ss scs hsl (g1.mono fun _ _ h=>h.le H) (fun L' q=>hps L' (H.trans q))) ?_
 rintro _ _ ⟨K,L2,S2,r,t,b2,hst,ht,rfl,rfl⟩
 refine OA 2 ?_
 have hnn:=hst.nn;have hn3:=g.nodes;have hn1:=g.ok.nodes
 have hG2:=hG.le (H.trans b2)
 have hm1:=BR an (show c2.nodes≠0 by omega)
 have hm2:=BI an (show 0<c2.nodes by omega)
 obtain⟨i,hi⟩:∃i:Nat,an%c2.nodes=(i:Int):=⟨(an%c2.nodes).toNat,by omega⟩
 obtain⟨n,hn⟩:∃n,r.nds[i]? =some n:=⟨_,Ae (by omega)⟩
 have hzs2:=fun L' q=>g4 L' ((H.trans b2).trans q)
 refine OA 11 ?_
 refine O1 (YT (Za rfl rfl rfl) f3) ?_
 refine OA 2 ?_
 refine O1 (Ct.rem rfl rfl rfl (by omega) (by omega)) ?_
 refine O1 (YT (y:=(i:Int)+1) (Ct.add rfl rfl rfl (by omega) (by omega)) (by omega)) ?_
 refine OA 6 ?_
 refine Oc rfl (en 7) rfl (.p1 .d) (Iu K S2 L2 r i n hn (by omega)) ?_
 rintro _ _ ⟨k,S3,S4,hv,rfl,f6,rfl⟩
 refine OA 6 ?_
 refine O1 (Ct.nilB hv u33) ?_
 refine On (CP (fun((J,S1,S2,r2,t2,G,q,x,C,pc,ps):PL×N_×N_×CI×Nat×Nat×Nat×CR×A_×Nat×N_)=>[(2,Cs ((i:Int)+1)),(3,.slice ka zs.length kc),(4,Cr b4),(9,Cr K.p),(10,Cr q)]) (fun(J,S1,S2,r2,t2,G,q,x,C,pc,ps)=>[blk b4 (.cells (cfv c2).toArray 26 (0,0)),pool J,cm S1 (RgH K J r2 i (⟨G,some (q,C,pc,ps)⟩:EK)),cm S2 (Jn C pc ps true q G J x)]) (fun(J,S1,S2,r2,t2,G,q,x,C,pc,ps)=>Le L2 J/\r2.St c2 t2/\t2<=510/\r2.nds[i]? =some ⟨true,x⟩) ?_ ?_)
 ·refine CE rfl (fun b0=>?_) (fun b0=>?_)
  ·have hc8:=Rh hn
   have hd8:=fun S=>ID K S L2 r c2 t g hst (by omega) ((i:Int)+1) 0 (by omega) (.slice none 0 0) hG2 (by omega) [] (Af _) ⟨none,0,rfl,QL L2⟩ 8 (by decide)
   have hst8:=hst.do_ g (by omega) 8 ((i:Int)+1) 0
   rw[hc8]at hst8
   simp only[hc8]at hd8
   have hn8:=Mv (m:=⟨false,n.x⟩) hn
   obtain⟨r8,e1⟩:∃r8,r8=r.setN i ⟨false,n.x⟩:=⟨_,rfl⟩
   simp only[<-e1]at hd8 hst8 hn8
   clear e1
   have hc9:=SZ hn8
   have hd9:=fun S L' (q:Le L2 L')=>ID K S L' r8 c2 (t+1) g hst8 (by omega) ((i:Int)+1) 0 (by omega) (.slice none 0 0) (hG2.le q) (by omega) [] (Af _) ⟨none,0,rfl,QL L'⟩ 9 (by decide)
   have hst9:=hst8.do_ g (by omega) 9 ((i:Int)+1) 0
   have hn9:=Mv (m:=⟨true,YZ r8.c ((i:Int)+1) n.x.log⟩) hn8
   rw[hc9]at hst9
   simp only[hc9]at hd9
   obtain⟨y9,e7⟩:∃y9,y9=YZ r8.c ((i:Int)+1) n.x.log:=⟨_,rfl⟩
   simp only[<-e7]at hd9 hst9 hn9
   clear e7
   obtain⟨r9,e2⟩:∃r9,r9=r8.setN i ⟨true,y9⟩:=⟨_,rfl⟩
   simp only[<-e2]at hd9 hst9 hn9
   clear e2
   refine Tx (Cv.rhC (.p3 (.p2 .d)) hn) fun S5=>OA 6 ?_
   refine Oc rfl (en 8) rfl (.p2 (.p1 .d)) (hd8 S5) ?_
   rintro _ _ ⟨rfl,J,S6,N,rfl⟩
   refine O1 (YK (v':=.bool false) (Ct.neq rfl rfl rfl) (by simp)) ?_
   refine OA 4 ?_
   refine Oc rfl (en 8) rfl (.p1 (.p1 .d)) (hd9 S6 J N) ?_
   rintro _ _ ⟨rfl,A,S7,o,rfl⟩
   refine O1 (YK (v':=.bool false) (Ct.neq rfl rfl rfl) (by simp)) ?_
   refine OA 7 ?_
   refine Oc rfl (en 7) rfl (.p1 .d) (Iu K S7 A r9 i ⟨true,y9⟩ hn9 (by have:=hst9.nn;omega)) ?_
   rintro _ _ ⟨k2,S8,S9,c0,rfl,h1,rfl⟩
   refine CL (Qat (n:=⟨true,y9⟩) (.p3 .d) rfl) ?_
   rintro _ ⟨⟨q,C,pc,ps⟩,S10,b5,rfl⟩
   obtain⟨G,a6⟩:=k2
   obtain rfl:a6=some (q,C,pc,ps):=b5
   refine OA 2 ?_
   exact⟨(A,S8,S10,r9,t+1+1,G,q,y9,C,pc,ps),⟨N.trans o,hst9,by omega,hn9⟩,Sb5,.refl _⟩
  obtain⟨u,x⟩:=n
  obtain rfl:u=true:=by
   cases u with
   |true=>rfl
   |false=>cases b0
  refine Cx (Qat (n:=⟨true,x⟩) (.p3 .d) rfl) ?_
  rintro _ ⟨⟨q,C,pc,ps⟩,S10,b5,rfl⟩
  obtain⟨G,a6⟩:=k
  obtain rfl:a6=some (q,C,pc,ps):=b5
  refine Tk ?_
  exact⟨(L2,S3,S10,r,t,G,q,x,C,pc,ps),⟨.refl _,hst,by omega,hn⟩,Sb5,.refl _⟩
 clear hv f6 S3 S4 k
 clear hst hnn hn ht
 rintro⟨J,S1,S2,r2,t2,G,q,x,C,pc,ps⟩ ⟨N,hst,ht,hn⟩
 conv=>arg 4;dsimp only
 conv=>arg 5;dsimp only
 have hnn:=hst.nn
 have c4:x.St c2 t2 0 (1+8*t2):=(hst.nd i _ hn).2 rfl
 have hxp:=c4.parts;have hsh:=g.shards;have hsh1:=g.ok.shards
 have hG3:=hG2.le N
 refine OA 2 ?_
 refine O6 (ZG rfl u39 rfl) fun e8=>?_
 refine OA 7 ?_
 refine Cx (Qaf (.p3 .d)) ?_
 rintro _ ⟨X,Y,oa,oc,mcs,d,Sg,Sd,So,Sl,⟨U,hpl,b6⟩,rfl⟩
 refine Tp (.t0 (.t0 (.t0 (.t1 (.t1 (.t1 (.t1 (.t1 (.t1 (.t1 (.t0 .e))))))))))) (Tb (CD (fun((j,A,S4,wa,wc,F):Nat×PL×N_×A_×Nat×V_)=>[(2,Cs ((i:Int)+1)),(3,.slice ka zs.length kc),(4,Cr b4),(9,Cr K.p),(10,Cr q),(11,.slice wa j wc),(12,Cs (j:Int))]) (fun(j,A,S4,wa,wc,F)=>[blk b4 (.cells (cfv c2).toArray 26 (0,0)),pool A,cm S1 (RgH K J r2 i (⟨G,some (q,C,pc,ps)⟩:EK)),Mg q x X Y (.slice C x.parts.length pc) (.slice oa x.out.length oc),sq C x.parts.length pc 101 1 (ps.map DG),sq oa x.out.length oc 138 12 mcs,cm Sg (Ey X G J x.log),cm Sd (DZ G d),cm So (DV Y J x.post),cm S4 (DH (Fe A) ps x.parts),sq wa j wc 42 3 F]) (fun(j,A,S4,wa,wc,F)=>j<=x.parts.length/\Le J A/\Rws (TT A) F (x.keeps.take j)) (fun(j,_)=>x.parts.length-j) (0,J,Sl,some ⟨e8,0,none⟩,0,[]) ?_ ?_))
 ·exact⟨⟨Af _,.refl _,.nil⟩,Sb7,.refl _⟩
 rintro⟨j,A,S4,wa,wc,F⟩ ⟨hj,o,c3⟩
 conv=>arg 7;dsimp only
 conv=>arg 8;dsimp only
 refine OA 8 ?_
 refine Cy rfl (fun e4=>?_) (fun e4=>?_)
 ·obtain⟨m,hm⟩:∃m,x.parts[j]? =some m:=⟨_,Ae (by omega)⟩
  obtain⟨p,hp⟩:∃p,ps[j]? =some p:=⟨_,Ae (by omega)⟩
  refine Cx (ZC (.p9 .d) hp hm) ?_
  rintro _ ⟨S5,S6,rfl⟩
  refine Cx (QaC (.p10 .d)) ?_
  rintro _ ⟨cp,sp,wb,ab,S7,S8,rfl⟩
  refine OA 7 ?_
  refine O8 (Zd rfl (en 9) rfl (.p3 (.p3 (.p9 .d))) (Ox q p X Y cp sp wb ab x.parts.length j x m C pc ps _ hp hpl (by omega))) ?_
  refine Oc rfl (en 10) rfl (.p11 (.p1 .d)) (FO cp S7 A m.core _ (c4.part j m hm).core.fit) ?_
  rintro _ _ ⟨L5,S9,lv,I,hlv,rfl,rfl⟩
  obtain⟨i2,i3,rfl,_,_⟩:=hlv.sh
  refine Oi (Cv.up (B:=DH (Fe L5) (ps.eraseIdx j) (x.parts.eraseIdx j)) s7 (fun _ h=>h.mono fun _ _ _ h=>Fe.le I _ h)) ?_
  refine Oi (Cv.up (B:=Ih sp L5 m.state) s10 (Ih.le I)) ?_
  refine CL (Qam (L:=L5) (m:=m) (.p13 (.p8 (.p8 (.p11 (.p8 .d)))))) ?_
  rintro _ ⟨S10,rfl⟩
  refine CL (ZN (.p11 (.p7 .d)) (Ab.1 hp).1 (Ab.1 hm).1) ?_
  rintro _ ⟨S11,rfl⟩
  rw[Dc hp,Dc hm]
  refine Oi (YN (.t0 (.t8 (.t0 (.t5 (.t5 (.t0 (.t0 (.t0 (.t0 (.t1 (.t0 .e)))))))))))) ?_
  refine O6 (YY u39) fun h5=>?_
  refine O2 (LO.app (ao:=wa) el39) ?_
  rintro _ _ ⟨g9,h0,rfl,rfl⟩
  refine OA 2 ?_
  refine Tp (.t0 (.t0 (.t0 (.t0 (.t0 (.t0 (.t0 (.t0 (.t0 (.t0 (.t0 .e))))))))))) (OA 5 ?_)
  exact⟨(j+1,L5,S11,g9,h0,_),⟨⟨by omega,o.trans I,by rw[Dg (Wv hm)];exact(c3.mono fun _ _ ⟨lv,e,h⟩=>⟨lv,e,h.le I⟩).snoc ⟨_,rfl,hlv⟩⟩,⟨rfl,rfl,rfl,rfl,rfl,rfl,Dd rfl (by omega),trivial⟩,.refl _⟩,by simp only;omega⟩
 obtain⟨n,f9⟩:∃n,n=j:=⟨_,rfl⟩
 subst f9
 have hnx:n=x.parts.length:=by omega
 have hkl:x.keeps.length=n:=by rw[hnx];show(x.parts.map _).length=_;rw[AP]
 rw[AU (by omega)]at c3
 refine Ti (Cv.up (B:=Ey X G A x.log) s6 (Ey.le o)) (Ti (Cv.up (B:=DV Y A x.post) s8 (DV.le o)) (Tx (ZW (L:=A) (x:=x) (y:=true) (.p3 (.p3 (.p3 (.p3 (.p3 (.p3 (.p3 .d))))))) U hpl (b6.mono fun _ _ h=>h.le o)) fun S5=>Ti (Cv.up (B:=Ee A (⟨G,some (q,C,pc,ps)⟩:EK) ⟨true,x⟩) s4 (QaV (q:=(q,C,pc,ps)))) (Ti (Cv.up (B:=RgH K A r2 i (⟨G,some (q,C,pc,ps)⟩:EK)) s2 (RgH.le o)) (Tx (Cv.rhC (.p4 (.p2 .d)) hn) fun S6=>?_))))
 have hG4:=hG3.le o
 have hc8:=Rh hn
 have hd8:=fun S=>ID K S A r2 c2 t2 g hst (by omega) ((i:Int)+1) 0 (by omega) (.slice ka zs.length kc) hG4 (by omega) zs g3 ⟨ka,kc,rfl,hzs2 A (N.trans o)⟩ 8 (by decide)
 have hst8:=hst.do_ g (by omega) 8 ((i:Int)+1) 0
 rw[hc8]at hst8
 simp only[hc8]at hd8
 have hn8:=Mv (m:=⟨false,x⟩) hn
 obtain⟨r3,d9⟩:∃r3,r3=r2.setN i ⟨false,x⟩:=⟨_,rfl⟩
 simp only[<-d9]at hd8 hst8 hn8
 clear d9
 refine OA 8 ?_
 refine Oc rfl (en 8) rfl (.p3 (.p1 .d)) (hd8 S6) ?_
 rintro _ _ ⟨rfl,L5,S7,I,rfl⟩
 refine O1 (YK (v':=.bool false) (Ct.neq rfl rfl rfl) (by simp)) ?_
 refine OA 4 ?_
 refine Cx (Zr (.p2 .d)) ?_
 rintro _ ⟨va,vc,ecs,ks,S8,S9,S10,hp,rfl⟩
 have hnn3:=hp.nn;have hks3:=hp.ks;have hnn4:=hst8.nn
 obtain⟨⟨dp3,g6⟩,a3⟩:∃k,ks[i]? =some k:=⟨_,Ae (by omega)⟩
 have c9:K.dps[i]? =some dp3:=by rw[hp.dps,Aq,a3];rfl
 refine Cx (ZC (.p9 .d) a3 hn8) ?_
 rintro _ ⟨S11,S12,rfl⟩
 refine Cx (QaI (n:=⟨false,x⟩) (.p10 .d) rfl) ?_
 rintro _ ⟨d3,S13,⟨d1,a0⟩,rfl⟩
 obtain rfl:g6=none:=d1
 have a0:Yk x.log d3:=a0
 obtain⟨d4,ho,a4⟩:=a0.open_
 have hlt:=a4.st;have hlns:=a4.ns;have hlnn:=a4.nn
 refine OA 3 ?_
 refine O8 (Zd rfl (en 12) rfl (.p3 (.p3 .d)) (Vg K r3 i dp3 _ c9 (by omega) (by omega))) ?_
 refine Oc rfl (en 11) rfl (.p9 (.p2 .d)) (NA dp3 S13 L5 d3 a0.ok) ?_
 rintro _ _ ⟨L6,S14,O,hor⟩
 rw[ho]at hor
 rcases hor with ⟨q0,_⟩|⟨_,g8,S15,rfl,rfl⟩
 ·exact absurd rfl q0
 refine OA 10 ?_
 refine O1 (YK (v':=.bool false) (Ct.neq rfl rfl rfl) (by simp)) ?_
 refine OA 4 ?_
 have f8:(n:Int)=c2.shards:=by omega
 refine OA 3 ?_
 refine O1 (YK (v':=Cs (n:Int)) (Zi u3) (by rw[f8])) ?_
 refine Oc rfl (en 13) rfl (.p12 (.p11 .d)) (LP g8 dp3 S15 L6 x.log n (by omega) (by omega) (by omega) (by omega) (fun b hb=>by have:=(hlns b hb).1;omega)) ?_
 rintro _ _ ⟨L7,S16,kb,c5,P,d6,rfl,rfl⟩
 refine OA 2 ?_
 refine Ti (Cv.up (B:=Ee L7 ⟨dp3,none⟩ ⟨false,x⟩) s10 (QaE (.inl a4))) (Ti (Cv.up (B:=DH (Ee L7) (ks.eraseIdx i) (r3.nds.eraseIdx i)) s7 (fun _ h=>h.mono fun _ _ _ h=>Ee.le (O.trans P) _ _ _ h)) (Tx (ZN (.p10 (.p7 .d)) (Ab.1 a3).1 (Ab.1 hn8).1) fun S17=>?_))
 rw[Dc a3,Dc hn8]
 refine Tx (Zk (K:=K) (r:=r3) (L:=L7) (.p7 (.p7 (.p2 (.p2 (.p2 (.p2 (.p6 (.p2 .d)))))))) hp (O.trans P) (.refl _) (O.trans P) (O.trans P)) fun S18=>Tp (.t0 (.t2 (.t0 (.t1 (.t1 .e))))) ?_
 have hc9:=SZ hn8
 have hd9:=fun S=>ID K S L7 r3 c2 (t2+1) g hst8 (by omega) ((i:Int)+1) 0 (by omega) (.slice none 0 0) (hG4.le (I.trans (O.trans P))) (by omega) [] (Af _) ⟨none,0,rfl,QL L7⟩ 9 (by decide)
 have hst9:=hst8.do_ g (by omega) 9 ((i:Int)+1) 0
 have hn9:=Mv (m:=⟨true,YZ r3.c ((i:Int)+1) x.log⟩) hn8
 rw[hc9]at hst9
 simp only[hc9]at hd9
 rw[hst8.cf]at hst9 hn9
 simp only[hst8.cf]at hd9
 have hbl:=(Kp (me:=(i:Int)+1) g (hst.nd i _ hn).1 (by omega) (by omega) (by omega)).2.2
 have hnt:c2.shards.toNat=n:=by omega
 have e6:x.keeps=Ds x.log n:=by rw[hnx];exact c4.keeps.symm
 rw[hnt,<-e6]at hbl
 rw[<-e6]at d6
 obtain⟨y,hy⟩:∃y,y=YZ c2 ((i:Int)+1) x.log:=⟨_,rfl⟩
 rw[<-hy]at hst9 hn9 hbl
 simp only[<-hy]at hd9
 obtain⟨r4,e0⟩:∃r4,r4=r3.setN i ⟨true,y⟩:=⟨_,rfl⟩
 simp only[<-e0]at hst9 hn9 hd9
 clear e0
 have hys:y.St c2 (t2+1+1) 0 (1+8*(t2+1+1)):=(hst9.nd i _ hn9).2 rfl
 have hyp:=hys.parts
 refine OA 6 ?_
 refine Oc rfl (en 8) rfl (.p4 (.p1 .d)) (hd9 S18) ?_
 rintro _ _ ⟨rfl,L8,S19,b3,rfl⟩
 refine O1 (YK (v':=.bool false) (Ct.neq rfl rfl rfl) (by simp)) ?_
 refine OA 7 ?_
 refine Oc rfl (en 7) rfl (.p3 .d) (Iu K S19 L8 r4 i ⟨true,y⟩ hn9 (by have:=hst9.nn;omega)) ?_
 rintro _ _ ⟨⟨h6,g7⟩,S20,S21,h7,rfl,h2,rfl⟩
 refine OA 7 ?_
 refine Cx (Qat (n:=⟨true,y⟩) (.p5 .d) rfl) ?_
 rintro _ ⟨⟨q4,D,E,l⟩,S22,d2,rfl⟩
 obtain rfl:g7=some (q4,D,E,l):=d2
 clear X Y oa oc mcs d Sg Sd So U b6
 refine Cx (Qaf (.p5 .d)) ?_
 rintro _ ⟨X,Y,oa,oc,mcs,d,Sg,Sd,So,Sl2,⟨U,V,b6⟩,rfl⟩
 refine Tp (.t0 (.t0 (.t0 (.t0 (.t1 (.t1 (.t5 .e))))))) ?_
 have T:Le L7 L8:=b3
 have V:l.length=y.parts.length:=V
 have R:Le A L8:=I.trans (O.trans (P.trans b3))
 refine Tb (CD (fun((j,L8,S8):Nat×PL×N_)=>[(4,Cr b4),(11,.slice wa n wc),(15,.slice (some ⟨kb,0,none⟩) n n),(16,Cr q4),(17,Cs (j:Int))]) (fun(j,L8,S8)=>[blk b4 (.cells (cfv c2).toArray 26 (0,0)),sq wa n wc 42 3 F,blk kb (.cells c5.toArray 42 (0,0)),pool L8,Mg q4 y X Y (.slice D y.parts.length E) (.slice oa y.out.length oc),sq D y.parts.length E 101 1 (l.map DG),cm S8 (DH (Fe L8) l y.parts)]) (fun(j,L8,S8)=>j<=n/\Le L7 L8/\Le A L8) (fun(j,_)=>n-j) (0,L8,Sl2) ?_ ?_)
 ·exact⟨⟨Af _,T,R⟩,Sb5,.refl _⟩
 clear T R b3 hj
 rintro⟨j,L8,S8⟩ ⟨hj,T,R⟩
 conv=>arg 7;dsimp only
 conv=>arg 8;dsimp only
 refine OA 8 ?_
 refine Cy rfl (fun b7=>?_) (fun b7=>?_)
 ·obtain⟨m,hm⟩:∃m,y.parts[j]? =some m:=⟨_,Ae (by omega)⟩
  obtain⟨p,a5⟩:∃p,l[j]? =some p:=⟨_,Ae (by omega)⟩
  have hkm:=Wv hm
  rw[hbl]at hkm
  refine Cx (ZC (.p6 .d) a5 hm) ?_
  rintro _ ⟨S23,S24,rfl⟩
  refine Cx (QaC (.p6 .d)) ?_
  rintro _ ⟨cp,sp,wb,ab,S25,S26,rfl⟩
  refine OA 7 ?_
  refine O8 (Zd rfl (en 9) rfl (.p4 (.p4 (.p5 .d))) (Ox q4 p X Y cp sp wb ab y.parts.length j y m D E l _ a5 V (by omega))) ?_
  refine Oc rfl (en 10) rfl (.p7 (.p3 .d)) (FO cp S25 L8 m.core _ (hys.part j m hm).core.fit) ?_
  rintro _ _ ⟨W,S27,lv,Q,hlv,rfl,rfl⟩
  obtain⟨va,vc,rfl,_,_⟩:=hlv.sh
  refine Oi (Cv.up (B:=DH (Fe W) (l.eraseIdx j) (y.parts.eraseIdx j)) s3 (fun _ h=>h.mono fun _ _ _ h=>Fe.le Q _ h)) ?_
  refine Oi (Cv.up (B:=Ih sp W m.state) s6 (Ih.le Q)) ?_
  refine CL (Qam (L:=W) (m:=m) (.p9 (.p4 (.p4 (.p7 (.p4 .d)))))) ?_
  rintro _ ⟨S28,rfl⟩
  refine CL (ZN (.p7 (.p3 .d)) (Ab.1 a5).1 (Ab.1 hm).1) ?_
  rintro _ ⟨S9,rfl⟩
  rw[Dc a5,Dc hm]
  refine O6 (YQ Ve) fun Z=>?_
  refine OA 3 ?_
  obtain⟨f,hkp⟩:∃f,f=m.core.keep:=⟨_,rfl⟩
  rw[<-hkp]at hlv hkm ⊢
  obtain⟨_,_,_,_,d5⟩:=hlv.sh
  unfold maxLen at d5
  obtain⟨h8,⟨i0,rfl,a8⟩,d0⟩:=d6.at (s:=3) (fun _ _ ⟨_,e,_⟩=>by rw[e];rfl) hkm
  obtain⟨a6,⟨i1,rfl,a9⟩,a7⟩:=c3.at (s:=3) (fun _ _ ⟨_,e,_⟩=>by rw[e];rfl) hkm
  obtain⟨a1,c1,rfl,_,_⟩:=a8.sh
  obtain⟨a2,k2,rfl,_,_⟩:=a9.sh
  refine CM at1 Reads.sq (a7 0 _ rfl) fun ad f5=>?_
  subst f5
  refine Cw (.s (.t (.t .d))) rfl (fun j=>false) ?_
  intro g0
  refine DA [0,1] ?_
  refine D1 2 rfl (Jt j u39) ?_
  refine D1 3 rfl (YW (j:=j*3) u42 Reads.blk d0 rfl) ?_
  refine DA [4,5] ?_
  refine D1 6 rfl (Jt j u39) ?_
  refine D1 7 rfl (YW (j:=j*3) u42 Reads.sq a7 rfl) ?_
  refine D1 10 rfl DC ?_
  refine Da 8 ?_
  refine D6 rfl (Lbs [Cs 0,Cs 0,.slice none 0 0,Cs 0,Cs 0,.slice none 0 0] u39) ?_
  rintro _ _ ⟨M,rfl,rfl⟩
  refine ys (D1 9 rfl (MV u39) ?_)
  refine D0 (Tp (.t7 (.t7 (.t5 (.t0 (.t0 (.t0 (.t0 (.t0 (.t0 .e))))))))) (Tb (CD (fun(z:Nat)=>[(4,Cr b4),(11,.slice (some ad) n wc),(15,.slice (some ⟨kb,0,none⟩) n n),(16,Cr q4),(17,Cs (j:Int)),(18,Cr Z),(119,.slice (some ⟨M,0,none⟩) 2 2),(120,Cs 2),(121,Cs (z:Int))]) (fun _=>[blk Z (.cells #[Cs f.view,Cs f.normal,.slice va f.log.length vc] 42 (0,0)),blk M (.cells #[Cs f.view,Cs f.normal,.slice a1 f.log.length c1,Cs f.view,Cs f.normal,.slice a2 f.log.length k2] 42 (0,0)),pool W,blk b4 (.cells (cfv c2).toArray 26 (0,0)),sq (some ad) n wc 42 3 F,blk kb (.cells c5.toArray 42 (0,0)),Mg q4 y X Y (.slice D y.parts.length E) (.slice oa y.out.length oc),sq D y.parts.length E 101 1 (l.map DG),cm S9 (DH (Fe W) l y.parts)]) (fun z=>z<=2) (fun z=>2-z) 0 ?_ ?_)))
  ·exact⟨Af _,Sb9,.refl _⟩
  intro z hz
  conv=>arg 7;dsimp only
  conv=>arg 8;dsimp only
  refine OA 5 ?_
  refine Cy rfl (fun b8=>?_) (fun b8=>?_)
  ·obtain⟨za,zc,g5,g2⟩:∃za zc,(∀q u,([Value.int .i64 f.view,Cs f.normal,.slice za f.log.length zc]:V_)[q]? =some u->([Cs f.view,Cs f.normal,.slice a1 f.log.length c1,Cs f.view,Cs f.normal,.slice a2 f.log.length k2]:V_)[z*3+q]? =some u)/\EI W (.slice za f.log.length zc) f.log:=by
    rcases (show z=0∨z=1 by omega)with rfl|rfl
    ·exact⟨a1,c1,(fun q u h=>by rcases q with _|_|_|q<;>first|exact h|cases h),a8.le (T.trans Q)⟩
    ·exact⟨a2,k2,(fun q u h=>by rcases q with _|_|_|q<;>first|exact h|cases h),a9.le (R.trans Q)⟩
   refine OA 5 ?_
   refine O1 (Jt z u39) ?_
   refine O1 (YW (j:=z*3) u42 Reads.blk g5 rfl) ?_
   refine O6 (YQ Ve) fun c6=>?_
   refine OA 9 ?_
   refine O1 (YK (v':=.bool false) (Ct.neq rfl rfl rfl) (by simp)) ?_
   refine OA 5 ?_
   refine O1 (YK (v':=.bool false) (Ct.neq rfl rfl rfl) (by simp)) ?_
   refine OA 8 ?_
   refine O1 (YK (v':=.bool false) (Ct.neq rfl rfl rfl) (by simp)) ?_
   refine OA 12 ?_
   refine CD (fun(w:Nat)=>[(4,Cr b4),(11,.slice (some ad) n wc),(15,.slice (some ⟨kb,0,none⟩) n n),(16,Cr q4),(17,Cs (j:Int)),(18,Cr Z),(119,.slice (some ⟨M,0,none⟩) 2 2),(120,Cs 2),(121,Cs (z:Int)),(20,Cr c6),(148,Cs f.log.length),(149,Cs (w:Int))]) (fun _=>[blk Z (.cells #[Cs f.view,Cs f.normal,.slice va f.log.length vc] 42 (0,0)),blk M (.cells #[Cs f.view,Cs f.normal,.slice a1 f.log.length c1,Cs f.view,Cs f.normal,.slice a2 f.log.length k2] 42 (0,0)),pool W,blk b4 (.cells (cfv c2).toArray 26 (0,0)),sq (some ad) n wc 42 3 F,blk kb (.cells c5.toArray 42 (0,0)),Mg q4 y X Y (.slice D y.parts.length E) (.slice oa y.out.length oc),sq D y.parts.length E 101 1 (l.map DG),cm S9 (DH (Fe W) l y.parts),blk c6 (.cells #[Cs f.view,Cs f.normal,.slice za f.log.length zc] 42 (0,0))]) (fun w=>w<=f.log.length) (fun w=>f.log.length-w) 0 ?_ ?_
   ·exact⟨Af _,Sb12,.refl _⟩
   intro w hw
   conv=>arg 7;dsimp only
   conv=>arg 8;dsimp only
   refine OA 5 ?_
   refine Cy rfl (fun b9=>?_) (fun b9=>?_)
   ·obtain⟨e,he⟩:∃e,f.log[w]? =some e:=⟨_,Ae (by omega)⟩
    obtain⟨i5,hn1,d7⟩:=hlv.ns
    obtain⟨i6,f7,d8⟩:=g2.ns
    obtain⟨e9,f1,e5,f4,_⟩:=hn1.at he
    obtain⟨f0,f2,c0,hB2,_⟩:=f7.at he
    refine CM at2 (Reads.pool d7) e5 fun h3 c7=>?_
    subst c7
    refine CM at2 (Reads.pool d8) c0 fun h4 c8=>?_
    subst c8
    refine OA 9 ?_
    refine Cw (.t (.s (.t (.s6 (.t .d))))) rfl (fun j=>false) ?_
    intro g0
    refine DA [0,1,2] ?_
    refine D1 3 rfl (GO (w) u40) ?_
    refine D1 4 rfl (Ct.reads (j:=w) rfl rfl at1 (Reads.pool d7) u53 rfl e5) ?_
    refine DA [5,6,7] ?_
    refine D1 8 rfl (GO (w) u40) ?_
    refine D1 9 rfl (Ct.reads (j:=w) rfl rfl at1 (Reads.pool d8) u53 rfl c0) ?_
    refine Da 10 ?_
    refine DB rfl rfl (en 14) rfl (.p2 .d) (WS e9 f0 f1 f2 e e W f4 hB2) ?_
    rintro _ _ ⟨rfl,rfl⟩
    refine ys (D1 11 rfl (YK (v':=.bool false) (Ct.not rfl rfl) (by simp)) ?_)
    refine D0 (Tp (.t0 (.t0 (.t7 (.t0 (.t0 (.t0 (.t0 (.t0 (.t0 (.t0 .e)))))))))) (OA 6 ?_))
    exact⟨w+1,⟨by omega,⟨rfl,rfl,rfl,rfl,rfl,rfl,rfl,rfl,rfl,rfl,rfl,Dd rfl (by omega),trivial⟩,.refl _⟩,by omega⟩
   refine Tp (.t0 (.t0 (.t0 (.t0 (.t0 (.t0 (.t0 (.t0 (.t0 .e))))))))) (OA 5 ?_)
   exact⟨z+1,⟨by omega,⟨rfl,rfl,rfl,rfl,rfl,rfl,rfl,rfl,Dd rfl (by omega),trivial⟩,.refl _⟩,by omega⟩
  refine Tp (.t3 (.t3 (.t3 (.t2 (.t2 (.t2 (.t2 .e))))))) (OA 6 ?_)
  exact⟨(j+1,W,S9),⟨⟨by omega,T.trans Q,R.trans Q⟩,⟨rfl,rfl,rfl,rfl,Dd rfl (by omega),trivial⟩,.refl _⟩,by simp only;omega⟩
 refine Tp (.t3 .e) (OA 5 ?_)
 exact Cu (Rr ⟨rfl,L8,H.trans (b2.trans (N.trans (o.trans R))),rfl⟩)

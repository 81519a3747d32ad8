import Derived.Test.YtheoifhidoofbaaGreatDoorM10
set_option maxRecDepth 100000
set_option maxHeartbeats 2000000
namespace Go.Cru
open Go Go.Proofs
open Go.Proofs.Tryz renaming prog→P0
def RgH(K:Ed)(L:PL)(r:CI)(i:Nat)(k:EK)(rs:Mem):Prop:=∃(ea:A_) (ec:Nat) (ecs:V_) (ks:List EK),Ru (Lw K r ea ec ecs ks) [Fi K.np L r.net,DH (Ee L) (ks.eraseIdx i) (r.nds.eraseIdx i),DH (Eg L) K.qs r.cls] rs/\QT K L r ecs ks/\ks[i]? =some k
theorem RgH.le{K:Ed}{L L':PL}{r:CI}{i:Nat}{k:EK}(q:Le L L'):∀rs,RgH K L r i k rs->RgH K L' r i k rs:=by
 rintro rs ⟨ea,ec,ecs,ks,⟨r0,e,r1,r2,e1,a1,b,c,e2,a2,d,f,e3,a3,e4⟩,hp,hk⟩
 exact⟨ea,ec,ecs,ks,⟨r0,e,r1,r2,e1,Fi.le q _ a1,b,c,e2,a2.mono fun _ _ _ h=>Ee.le q _ _ _ h,d,f,e3,a3.mono fun _ _ _ h=>Eg.le q _ _ _ h,e4⟩,⟨hp.dps,hp.ks,hp.qs,hp.nn,hp.kn,hp.ev.mono fun _ _ h=>h.le q⟩,hk⟩
section
variable {w0:World}{b_:N_}{h c:Mem}{S S1 S2 S3:N_}{K:Ed}{L:PL}{r:CI}{ea:A_}{ec:Nat}{ecs:V_}{ks:List EK}{i:Nat}{k:EK}{n:Fz}
theorem Cv.rhI(s:Ps h (Lw K r ea ec ecs ks++[cm S1 (Fi K.np L r.net),cm S2 (DH (Ee L) (ks.eraseIdx i) (r.nds.eraseIdx i)),cm S3 (DH (Eg L) K.qs r.cls)]) c)(hp:QT K L r ecs ks)(hk:ks[i]? =some k):Cv w0 b_ h fun h'=>∃S,h'=c++[cm S (RgH K L r i k)]:=
 Qa8 (Lw K r ea ec ecs ks) [cm S1 (Fi K.np L r.net),cm S2 (DH (Ee L) (ks.eraseIdx i) (r.nds.eraseIdx i)),cm S3 (DH (Eg L) K.qs r.cls)] [Fi K.np L r.net,DH (Ee L) (ks.eraseIdx i) (r.nds.eraseIdx i),DH (Eg L) K.qs r.cls] rfl s
  ⟨_,_,rfl,_,_,rfl,_,_,rfl,rfl⟩ fun _ hr=>⟨ea,ec,ecs,ks,hr,hp,hk⟩
theorem Cv.rhO(s:Ps h [cm S (RgH K L r i k)] c):Cv w0 b_ h fun h'=>∃(ea:A_) (ec:Nat) (ecs:V_) (ks:List EK) (S1 S2 S3:N_),(QT K L r ecs ks/\ks[i]? =some k)/\h'=c++(Lw K r ea ec ecs ks++[cm S1 (Fi K.np L r.net),cm S2 (DH (Ee L) (ks.eraseIdx i) (r.nds.eraseIdx i)),cm S3 (DH (Eg L) K.qs r.cls)]):=
 (Qa9 (ι:={j:A_×Nat×V_×List EK // QT K L r j.2.2.1 j.2.2.2/\j.2.2.2[i]? =some k})
  (fun⟨(ea,ec,ecs,ks),_⟩=>Lw K r ea ec ecs ks) (fun⟨(_,_,_,ks),_⟩=>[Fi K.np L r.net,DH (Ee L) (ks.eraseIdx i) (r.nds.eraseIdx i),DH (Eg L) K.qs r.cls]) s
  fun rs ⟨ea,ec,ecs,ks,h1,h2⟩=>⟨⟨(ea,ec,ecs,ks),h2⟩,h1⟩).then
 fun _ ⟨⟨(ea,ec,ecs,ks),hh⟩,_,⟨S1,_,e1,S2,_,e2,S3,_,e3,e4⟩,e⟩=>by
  subst e4;subst e3;subst e2;subst e1;subst e
  exact YM ⟨ea,ec,ecs,ks,S1,S2,S3,hh,rfl⟩
theorem Cv.rhC(s:Ps h [cm S1 (Ee L k n),cm S2 (RgH K L r i k)] c)(hn:r.nds[i]? =some n):Cv w0 b_ h fun h'=>∃S,h'=c++[cm S (FF K L r)]:=by
 refine(Cv.perm s.perm).then fun _ e=>?_
 subst e
 refine(Cv.rhO (.p1 .d)).then fun _ ⟨ea,ec,ecs,ks,S4,S5,S6,⟨hp,hk⟩,e⟩=>?_
 subst e
 refine(Cv.perm Av).then fun _ e=>?_
 subst e
 refine(ZN (b:=k) (y:=n) (.p8 (.p6 .d)) (Ab.1 hk).1 (Ab.1 hn).1).then fun _ ⟨f,e⟩=>?_
 subst e
 rw[Dc hk,Dc hn]
 refine(Cv.perm Av).then fun _ e=>?_
 subst e
 refine(Zk (K:=K) (r:=r) (L:=L) (.p1 (.p1 (.p1 (.p1 (.p1 (.p1 (.p0 (.p0 .d)))))))) hp (.refl _) (.refl _) (.refl _) (.refl _)).then fun _ ⟨d,e⟩=>?_
 subst e
 exact YM ⟨d,rfl⟩
end
theorem Ct.nilB{P:Program}{n:Nat}{w0:World}{b_:N_}{l:Dh}{hs:Mem}{o:Oper}{t t' e:TypeId}{x y:Operand}{v:Value}{b:Bool}(hv:(b=true/\v= .pointer none)∨(b=false/\∃a,v= .pointer (some a)))(c:P.underlying t=some (.pointer e))(ho:o.op= .binOp .eql t x y t':=by rfl)(hx:ev l x=some v:=by rfl)(hy:ev l y=some (.pointer none):=by rfl):Ct P n w0 b_ hs l o (.bool b):=by
 rcases hv with ⟨rfl,rfl⟩|⟨rfl,a,rfl⟩
 ·exact YK (Zh ho hx hy c) rfl
 ·exact Ct.nilF c ho hx hy
theorem Iu(K:Ed)(S:N_)(L:PL)(r:CI)(i:Nat)(n:Fz)(hn:r.nds[i]? =some n)(hl:r.nds.length<=3):
  Sp P0 7 [Cr K.p,Cs ((i:Int)+1)] [cm S (FF K L r)] fun v h=>∃k S1 S2,(((!n.up)=true/\v= .pointer none)∨((!n.up)=false/\∃a,v= .pointer (some a)))/\v=k.v/\K.dps[i]? =some k.dp/\h=[cm S1 (RgH K L r i k),cm S2 (Ee L k n)]:=by
 have hi:=(Ab.1 hn).1
 refine Sp.pre (fun _ _=>Zr (.p0 .d)) fun _ ⟨d,vc,ecs,ks,S3,S4,S5,hp,e⟩=>?_
 subst e
 have hnn:=hp.nn
 obtain⟨k,hk⟩:∃k,ks[i]? =some k:=⟨_,Ae (by have:=hp.ks;omega)⟩
 refine Sp.pre (fun _ _=>ZC (.p6 .d) hk hn) fun _ ⟨b,S7,e⟩=>?_
 subst e
 refine((TZ K b L r i (.slice d r.ev.length vc) ks k n hk (by omega) (by omega)).frame (.p0 (.p1 (.p5 .d)))).imp fun _ _ v h ⟨_,⟨h1,S8,h2⟩,h3⟩=>?_
 subst h1 h2 h3
 refine(Cv.rhI (K:=K) (r:=r) (L:=L) (.p6 (.p0 (.p5 (.p0 (.p0 (.p0 (.p1 (.p0 .d)))))))) hp hk).then fun _ ⟨c,e⟩=>?_
 subst e
 refine(Cv.kn (ι:=Unit) (B:=fun _=>Ee L k n) (Q:=fun _=>(((!n.up)=true/\k.v= .pointer none)∨((!n.up)=false/\∃a,k.v= .pointer (some a)))) (.p0 .d) fun rs h=>⟨(),?_,h⟩).then fun _ ⟨_,S10,hq,e⟩=>?_
 ·cases hu:n.up with
  |false=>exact .inl ⟨rfl,nd_v k L n rs h hu⟩
  |true=>
   refine .inr ⟨rfl,?_⟩
   unfold Ee at h
   split at h
   ·rw[h.1]at hu;cases hu
   ·rename_i e;exact⟨_,RK e⟩
 ·subst e
  have hd:K.dps[i]? =some k.dp:=by rw[hp.dps,Aq,hk,Option.map_some]
  exact YM ⟨k,c,S10,hq,rfl,hd,rfl⟩
theorem Ox(q p d f c sp i ab n j:Nat)(x:CR)(m:CU)(b:A_)(pc:Nat)(ps:N_)(e:Value)(hj:ps[j]? =some p)(hn:ps.length=n)(h9:n<=9):
  Sp P0 9 [Cr q,Cs j] [Mg q x d f (.slice b n pc) e,sq b n pc 101 1 (ps.map DG),Qy p m c sp i ab] fun v h=>v= .pointer (some ⟨c,0,none⟩)/\h=[Mg q x d f (.slice b n pc) e,sq b n pc 101 1 (ps.map DG),Qy p m c sp i ab]:=by
 have hjl:=(Ab.1 hj).1
 have hv:(ps.map DG)[j]? =some (Cr p):=by rw[Aq,hj];rfl
 refine Sq Tryz.func9 fun w0 b_=>?_
 refine CO (fun w hw=>hw.sqNN (ao:=b) at1 (by omega)) fun⟨g,hgg⟩=>?_
 subst hgg
 refine OA 8 ?_
 refine O1 (YK (v':=.bool false) (Zh rfl rfl rfl u33) rfl) ?_
 refine OA 2 ?_
 refine O1 (YK (v':=.bool false) (Ct.lss rfl rfl rfl) (by simp)) ?_
 refine OA 8 ?_
 refine O1 (YK (v':=.bool false) (Ct.geq rfl rfl rfl) (by simp;omega)) ?_
 refine OA 11 ?_
 refine O1 (Km j u90) ?_
 refine O1 (YV u101 hv) ?_
 refine OA 5 ?_
 exact Cu (Rr ⟨rfl,rfl⟩)

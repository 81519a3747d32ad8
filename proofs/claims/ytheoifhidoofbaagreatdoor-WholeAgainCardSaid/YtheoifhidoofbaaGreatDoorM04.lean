import Derived.Shelf.Sort.Plain
import Derived.Sort.OwnSortedInts
import Derived.Laws.BytesString
import Derived.Test.YtheoifhidoofbaaGreatDoorM03
set_option maxRecDepth 100000
set_option maxHeartbeats 2000000
namespace Go.Cru
open Go Go.Proofs
open Go.Proofs.Tryz renaming prog→P0
theorem send_fit{c:CA}{b:Nat}(hf:c.Fit b)(m:Db):(c.send m).Fit (b+1):=
 ⟨hf.me,hf.n,hf.shard,hf.patience,hf.view,hf.normal,hf.log,hf.entry,hf.commit,hf.idle,⟨hf.maps.1,hf.maps.2,hf.maps.3,hf.maps.4,hf.maps.5,hf.maps.6,hf.maps.7⟩,AY hf.recs,by rw[PO];have:=hf.msgs;omega,AY hf.done⟩
theorem CA.Fit.le{c:CA}{b b':Nat}(hf:c.Fit b)(h:b<=b'):c.Fit b':=
 ⟨hf.me,hf.n,hf.shard,hf.patience,hf.view,hf.normal,hf.log,hf.entry,hf.commit,hf.idle,⟨hf.maps.1,hf.maps.2,hf.maps.3,hf.maps.4,hf.maps.5,hf.maps.6,hf.maps.7⟩,AA hf.recs h,AA hf.msgs h,AA hf.done h⟩
theorem Hj(p:Nat)(S:N_)(L:PL)(c:CA):
  Sp P0 113 [Cr p] [cm S (Dr p L c),pool L] fun v h=>∃f rs,QR L c.out v rs/\h=[cm f (Dr p L c.take.2),pool L]++rs:=by
 refine Sq Tryz.func113 fun w0 b_=>?_
 refine Cx (Cv.op (.p0 .d)) ?_
 rintro _ ⟨_,⟨l,q,n,i,m,r,o,k,hb,g,j,e,mcs,b,al,rfl,hlog,hrc,d,hdn,hdo⟩,rfl⟩
 refine OA 2 ?_
 refine O6 (YQ MB) fun b2=>?_
 refine OA 7 ?_
 refine O6 (YQ MB) fun b3=>?_
 refine OA 15 ?_
 refine Tp (.t0 (.t0 (.t0 (.t0 (.t0 (.n (T:=119) (sz:=4) (.n (T:=138) (sz:=12) (.n (T:=53) (sz:=1) (.t0 (.t0 (.t0 (.t0 .e)))))))))))) (Ti (Zb (.p1 (.p1 (.p1 (.p1 (.p1 (.p1 (.p1 .d))))))) (A:=Dr p L c.take.2) ⟨l,none,none,none,m,0,0,0,hb,g,j,[],[],[],al,rfl,hlog,.nil,.nil,.nil _,hdo⟩) (Tp (.t5 (.t0 (.t0 (.t0 (.t0 (.t0 .e)))))) ?_))
 exact Cu (Em u106 (Ax _ (Ax _ (Ax _ (Ax _ (Ax _ (An _)))))) ⟨_,_,⟨q,n,i,r,o,k,e,mcs,b,rfl,rfl,hrc,d,hdn⟩,rfl⟩)
theorem NR(p:Nat)(L:PL)(c:CA)(u:Value)(hb r s:Nat)(w t:Value)(f:A_)(g:Nat)(mcs:V_)(b:Nat)(hf:c.Fit b)(hbb:b<1073741000)(m:Db)(E H:Value)(hx:EI L E m.list)(hy:Bs L H m.data)(e:Rws (Gu L) mcs c.out.msgs):
  Sp P0 110 [Cr p,.agg (GL m E H).toArray] [Mf p c u hb r s w (.slice f c.out.msgs.length g) t,sq f c.out.msgs.length g 138 12 mcs] fun v h=>v= .tuple #[]/\∃n o l,Rws (Gu L) l (c.all m).out.msgs/\h=[Mf p (c.all m) u hb r s w (.slice n (c.all m).out.msgs.length o) t,sq n (c.all m).out.msgs.length o 138 12 l]:=by
 have q2:=hf.n;have q3:=hf.me
 obtain⟨C,D,rfl,_,_⟩:=hx.sh
 obtain⟨F,G,rfl,_,_⟩:=hy.sh
 refine Sq Tryz.func110 fun w0 b_=>?_
 refine OA 2 ?_
 refine O6 YR fun b3=>?_
 refine OA 6 ?_
 refine CD (fun((k,to,x,f,g,mcs,d):Nat×Int×Int×A_×Nat×V_×CA)=>[(0,Cr p),(3,Cr b3),(4,Cs to)]) (fun(k,to,x,f,g,mcs,d)=>[Mf p d u hb r s w (.slice f d.out.msgs.length g) t,sq f d.out.msgs.length g 138 12 mcs,blk b3 (.cells (GL {m with to:=x} (.slice C m.list.length D) (.slice F m.data.length G)).toArray 138 (0,0))]) (fun(k,to,x,f,g,mcs,d)=>(k:Int)+to=9/\1<=to/\CA.allL m k to d=c.all m/\d.Fit (b+to.toNat)/\d.n=c.n/\d.me=c.me/\Rws (Gu L) mcs d.out.msgs) (fun(k,_)=>k) (8,1,m.to,f,g,mcs,c) ?_ ?_
 ·exact⟨⟨rfl,by decide,rfl,hf.le (by omega),rfl,rfl,e⟩,Sb3,.refl _⟩
 clear e
 rintro⟨k,to,x,f,g,mcs,d⟩ ⟨hk,h1,he,hfd,hdn,hdm,e⟩
 conv=>arg 7;dsimp only
 conv=>arg 8;dsimp only
 refine OA 10 ?_
 refine Cy rfl (fun i=>?_) (fun i=>?_)
 ·obtain⟨k,rfl⟩:∃q,k=q+1:=⟨k-1,by omega⟩
  rw[CA.allL,Ah i]at he
  refine OA 12 ?_
  refine CH rfl (fun j=>?_) (fun j=>?_)
  ·rw[Aa j]at he
   refine OA 9 ?_
   refine Oc rfl (en 162) rfl (.p0 (.p0 .d)) (Ea p d u hb r s w t f g mcs (b+to.toNat) hfd (by omega) {m with to:=to} C F m.list.length D m.data.length G) ?_
   rintro _ _ ⟨rfl,A,B,rfl⟩
   refine Oi (YN (.t1 (.t1 (.t0 .e)))) ?_
   refine OA 6 ?_
   exact⟨(k,to+1,to,A,B,_,d.send {m with to:=to}),⟨⟨by omega,by omega,he,(send_fit hfd _).le (by omega),hdn,hdm,e.snoc ⟨_,_,rfl,hx,hy⟩⟩,Sb3,.refl _⟩,by simp only;omega⟩
  rw[Ah j]at he
  refine OA 6 ?_
  exact⟨(k,to+1,x,f,g,mcs,d),⟨⟨by omega,by omega,he,hfd.le (by omega),hdn,hdm,e⟩,Sb3,.refl _⟩,by simp only;omega⟩
 have y:d=c.all m:=by
  cases k with
  |zero=>exact he
  |succ k=>rw[CA.allL,Aa i]at he;exact he
 subst y
 refine Te ?_
 exact Ef rfl (Ax _ (Ax _ (An _))) ⟨rfl,f,g,mcs,e,rfl⟩
section
open Go.Cru Go.Deep Go.Shelf
def CN:Go.Shelf.Ren:=
{
 f:=fun x=>
  match x with
  |189=>164
  |125=>180
  |257=>207
  |128=>223
  |129=>172
  |294=>237
  |295=>238
  |296=>239
  |297=>240
  |298=>241
  |299=>242
  |216=>243
  |300=>244
  |301=>245
  |328=>256
  |329=>249
  |330=>250
  |331=>257
  |332=>258
  |215=>134
  |343=>261
  |n=>n,
 t:=fun x=>
  match x with
  |28=>28
  |3=>3
  |46=>126
  |0=>0
  |51=>248
  |53=>22
  |4=>4
  |183=>326
  |182=>325
  |131=>281
  |5=>5
  |9=>9
  |218=>347
  |222=>183
  |228=>353
  |229=>354
  |n=>n,
 g:=fun x=>
  x}
theorem PU:Go.Proofs.Lays.n189 P0 CN:=
{mixed:=Eq.refl Bool.true,
 f125:=
  Eq.trans Tryz.func180 (congrArg Option.some (Eq.refl (Go.Proofs.Body.n125 CN))),
 f128:=
  Eq.trans Tryz.func223 (congrArg Option.some (Eq.refl (Go.Proofs.Body.n128 CN))),
 f129:=
  Eq.trans Tryz.func172 (congrArg Option.some (Eq.refl (Go.Proofs.Body.n129 CN))),
 f189:=
  Eq.trans Tryz.func164 (congrArg Option.some (Eq.refl (Go.Proofs.Body.n189 CN))),
 f215:=
  Eq.trans Tryz.func134 (congrArg Option.some (Eq.refl (Go.Proofs.Body.n215 CN))),
 f216:=
  Eq.trans Tryz.func243 (congrArg Option.some (Eq.refl (Go.Proofs.Body.n216 CN))),
 f257:=
  Eq.trans Tryz.func207 (congrArg Option.some (Eq.refl (Go.Proofs.Body.n257 CN))),
 f294:=
  Eq.trans Tryz.func237 (congrArg Option.some (Eq.refl (Go.Proofs.Body.n294 CN))),
 f295:=
  Eq.trans Tryz.func238 (congrArg Option.some (Eq.refl (Go.Proofs.Body.n295 CN))),
 f296:=
  Eq.trans Tryz.func239 (congrArg Option.some (Eq.refl (Go.Proofs.Body.n296 CN))),
 f297:=
  Eq.trans Tryz.func240 (congrArg Option.some (Eq.refl (Go.Proofs.Body.n297 CN))),
 f298:=
  Eq.trans Tryz.func241 (congrArg Option.some (Eq.refl (Go.Proofs.Body.n298 CN))),
 f299:=
  Eq.trans Tryz.func242 (congrArg Option.some (Eq.refl (Go.Proofs.Body.n299 CN))),
 f300:=
  Eq.trans Tryz.func244 (congrArg Option.some (Eq.refl (Go.Proofs.Body.n300 CN))),
 f301:=
  Eq.trans Tryz.func245 (congrArg Option.some (Eq.refl (Go.Proofs.Body.n301 CN))),
 f328:=
  Eq.trans Tryz.func256 (congrArg Option.some (Eq.refl (Go.Proofs.Body.n328 CN))),
 f329:=
  Eq.trans Tryz.func249 (congrArg Option.some (Eq.refl (Go.Proofs.Body.n329 CN))),
 f330:=
  Eq.trans Tryz.func250 (congrArg Option.some (Eq.refl (Go.Proofs.Body.n330 CN))),
 f331:=
  Eq.trans Tryz.func257 (congrArg Option.some (Eq.refl (Go.Proofs.Body.n331 CN))),
 f332:=
  Eq.trans Tryz.func258 (congrArg Option.some (Eq.refl (Go.Proofs.Body.n332 CN))),
 f343:=
  Eq.trans Tryz.func261 (congrArg Option.some (Eq.refl (Go.Proofs.Body.n343 CN))),
 t0:=u0,a0:=Tryz.isAgg0,z0:=Tryz.sizeOf0,
 v0:=Tryz.zeroValue0,t3:=u3,a3:=Tryz.isAgg3,
 z3:=Tryz.sizeOf3,v3:=Tryz.zeroValue3,t4:=u4,
 a4:=Tryz.isAgg4,z4:=Tryz.sizeOf4,v4:=Tryz.zeroValue4,
 t5:=u5,a5:=Tryz.isAgg5,z5:=Tryz.sizeOf5,
 v5:=Tryz.zeroValue5,t9:=u9,a9:=Tryz.isAgg9,
 z9:=Tryz.sizeOf9,v9:=Tryz.zeroValue9,t28:=u28,
 a28:=Tryz.isAgg28,z28:=Tryz.sizeOf28,v28:=Tryz.zeroValue28,
 t46:=u126,a46:=Tryz.isAgg126,z46:=Tryz.sizeOf126,
 v46:=Tryz.zeroValue126,t51:=u248,a51:=Tryz.isAgg248,
 z51:=Tryz.sizeOf248,v51:=Tryz.zeroValue248,t53:=u22,
 a53:=Tryz.isAgg22,z53:=Tryz.sizeOf22,v53:=Tryz.zeroValue22,
 t131:=u281,a131:=Tryz.isAgg281,z131:=Tryz.sizeOf281,
 v131:=Tryz.zeroValue281,t182:=u325,a182:=Tryz.isAgg325,
 z182:=Tryz.sizeOf325,v182:=Tryz.zeroValue325,t183:=u326,
 a183:=Tryz.isAgg326,z183:=Tryz.sizeOf326,v183:=Tryz.zeroValue326,
 t218:=u347,a218:=Tryz.isAgg347,z218:=Tryz.sizeOf347,
 v218:=Tryz.zeroValue347,t222:=u183,a222:=Tryz.isAgg183,
 z222:=Tryz.sizeOf183,v222:=Tryz.zeroValue183,t228:=u353,
 a228:=Tryz.isAgg353,z228:=Tryz.sizeOf353,v228:=Tryz.zeroValue353,
 t229:=u354,a229:=Tryz.isAgg354,z229:=Tryz.sizeOf354,
 v229:=Tryz.zeroValue354}
def srtI(zs:List Int):List Int:=zs.mergeSort fun x y=>decide (x<=y)
theorem UX(ao:A_)(cap:Nat)(zs:List Int)(hz:zs.length<4611686018427387904)(h0:0<zs.length):
  Sp P0 164 [.slice ao zs.length cap] [sq ao zs.length cap 3 1 (zs.map gI)] fun v h=>v= .tuple #[]/\h=[sq ao zs.length cap 3 1 ((srtI zs).map gI)]:=by
 intro w ho
 have hr:=ho.mine _ Ar
 obtain⟨h1,h2⟩:=hr
 rcases h2 with ⟨rfl,h3,_⟩|⟨g,cur,rfl,hg,k1,k2,k3,k4⟩
 ·omega
 ·have b:w.heap[g]? =some (.cells cur 3 (0,0)):=hg
  have hlt:g<w.heap.size:=(Bb.1 b).1
  have hl:(srtI zs).length=zs.length:=(Bq zs _).length_eq
  refine Calls.mono (Any.slices_Sort_int (ρ:=CN) PU g 0 cap zs w (holds_of_blockI b (by rw[Bm]at k4;exact k4)) hlt hz) fun e w' ⟨he,n,os,hw⟩=>?_
  subst he hw
  have hrow:=ownsRow_sortedI (w:=w) (base:=0) (g:=g) (cap:=cap) (n:=n) (e:=3) (os:=os) (ss:=zs) (ts:=srtI zs) hl (Af _) b k1 k2 k3
  have hgr:=grownBy_sortedI (w:=w) (g:=g) (n:=n) (os:=os) (srtI zs).toArray
  obtain⟨d,c,e1,e2⟩:=own_sq hrow
  cases e1
  refine⟨_,_,rfl,⟨rfl,rfl⟩,?_⟩
  have:=ho.renew (w':=Go.Sort.grow (Go.Sort.putRow (Value.int .i64) (Go.Sort.ahead w n) g 0 (srtI zs).toArray) os) (i:=0) (r':=sq (some ⟨g,0,none⟩) zs.length cap 3 1 ((srtI zs).map gI)) rfl (.inl rfl) hgr.os hgr.tape hgr.output hgr.size (fun k hk hne=>hgr.block k hk fun e=>hne ?_) e2
  ·exact this
  ·cases e;simp[sq]
end
theorem Jq:∀(k:Nat) (c:CA),(Zv k c).keep=c.keep/\(Zv k c).commit=c.commit+k/\(Zv k c).out.done.length=c.out.done.length+k
 |0,c=>⟨rfl,by simp[Zv],rfl⟩
 |k+1,c=>by
  obtain⟨a,b,d⟩:=Jq k {c with commit:=c.commit+1,out:={c.out with done:=c.out.done++[c.keep.log.getD c.commit.toNat []]}}
  unfold Zv
  exact⟨a,by rw[b];simp only;omega,by rw[d];simp only[List.length_append,List.length_singleton];omega⟩
def CA.step(c:CA):CA:={c with commit:=c.commit+1,out:={c.out with done:=c.out.done++[c.keep.log.getD c.commit.toNat []]}}
theorem LD:∀(k:Nat) (c:CA),Zv (k+1) c=(Zv k c).step
 |0,_=>rfl
 |k+1,c=>LD k c.step
theorem EI.sub{L:PL}{a:A_}{m c:Nat}{bs:List N_}{j q:Nat}(h:EI L (.slice a m c) bs)(hm:m=bs.length)(e:j<=q)(hq:q<=m):EI L (.slice (EH a c j 1) (q-j) (c-j)) ((bs.take q).drop j):=by
 obtain⟨vs,hns,hp⟩:=h.ns
 subst hm
 refine EI.of (hp.sub e hq) (by simp;omega) ⟨by simp[hns.1],fun i u b d hb=>?_⟩
 rw[BW,BH]at d hb
 split at d
 ·rename_i h;rw[Ah h]at hb;exact hns.2 _ u b d hb
 ·cases d
theorem EB{o:Option Int}:(Option.map gI o).getD (Cs 0)= Cs (o.getD 0):=by cases o<;>rfl
theorem HP(p:Nat)(L:PL)(c:CA)(s:A_)(t:Nat)(hb u y:Nat)(E D:Value)(f:A_)(g:Nat)(e:V_)(b:Nat)(hf:c.Fit b)(hbb:b<536870912)(k:Int)(hlog:EI L (.slice s c.keep.log.length t) c.keep.log)(hdn:Dz L e c.out.done):
  Sp P0 163 [Cr p,Cs k] [Mf p c (.slice s c.keep.log.length t) hb u y E D (.slice f c.out.done.length g),sq f c.out.done.length g 53 1 e,pool L] fun v h=>v= .tuple #[]/\∃L' m n l,Le L L'/\Dz L' l (c.reach k).out.done/\h=[Mf p (c.reach k) (.slice s (c.reach k).keep.log.length t) hb u y E D (.slice m (c.reach k).out.done.length n),sq m (c.reach k).out.done.length n 53 1 l,pool L']:=by
 have q1:=hf.commit;have q2:=hf.log;have q3:=hf.done;have q4:=hf.entry
 refine Sq Tryz.func163 fun w0 b_=>?_
 refine Tb (CD (fun((i,d,L',f,g,e):Nat×CA×PL×A_×Nat×V_)=>[(0,Cr p),(1,Cs k)]) (fun(i,d,L',f,g,e)=>[Mf p d (.slice s d.keep.log.length t) hb u y E D (.slice f d.out.done.length g),sq f d.out.done.length g 53 1 e,pool L']) (fun(i,d,L',f,g,e)=>Le L L'/\i<=(min k c.keep.log.length-c.commit).toNat/\d=Zv i c/\Dz L' e d.out.done) (fun(i,_)=>(min k c.keep.log.length-c.commit).toNat-i) (0,c,L,f,g,e) ?_ ?_)
 ·exact⟨⟨.refl _,Af _,rfl,hdn⟩,Sb2,.refl _⟩
 clear hdn
 rintro⟨i,d,L',f,g,e⟩ ⟨hL,hi,he,hdn⟩
 obtain⟨e1,e2,e3⟩:=Jq i c
 rw[<-he]at e1 e2 e3
 have e4:d.keep.log.length=c.keep.log.length:=by rw[e1]
 conv=>arg 7;dsimp only
 conv=>arg 8;dsimp only
 refine OA 2 ?_
 refine CS rfl (fun j=>false) ?_
 refine DA [0,1,2,3,4,5,6,7,8,9,10] ?_
 refine D1 11 rfl (Zo rfl rfl rfl) ?_
 refine D1 12 rfl Xlt ?_
 refine D0 (Cy rfl (fun r=>?_) (fun r=>?_))
 ·rw[<-e1]at hlog q4
  obtain⟨vs,hns,hps⟩:=hlog.ns
  obtain⟨x,hx⟩:∃x,d.keep.log[d.commit.toNat]? =some x:=⟨_,Ae (by omega)⟩
  obtain⟨G,H,hv,hB,I⟩:=(hns.le hL).at hx
  have hxl:=q4 x (Aj hx)
  refine CM at2 (Reads.pool (hps.le hL)) hv fun ad B=>?_
  subst B
  refine OA 3 ?_
  refine Cw (.t (.s (.t .d))) rfl (fun j=>Nat.beq j 23) ?_
  intro J
  refine DA [0,1,2,3,4,5,6,7,8,9,10,11,12,13,14] ?_
  refine D1 15 rfl (Qaq d.commit.toNat rfl rfl rfl u40 rfl (by omega) (by omega)) ?_
  refine D1 16 rfl (Ct.reads (j:=d.commit.toNat) rfl rfl at1 (Reads.pool (hps.le hL)) u53 rfl hv) ?_
  refine Da 17 ?_
  refine DB rfl rfl (en 36) rfl (.p2 .d) (Gd G x.length H (x.map u8) _ (Reads.pool hB.1) (by simp) (EU _) (by omega)) ?_
  rintro _ _ ⟨a2,c2,rfl,rfl⟩
  refine ys (Da 18 ?_)
  refine D6 rfl (YY u40) ?_
  rintro _ _ ⟨F,rfl,rfl⟩
  refine ys (Da 19 ?_)
  refine D6 rfl (LO.app KR) ?_
  rintro _ _ ⟨w,A,rfl,rfl⟩
  refine ys (DP [20,21] ?_)
  refine D1 22 rfl (Ct.fld 2 2 16 u106) ?_
  refine Da 23 ?_
  refine D8 rfl YO ?_
  refine D0 (Cx (Zg (.p2 (.p2 .d))) ?_)
  rintro _ ⟨L2,o,C,rfl⟩
  refine Tp (.t0 (.t0 (.t1 .e))) ?_
  have hst:d.step.out.done=d.out.done++[x]:=by unfold CA.step;simp only[List.getD_eq_getElem?_getD,hx,Option.getD_some]
  have hsl:d.step.out.done.length=d.out.done.length+1:=by rw[hst,Ac];rfl
  rw[<-hsl]
  refine OA 10 ?_
  exact⟨(i+1,d.step,L2,w,A,_),⟨⟨hL.trans o,by omega,by rw[he,LD],by rw[hst];exact(hdn.le o).snoc ⟨C,hB.2⟩⟩,Sb2,.refl _⟩,by simp only;omega⟩
 have q:d=c.reach k:=by rw[he];unfold CA.reach;rw[show i=(min k c.keep.log.length-c.commit).toNat from by omega]
 subst q
 refine Te ?_
 exact Ef rfl (.refl _) ⟨rfl,L',f,g,e,hL,hdn,rfl⟩
theorem feedA_bd{c:CA}{b:Nat}(hf:c.Fit b)(to:Int):0<=c.feedA to/\c.feedA to<=c.keep.log.length:=by
 unfold CA.feedA
 have h0:0<=(alk to c.has).getD 0:=by
  cases h:alk to c.has with
  |none=>exact AK _
  |some v=>exact hf.hasV to v h
 omega
theorem Oq(p:Nat)(L:PL)(c:CA)(s:A_)(t:Nat)(hb g i:Nat)(o k:Value)(l:A_)(m:Nat)(mcs:V_)(b:Nat)(hf:c.Fit b)(hbb:b<536870912)(to:Int)(hlog:EI L (.slice s c.keep.log.length t) c.keep.log)(f:Rws (Gu L) mcs c.out.msgs):
  Sp P0 108 [Cr p,Cs to] [Mf p c (.slice s c.keep.log.length t) hb g i o (.slice l c.out.msgs.length m) k,Dm hb gI c.has,sq l c.out.msgs.length m 138 12 mcs] fun v h=>v= .tuple #[]/\∃q r n,Rws (Gu L) n (c.feed to).out.msgs/\h=[Dm hb gI c.has,Mf p (c.feed to) (.slice s c.keep.log.length t) hb g i o (.slice q (c.feed to).out.msgs.length r) k,sq q (c.feed to).out.msgs.length r 138 12 n]:=by
 have q2:=hf.log
 obtain⟨x,f1⟩:=feedA_bd hf to
 obtain⟨_,_,e0,u,_⟩:=hlog.sh
 cases e0
 refine Sq Tryz.func108 fun w0 b_=>?_
 refine Ts (CS rfl (fun j=>false) ?_)
 refine DA [0,1,2,3,4] ?_
 refine D1 5 rfl (YK (ZF (z:=Cs 0) to u96 u3) EB) ?_
 refine DA [6,7,8,9,10,11] ?_
 refine D1 12 rfl (YT (y:=c.feedA to) (Zo rfl rfl rfl) rfl) ?_
 refine D1 13 rfl FC ?_
 refine D0 (Cw (.t (.t .d)) rfl (fun j=>Nat.beq j 24) ?_)
 intro w
 refine D1 0 rfl DC ?_
 refine DP [1,2,3,4,5,7,8,9,10,12,13,14,15,16,17,18] ?_
 refine Da3 6 11 19 ?_ ?_ ?_
 ·refine Gz rfl (YX (Zi u3)) ?_
  refine Jy 11 19 ?_ ?_
  ·refine Gz rfl (YX (Zi u40)) ?_
   refine Da 19 ?_
   refine Gz rfl (YX (Zi u40)) ?_
   refine D2 20 rfl (fun _=>MV u40) ?_
   refine D2 21 rfl (fun _=>Zo rfl rfl rfl) ?_
   refine D2 22 rfl (fun _=>ZQ 1 (c.feedA to).toNat (min (c.feedA to+8) c.keep.log.length).toNat u40) ?_
   refine D1 23 rfl (Xb bt138.h) ?_
   refine Da 24 ?_
   refine DB rfl rfl (en 162) rfl (.p0 (.p1 .d)) (Ea p c _ hb g i o k l m mcs b hf (by omega) {CY 1 with to:=to,at_:=c.feedA to,commit:=c.commit,list:=(c.keep.log.take (min (c.feedA to+8) c.keep.log.length).toNat).drop (c.feedA to).toNat} _ _ _ _ _ _) ?_
   rintro _ _ ⟨rfl,d,e,rfl⟩
   refine yk ?_
   refine D0 ?_
   exact Ef rfl (.refl _) ⟨rfl,d,e,_,f.snoc ⟨_,_,rfl,hlog.sub rfl (by omega) (by omega),Zp _⟩,rfl⟩
  refine Gz rfl (YX (Zi u40)) ?_
  refine D2 20 rfl (fun _=>MV u40) ?_
  refine D2 21 rfl (fun _=>Zo rfl rfl rfl) ?_
  refine Da 11 ?_
  refine Gz rfl (YX (Zi u40)) ?_
  refine D2 22 rfl (fun _=>ZQ 1 (c.feedA to).toNat (min (c.feedA to+8) c.keep.log.length).toNat u40) ?_
  refine D1 23 rfl (Xb bt138.h) ?_
  refine Da 24 ?_
  refine DB rfl rfl (en 162) rfl (.p0 (.p1 .d)) (Ea p c _ hb g i o k l m mcs b hf (by omega) {CY 1 with to:=to,at_:=c.feedA to,commit:=c.commit,list:=(c.keep.log.take (min (c.feedA to+8) c.keep.log.length).toNat).drop (c.feedA to).toNat} _ _ _ _ _ _) ?_
  rintro _ _ ⟨rfl,d,e,rfl⟩
  refine yk ?_
  refine D0 ?_
  exact Ef rfl (.refl _) ⟨rfl,d,e,_,f.snoc ⟨_,_,rfl,hlog.sub rfl (by omega) (by omega),Zp _⟩,rfl⟩
 ·refine Gz rfl (YX (Zi u40)) ?_
  refine Jy 6 19 ?_ ?_
  ·refine Gz rfl (YX (Zi u3)) ?_
   refine Da 19 ?_
   refine Gz rfl (YX (Zi u40)) ?_
   refine D2 20 rfl (fun _=>MV u40) ?_
   refine D2 21 rfl (fun _=>Zo rfl rfl rfl) ?_
   refine D2 22 rfl (fun _=>ZQ 1 (c.feedA to).toNat (min (c.feedA to+8) c.keep.log.length).toNat u40) ?_
   refine D1 23 rfl (Xb bt138.h) ?_
   refine Da 24 ?_
   refine DB rfl rfl (en 162) rfl (.p0 (.p1 .d)) (Ea p c _ hb g i o k l m mcs b hf (by omega) {CY 1 with to:=to,at_:=c.feedA to,commit:=c.commit,list:=(c.keep.log.take (min (c.feedA to+8) c.keep.log.length).toNat).drop (c.feedA to).toNat} _ _ _ _ _ _) ?_
   rintro _ _ ⟨rfl,d,e,rfl⟩
   refine yk ?_
   refine D0 ?_
   exact Ef rfl (.refl _) ⟨rfl,d,e,_,f.snoc ⟨_,_,rfl,hlog.sub rfl (by omega) (by omega),Zp _⟩,rfl⟩
  refine Gz rfl (YX (Zi u40)) ?_
  refine D2 20 rfl (fun _=>MV u40) ?_
  refine D2 21 rfl (fun _=>Zo rfl rfl rfl) ?_
  refine D2 22 rfl (fun _=>ZQ 1 (c.feedA to).toNat (min (c.feedA to+8) c.keep.log.length).toNat u40) ?_
  refine Da 6 ?_
  refine Gz rfl (YX (Zi u3)) ?_
  refine D1 23 rfl (Xb bt138.h) ?_
  refine Da 24 ?_
  refine DB rfl rfl (en 162) rfl (.p0 (.p1 .d)) (Ea p c _ hb g i o k l m mcs b hf (by omega) {CY 1 with to:=to,at_:=c.feedA to,commit:=c.commit,list:=(c.keep.log.take (min (c.feedA to+8) c.keep.log.length).toNat).drop (c.feedA to).toNat} _ _ _ _ _ _) ?_
  rintro _ _ ⟨rfl,d,e,rfl⟩
  refine yk ?_
  refine D0 ?_
  exact Ef rfl (.refl _) ⟨rfl,d,e,_,f.snoc ⟨_,_,rfl,hlog.sub rfl (by omega) (by omega),Zp _⟩,rfl⟩
 refine Gz rfl (YX (Zi u40)) ?_
 refine D2 20 rfl (fun _=>MV u40) ?_
 refine D2 21 rfl (fun _=>Zo rfl rfl rfl) ?_
 refine Jy 6 11 ?_ ?_
 ·refine Gz rfl (YX (Zi u3)) ?_
  refine Da 11 ?_
  refine Gz rfl (YX (Zi u40)) ?_
  refine D2 22 rfl (fun _=>ZQ 1 (c.feedA to).toNat (min (c.feedA to+8) c.keep.log.length).toNat u40) ?_
  refine D1 23 rfl (Xb bt138.h) ?_
  refine Da 24 ?_
  refine DB rfl rfl (en 162) rfl (.p0 (.p1 .d)) (Ea p c _ hb g i o k l m mcs b hf (by omega) {CY 1 with to:=to,at_:=c.feedA to,commit:=c.commit,list:=(c.keep.log.take (min (c.feedA to+8) c.keep.log.length).toNat).drop (c.feedA to).toNat} _ _ _ _ _ _) ?_
  rintro _ _ ⟨rfl,d,e,rfl⟩
  refine yk ?_
  refine D0 ?_
  exact Ef rfl (.refl _) ⟨rfl,d,e,_,f.snoc ⟨_,_,rfl,hlog.sub rfl (by omega) (by omega),Zp _⟩,rfl⟩
 refine Gz rfl (YX (Zi u40)) ?_
 refine D2 22 rfl (fun _=>ZQ 1 (c.feedA to).toNat (min (c.feedA to+8) c.keep.log.length).toNat u40) ?_
 refine Da 6 ?_
 refine Gz rfl (YX (Zi u3)) ?_
 refine D1 23 rfl (Xb bt138.h) ?_
 refine Da 24 ?_
 refine DB rfl rfl (en 162) rfl (.p0 (.p1 .d)) (Ea p c _ hb g i o k l m mcs b hf (by omega) {CY 1 with to:=to,at_:=c.feedA to,commit:=c.commit,list:=(c.keep.log.take (min (c.feedA to+8) c.keep.log.length).toNat).drop (c.feedA to).toNat} _ _ _ _ _ _) ?_
 rintro _ _ ⟨rfl,d,e,rfl⟩
 refine yk ?_
 refine D0 ?_
 exact Ef rfl (.refl _) ⟨rfl,d,e,_,f.snoc ⟨_,_,rfl,hlog.sub rfl (by omega) (by omega),Zp _⟩,rfl⟩
def CA.heldL(c:CA):Nat->Int->List Int->List Int
 |0,_,h=>h
 |k+1,to,h=>if to<=c.n then CA.heldL c k (to+1) (if to=c.me then h else h++[(alk to c.has).getD 0])else h
def CA.held(c:CA):List Int:=c.heldL 8 1 [(c.keep.log.length:Int)]
def CA.count(c:CA):CA:=if c.leads=true then c.reach ((Go.Cru.srtI c.held).getD ((c.held.length-1)/2) 0)else c
theorem getD_gI{l:List Int}{i:Nat}(h:i<l.length):(l.map gI)[i]? =some (gI (l.getD i 0)):=by
 rw[Aq,Ae h,AB,Ae h];rfl
theorem srtI_len(l:List Int):(Go.Cru.srtI l).length=l.length:=(Bq l _).length_eq
theorem HD(p:Nat)(L:PL)(c:CA)(E:A_)(F:Nat)(hb u A:Nat)(H G:Value)(r:A_)(s:Nat)(d:V_)(b:Nat)(hf:c.Fit b)(hbb:b<536870912)(hlog:EI L (.slice E c.keep.log.length F) c.keep.log)(hdn:Dz L d c.out.done):
  Sp P0 109 [Cr p] [Mf p c (.slice E c.keep.log.length F) hb u A H G (.slice r c.out.done.length s),Dm hb gI c.has,sq r c.out.done.length s 53 1 d,pool L] fun v h=>v= .tuple #[]/\∃L' x B j,Le L L'/\Dz L' j c.count.out.done/\h=[Dm hb gI c.has,Mf p c.count (.slice E c.count.keep.log.length F) hb u A H G (.slice x c.count.out.done.length B),sq x c.count.out.done.length B 53 1 j,pool L']:=by
 have q2:=hf.log;have q3:=hf.me;have q4:=hf.n
 obtain⟨_,_,e0,Q,_⟩:=hlog.sh
 cases e0
 refine Sq Tryz.func109 fun w0 b_=>?_
 refine OA 4 ?_
 refine O8 (Zd rfl (en 104) rfl (.p0 .d) (Ls p c _ hb u A H G _ b hf)) ?_
 refine OA 2 ?_
 refine Tp (.t3 (.t0 (.t0 (.t0 .e)))) (CE rfl (fun o=>?_) (fun o=>?_))
 ·have m:c.leads=false:=by cases h:c.leads<;>simp[h]at o ⊢
  have e:c.count=c:=by unfold CA.count;rw[m];rfl
  rw[e]
  refine Tp (.t1 (.t0 (.t0 (.t0 .e)))) ?_
  exact Cu (JY rfl (.refl _) ⟨rfl,L,r,s,d,.refl _,hdn,rfl⟩)
 have m:c.leads=true:=by cases h:c.leads<;>simp[h]at o ⊢
 have e:c.count=c.reach ((Go.Cru.srtI c.held).getD ((c.held.length-1)/2) 0):=by unfold CA.count;rw[Ah m]
 rw[e]
 refine OA 8 ?_
 refine O1 (YT (y:=0) (Za rfl rfl rfl) rfl) ?_
 refine O1 (YK (v':=.bool false) (Ct.neq rfl rfl rfl) rfl) ?_
 refine OA 11 ?_
 refine O6 (YY u28) fun t=>?_
 refine OA 2 ?_
 refine Cx (Cv.asSq (b:=t) 1 1 (by decide) (hc:=rfl)) ?_
 rintro _ rfl
 refine OA 6 ?_
 refine CD (fun((k,to,ha,hc,hl):Nat×Int×A_×Nat×List Int)=>[(0,Cr p),(2,.slice ha hl.length hc),(3,Cs to)]) (fun(k,to,ha,hc,hl)=>[Mf p c (.slice E c.keep.log.length F) hb u A H G (.slice r c.out.done.length s),Dm hb gI c.has,sq r c.out.done.length s 53 1 d,pool L,sq ha hl.length hc 3 1 (hl.map gI)]) (fun(k,to,ha,hc,hl)=>(k:Int)+to=9/\1<=to/\CA.heldL c k to hl=c.held/\hl.length+k<=9/\0<hl.length) (fun(k,_)=>k) (8,1,some ⟨t,0,none⟩,1,[(c.keep.log.length:Int)]) ?_ ?_
 ·exact⟨⟨rfl,by decide,rfl,Al 9,Nat.one_pos⟩,Sb3,.refl _⟩
 rintro⟨k,to,ha,hc,hl⟩ ⟨hk,h1,he,hkl,n⟩
 conv=>arg 7;dsimp only
 conv=>arg 8;dsimp only
 refine OA 10 ?_
 refine Cy rfl (fun f=>?_) (fun f=>?_)
 ·obtain⟨k,rfl⟩:∃q,k=q+1:=⟨k-1,by omega⟩
  rw[CA.heldL,Ah f]at he
  refine OA 12 ?_
  refine CH rfl (fun i=>?_) (fun i=>?_)
  ·rw[Aa i]at he
   refine OA 7 ?_
   refine O1 (YK (ZF (z:=Cs 0) to u96 u3) EB) ?_
   refine O6 (YY u28) fun P=>?_
   refine O2 (LO.app Yq) ?_
   rintro _ _ ⟨M,N,rfl,rfl⟩
   refine O1 FC ?_
   refine Oi (YN (.t0 (.t0 (.t0 (.t0 (.t0 .e)))))) ?_
   rw[show hl.length+1=(hl++[(alk to c.has).getD 0]).length from by rw[Ac];rfl,show hl.map gI++[Cs ((alk to c.has).getD 0)]=(hl++[(alk to c.has).getD 0]).map gI from by rw[AO];rfl]
   refine OA 6 ?_
   exact⟨(k,to+1,M,N,_),⟨⟨by omega,by omega,he,by simp only[List.length_append,List.length_singleton];omega,by simp⟩,Sb3,.refl _⟩,by simp only;omega⟩
  rw[Ah i]at he
  refine OA 6 ?_
  exact⟨(k,to+1,ha,hc,hl),⟨⟨by omega,by omega,he,by omega,n⟩,Sb3,.refl _⟩,by simp only;omega⟩
 have O:hl=c.held:=by
  cases k with
  |zero=>exact he
  |succ k=>rw[CA.heldL,Aa f]at he;exact he
 have hsl:=srtI_len hl
 refine OA 4 ?_
 refine O8 (Zd rfl (en 164) rfl (.p4 .d) (UX ha hc hl (by omega) n)) ?_
 refine On (CO (fun w hw=>hw.sqNN (ao:=ha) at4 n) fun⟨g,hg⟩=>?_)
 subst hg
 refine OA 6 ?_
 refine O1 (Ct.quo rfl rfl rfl (by omega) (by omega) (by omega)) ?_
 refine O1 (Zj ((hl.length-1)/2) rfl rfl rfl u28 rfl (by omega) (by omega)) ?_
 refine O1 (YV (off:=(hl.length-1)/2) u3 (getD_gI (l:=srtI hl) (by rw[hsl];omega))) ?_
 refine Oc rfl (en 163) rfl (.p0 (.p1 (.p1 .d))) (HP p L c E F hb u A H G r s d b hf hbb ((srtI hl).getD ((hl.length-1)/2) 0) hlog hdn) ?_
 rintro _ _ ⟨rfl,L2,I,J,C,K,D,rfl⟩
 refine On ?_
 rw[<-O]
 refine Ef rfl (Ax _ (List.Sublist.cons _ (.refl _))) ⟨rfl,L2,I,J,C,K,D,rfl⟩
def Sa(b:N_):ByteArray:=(b.map fun(x:Nat)=>(x:Int)).foldl (fun r n=>r.push (UInt8.ofNat n.toNat)) ByteArray.empty
theorem XU(b:N_):(Sa b).data.toList=b.map fun x=>UInt8.ofNat x:=by
 have:∀(b:N_) (s:ByteArray),((b.map fun(x:Nat)=>(x:Int)).foldl (fun r n=>r.push (UInt8.ofNat n.toNat)) s).data.toList=s.data.toList++b.map fun x=>UInt8.ofNat x:=by
  intro b
  induction b with
  |nil=>intro s;simp
  |cons x b ih=>
   intro s
   simp only[List.map_cons,List.foldl_cons]
   rw[ih]
   simp[ByteArray.push]
 unfold Sa
 rw[this b ByteArray.empty]
 rfl
theorem IY(b:N_):(Sa b).toList=b.map fun x=>UInt8.ofNat x:=by rw[ByteArray.toList_eq,XU]
theorem KW:∀ {a b:N_},Eu a->Eu b->((b.map fun x=>UInt8.ofNat x)=(a.map fun x=>UInt8.ofNat x)↔b=a)
 |[],[],_,_=>by simp
 |[],_::_,_,_=>by simp
 |_::_,[],_,_=>by simp
 |x::a,y::b,ha,hb=>by
  have hx:=ha x Ar
  have hy:=hb y Ar
  have ih:=KW (fun z hz=>ha z (Aw _ hz)) (fun z hz=>hb z (Aw _ hz))
  simp only[List.map_cons,List.cons.injEq,ih]
  refine and_congr_left fun _=>⟨fun h=>?_,fun h=>by rw[h]⟩
  have:=congrArg UInt8.toNat h
  rw[UInt8.toNat_ofNat_of_lt' hy,UInt8.toNat_ofNat_of_lt' hx]at this
  exact this
section
variable {P:Program}{n:Nat}{w0:World}{b_:N_}{l:Dh}{h hs:Mem}{o:Oper}{v:Value}
theorem Ct.b2s{x:Operand}{S T e m cap i:Nat}{ao:A_}{b:N_}{r:CW}(hr:Reads r ao (b.map u8))(f:P.underlying S=some (.slice e))(he:P.underlying e=some (.int .u8))(g:P.underlying T=some .string)(ho:o.op= .convert S T x:=by rfl)(hx:ev l x=some (.slice ao m cap):=by rfl)(hm:b.length=m:=by rfl)
  (hi:FG hs i r:=by first|exact at0|exact at1|exact at2|exact at3|exact at4|exact at5|exact at6|exact at7|exact at8|exact at9|exact at10|exact at11|exact at12):Ct P n w0 b_ hs l o (.string (Sa b)):=
 Ct.of (s:=Go.convert S T (.slice ao m cap)) (fun a hf=>by unfold execOp;simp only[ho,hf.eval hx]) fun w c=>by
  rw[run_convert_bytes_string w S T e ao m cap f he g]
  have hread:=hr _ (c.mine _ (Aj hi.at))
  cases ao with
  |none=>
   have:b=[]:=by
    cases b with
    |nil=>rfl
    |cons x r=>obtain⟨y,hy,_⟩:=hread 0 (u8 x) rfl;cases hy
   subst this
   rfl
  |some a=>
   have d:(b.map fun(x:Nat)=>(x:Int)).map (Value.int .u8)=b.map u8:=by rw[List.map_map];rfl
   exact run_bytesToString w a m cap (b.map fun(x:Nat)=>(x:Int)) (by
    unfold loadCells
    rw[Cru.run_loadCellsFrom m 0 #[] (b.map u8) (by simpa using hm) (fun j v hj=>by
     obtain⟨y,hy,hc⟩:=hread j v hj
     cases hy
     rw[AE];exact hc)]
    rw[d]
    simp)
theorem Ct.eqlStr{t t':TypeId}{x y:Operand}{a b:ByteArray}(ho:o.op= .binOp .eql t x y t')(hx:ev l x=some (.string a))(hy:ev l y=some (.string b)):Ct P n w0 b_ hs l o (.bool (a.toList == b.toList)):=
 Ct.bin' ho hx hy (fun w=>rfl) fun w=>by
  show(Op.stringOp .eql a b).run P w=_
  rfl
end
theorem UN(a b:A_)(c d:Nat)(xs ys:N_)(L:PL)(hx:Bs L (.slice a xs.length c) xs)(hy:Bs L (.slice b ys.length d) ys):
  Sp P0 246 [.slice a xs.length c,.slice b ys.length d] [pool L] fun v h=>v= .bool (decide (xs=ys))/\h=[pool L]:=by
 refine Sq Tryz.func246 fun w0 b_=>?_
 have e:((Sa xs).toList == (Sa ys).toList)=decide (xs=ys):=by
  rw[IY,IY,Bool.eq_iff_iff]
  simp[KW hy.2 hx.2]
 refine OA 7 ?_
 refine O1 (Ct.b2s (Reads.pool hx.1) u53 u5 u9) ?_
 refine O1 DC ?_
 refine O1 (Ct.b2s (Reads.pool hy.1) u53 u5 u9) ?_
 refine O1 (YK (Ct.eqlStr rfl rfl rfl) (congrArg Value.bool e)) ?_
 refine OA 2 ?_
 exact Cu (Rr ⟨rfl,rfl⟩)
theorem Cv.up{w0:World}{b_:N_}{h h':Mem}{i:Nat}{S:N_}{A B:Mem->Prop}(hi:Ep h i (cm S A) (cm S B) h')(b:∀rs,A rs->B rs):Cv w0 b_ h fun k=>k=h':=fun w o=>by
 refine⟨_,rfl,?_⟩
 obtain⟨e1,e2⟩:=hi.at
 rw[e2]
 have hl:=(Ab.1 e1).1
 refine⟨o.os,o.tape,o.output,o.size,o.old,fun r hr=>?_,?_,fun r hr=>?_⟩
 ·rcases BZ hr with hr|rfl
  ·exact o.mine r hr
  ·exact cm_mono b _ (o.mine _ (Aj e1))
 ·have:=o.nd
  rw[Iw h i (cm S A) (cm S B) e1 rfl]
  exact this
 ·rcases BZ hr with hr|rfl
  ·exact o.fr r hr
  ·exact o.fr (cm S A) (Aj e1)
def Ff:List N_->List N_->Nat
 |a::xs,b::ys=>if a=b then Ff xs ys+1 else 0
 |_,_=>0
theorem IF:∀(a b:List N_),Ff a b<=a.length/\Ff a b<=b.length
 |[],b=>by cases b<;>simp[Ff]
 |_::_,[]=>by simp[Ff]
 |x::a,y::b=>by
  have:=IF a b
  unfold Ff
  split
  ·simp only[List.length_cons];omega
  ·simp only[List.length_cons];omega
theorem UB{a b:List N_}{i:Nat}{x:N_}(ha:a[i]? =some x)(hb:b[i]? =some x):Ff (a.drop i) (b.drop i)=Ff (a.drop (i+1)) (b.drop (i+1))+1:=by
 have h1:=(Ab.1 ha)
 have h2:=(Ab.1 hb)
 obtain⟨c,e1⟩:=h1
 obtain⟨d,e2⟩:=h2
 rw[Ay c,Ay d,e1,e2,Ff,Ah rfl]
theorem Ua{a b:List N_}{i:Nat}(h:¬(i<min a.length b.length/\a[i]? =b[i]?)):Ff (a.drop i) (b.drop i)=0:=by
 by_cases hi:i<min a.length b.length
 ·have hne:¬a[i]? =b[i]? :=fun e=>h ⟨hi,e⟩
  have c:i<a.length:=by omega
  have d:i<b.length:=by omega
  rw[Ay c,Ay d,Ff,Aa]
  intro e
  exact hne (by rw[Ae c,Ae d,e])
 ·by_cases c:i<a.length
  ·rw[BB (show b.length<=i by omega)]
   cases a.drop i<;>rfl
  ·rw[BB (show a.length<=i by omega)]
   cases b.drop i<;>rfl
def CA.puts(c:CA)(bs:List N_):CA:=bs.foldl (fun c b=>c.put ⟨2,0,0,b⟩) c
def CA.adopt1(c:CA)(log:List N_):CA:=if Ff log c.keep.log<c.keep.log.length then c.put ⟨3,(Ff log c.keep.log:Int),0,[]⟩else c
def CA.adopt2(c:CA)(log:List N_):CA:=(c.adopt1 log).puts (log.drop (Ff log c.keep.log))
def CA.begun_(c:CA):CA:={c.put ⟨1,c.keep.view,c.keep.view,[]⟩with changing:=false,idle:=0,has:=[],begun:=[],dos:=[]}
def CA.adopt(c:CA)(log:List N_):CA:=(c.adopt2 log).begun_
theorem Fq{c:CA}{b:Nat}(hf:c.Fit b){r:HY}(hd:r.data.length<=65536)(h1:r.kind=1->(0<=r.a/\r.a<=1099511627776)/\0<=r.b/\r.b<=1099511627776)(h2:r.kind=2->c.keep.log.length<1048576):(c.put r).Fit (b+1):=by
 have hlog:=hf.log
 have hrec:=hf.recs
 have hent:=hf.entry
 have key:(0<=(c.keep.lay r).view/\(c.keep.lay r).view<=1099511627776)/\(0<=(c.keep.lay r).normal/\(c.keep.lay r).normal<=1099511627776)/\(c.keep.lay r).log.length<=1048576/\∀x∈(c.keep.lay r).log,x.length<=65536:=by
  unfold DW.lay
  split
  ·rename_i h
   exact⟨(h1 h).1,(h1 h).2,by simp only;omega,hent⟩
  ·split
   ·rename_i h
    have:=h2 h
    refine⟨hf.view,hf.normal,by simp only[List.length_append,List.length_singleton];omega,fun x hx=>?_⟩
    rcases AC.1 hx with hx|hx
    ·exact hent x hx
    ·rw[Ap.1 hx];exact hd
   ·split
    ·exact⟨hf.view,hf.normal,by simp only[List.length_take];omega,fun x hx=>hent x (List.mem_of_mem_take hx)⟩
    ·exact⟨hf.view,hf.normal,by omega,hent⟩
 exact⟨hf.me,hf.n,hf.shard,hf.patience,key.1,key.2.1,key.2.2.1,key.2.2.2,hf.commit,hf.idle,⟨hf.maps.1,hf.maps.2,hf.maps.3,hf.maps.4,hf.maps.5,hf.maps.6,hf.maps.7⟩,by unfold CA.put;simp only[List.length_append,List.length_singleton];omega,Nat.le_succ_of_le hf.msgs,Nat.le_succ_of_le hf.done⟩
theorem Jo(c:CA)(log:List N_):(c.adopt1 log).keep.log.length=Ff log c.keep.log:=by
 have:=IF log c.keep.log
 unfold CA.adopt1
 split
 ·unfold CA.put DW.lay
  simp only
  rw[Aa (by decide),Aa (by decide),Ah trivial]
  simp only[List.length_take]
  omega
 ·omega
theorem MQ:∀(bs:List N_) (c:CA),(c.puts bs).keep.log.length=c.keep.log.length+bs.length
 |[],_=>rfl
 |x::bs,c=>by
  have:=MQ bs (c.put ⟨2,0,0,x⟩)
  unfold CA.puts at this ⊢
  rw[BX,this]
  have h1:(c.put ⟨2,0,0,x⟩).keep.log.length=c.keep.log.length+1:=by
   unfold CA.put DW.lay
   simp only
   rw[Aa (by decide),Ah trivial]
   simp
  rw[h1,Am];omega
theorem Yg(c:CA)(bs:List N_)(x:N_):c.puts (bs++[x])=(c.puts bs).put ⟨2,0,0,x⟩:=by unfold CA.puts;rw[BP];rfl
theorem MX(p:Nat)(S:N_)(L:PL)(c:CA)(b:Nat)(hf:c.Fit b)(log:List N_)(hbb:b+log.length<268435456)(d1:log.length<=1048576)(c3:∀x∈log,x.length<=65536)(lv:Value)(hlv:EI L lv log):
  Sp P0 208 [Cr p,lv] [cm S (Dr p L c),pool L] fun v h=>v= .tuple #[]/\CoR p L (c.adopt log) h:=by
 have q2:=hf.log;have q5:=hf.entry
 obtain⟨vs,hns,hps⟩:=hlv.ns
 obtain⟨a,ac,rfl,hac,d0⟩:=hlv.sh
 refine Sq Tryz.func208 fun w0 b_=>?_
 refine Cx (Cv.op (.p0 .d)) ?_
 rintro _ ⟨_,⟨la,ra,Z,P,lc,rc,mc,U,hb,N,R,o,mcs,l,al,rfl,hlog,hrc,e,hdn,hdo⟩,rfl⟩
 refine Cx (YN (.t1 (.t1 (.t1 (.t1 (.t1 (.t1 (.t1 (.t0 .e))))))))) ?_
 rintro _ rfl
 obtain⟨ks,a7,W⟩:=hlog.ns
 have hsn:=IF log c.keep.log
 refine OA 6 ?_
 refine CD (fun(i:Nat)=>[(0,Cr p),(1,.slice a log.length ac),(4,Cs i)]) (fun(i:Nat)=>[Mf p c (.slice la c.keep.log.length lc) hb N R (.slice ra c.out.recs.length rc) (.slice Z c.out.msgs.length mc) (.slice P c.out.done.length U),Dm hb gI c.has,Dm N gB c.begun,Dm R gA al,sq ra c.out.recs.length rc 119 4 o,sq Z c.out.msgs.length mc 138 12 mcs,sq P c.out.done.length U 53 1 l,pool L]) (fun(i:Nat)=>i<=log.length/\i<=c.keep.log.length/\Ff log c.keep.log=Ff (log.drop i) (c.keep.log.drop i)+i) (fun i=>log.length-i) 0 ?_ ?_
 ·exact⟨⟨Af _,Af _,rfl⟩,Sb3,.refl _⟩
 rintro i ⟨hi,EQ,he⟩
 conv=>arg 7;dsimp only
 conv=>arg 8;dsimp only
 refine OA 2 ?_
 refine CQ 32 ((i<min log.length c.keep.log.length/\log[i]? =c.keep.log[i]?)) ?_ ?_
 ·refine Cw (.t (.s6 (.t .d))) rfl (fun j=>false) ?_
  intro c5
  refine DA [0,1,2,3,4,5,6,7,8] ?_
  refine D1 9 rfl (Zo rfl rfl rfl) ?_
  refine DA [10,11] ?_
  refine Dy 18 rfl (fun b0=>?_) (fun b0=>?_)
  ·obtain⟨x,hx⟩:∃x,log[i]? =some x:=⟨_,Ae (by omega)⟩
   obtain⟨y,hy⟩:∃y,c.keep.log[i]? =some y:=⟨_,Ae (by omega)⟩
   obtain⟨xa,xc,F,hxB,c7⟩:=hns.at hx
   obtain⟨ya,yc,b3,c8,d2⟩:=a7.at hy
   refine JW (fun w hw=>(Reads.pool hps).some (hw.mine _ (Aj at7.at)) F) fun⟨ad,m⟩=>?_
   subst m
   refine JW (fun w hw=>(Reads.pool W).some (hw.mine _ (Aj at7.at)) b3) fun⟨c9,had2⟩=>?_
   subst had2
   refine DA [12,13] ?_
   refine D1 14 rfl (GO i u40) ?_
   refine D1 15 rfl (Ct.reads (j:=i) rfl rfl at1 (Reads.pool hps) u53 rfl F) ?_
   refine DA [16,17,18,19,20,21] ?_
   refine D1 22 rfl (GO i u40) ?_
   refine D1 23 rfl (Ct.reads (j:=i) rfl rfl at1 (Reads.pool W) u53 rfl b3) ?_
   refine Da 24 ?_
   refine DB rfl rfl (en 246) rfl (.p7 .d) (UN xa ya xc yc x y L hxB c8) ?_
   rintro _ _ ⟨rfl,rfl⟩
   refine ys (D1 25 rfl Xp1 ?_)
   refine D0 ?_
   first|exact EW rfl (congrArg Value.bool (AN.2 ⟨fun h=>⟨by omega,by rw[hx,hy,h]⟩,fun h=>by have:=h.2;rw[hx,hy]at this;exact Option.some.inj this⟩))|exact EW rfl (congrArg Value.bool (AX (fun h=>by have:=h.1;omega)).symm)
  refine DA [12,13,14,15,16,17,18,19,20,21,22,23,24,25] ?_
  refine D0 ?_
  first|exact EW rfl (congrArg Value.bool (AN.2 ⟨fun h=>⟨by omega,by rw[hx,hy,h]⟩,fun h=>by have:=h.2;rw[hx,hy]at this;exact Option.some.inj this⟩))|exact EW rfl (congrArg Value.bool (AX (fun h=>by have:=h.1;omega)).symm)
 refine Cy rfl (fun E=>?_) (fun E=>?_)
 ·refine OA 7 ?_
  obtain⟨x,hx⟩:∃x,log[i]? =some x:=⟨_,Ae (by omega)⟩
  have hst:=UB hx (by rw[<-E.2];exact hx)
  exact⟨i+1,⟨⟨by omega,by omega,by rw[he,hst];omega⟩,Sb3,.refl _⟩,by omega⟩
 have J:Ff log c.keep.log=i:=by rw[he,Ua E];omega
 have b7:([]:N_).length<=65536:=by decide
 refine OA 13 ?_
 refine CP (fun((k,L2):N_×PL)=>[(0,Cr p),(1,.slice a log.length ac),(4,Cs i)]) (fun(k,L2)=>[cm k (Dr p L2 (c.adopt1 log)),pool L2]) (fun(k,L2)=>Le L L2) ?_ ?_
 ·refine Cy rfl (fun ht42=>?_) (fun ht42=>?_)
  ·have e1:c.adopt1 log=c.put ⟨3,i,0,[]⟩:=by unfold CA.adopt1;rw[J,Ah (by omega)]
   rw[e1]
   refine Ti (Zb (.p0 (.p0 (.p0 (.p0 (.p0 (.p0 (.p0 .d))))))) (A:=Dr p L c) ⟨la,ra,Z,P,lc,rc,mc,U,hb,N,R,o,mcs,l,al,rfl,hlog,hrc,e,hdn,hdo⟩) (OA 4 ?_)
   refine Oc rfl (en 167) rfl (.p1 (.p0 .d)) (GI p b _ L c hf (by omega) ⟨3,i,0,[]⟩ _ (Zp _)) ?_
   rintro _ _ ⟨rfl,L2,k,d,rfl⟩
   refine On ?_
   exact⟨(k,L2),d,Sb3,.refl _⟩
  have e1:c.adopt1 log=c:=by unfold CA.adopt1;rw[J,Aa (by omega)]
  rw[e1]
  refine Ti (Zb (.p0 (.p0 (.p0 (.p0 (.p0 (.p0 (.p0 .d))))))) (A:=Dr p L c) ⟨la,ra,Z,P,lc,rc,mc,U,hb,N,R,o,mcs,l,al,rfl,hlog,hrc,e,hdn,hdo⟩) (Tp (.t1 (.t0 .e)) (Tk ?_))
  exact⟨(_,L),.refl _,Sb3,.refl _⟩
 rintro⟨k,L2⟩ d
 have hf1:(c.adopt1 log).Fit (b+1):=by
  unfold CA.adopt1;split
  ·exact Fq hf b7 (fun h=>by cases h) (fun h=>by cases h)
  ·exact hf.le (AL _)
 obtain⟨c1,I⟩:∃x,x=c.adopt1 log:=⟨_,rfl⟩
 have hc1l:c1.keep.log.length=i:=by rw[I,Jo,J]
 have m:c.adopt log=(c1.puts (log.drop i)).begun_:=by unfold CA.adopt CA.adopt2;rw[<-I,J]
 conv=>arg 4;dsimp only
 conv=>arg 5;dsimp only
 rw[m]
 rw[<-I]at hf1 ⊢
 clear m I hf q5 hsn a7 W hlog hrc e hdn hdo
 refine OA 5 ?_
 refine O1 (YK (ZB 1 i u40) (by rw[<-AD])) ?_
 have K:EI L (.slice (EH a ac i 1) (log.drop i).length (ac-i)) (log.drop i):=by
  have:=hlv.sub (j:=i) (q:=log.length) rfl hi (Al _)
  rw[BJ]at this
  rw[AD];exact this
 have hrl:i+(log.drop i).length<=log.length:=by rw[AD];omega
 have hrb:∀x∈log.drop i,x.length<=65536:=fun x hx=>c3 x (Bw hx)
 obtain⟨rest,g⟩:∃r,r=log.drop i:=⟨_,rfl⟩
 obtain⟨sa,a9⟩:∃r,r=EH a ac i 1:=⟨_,rfl⟩
 rw[<-a9,<-g]at K
 rw[<-g]at hrl hrb
 rw[<-a9,<-g]
 obtain⟨ws,c6,b2⟩:=K.ns
 refine OA 4 ?_
 refine CD (fun((j,k,L2):Nat×N_×PL)=>[(0,Cr p),(49,.slice sa rest.length (ac-i)),(50,Cs rest.length),(51,Cs j)]) (fun(j,k,L2)=>[cm k (Dr p L2 (c1.puts (rest.take j))),pool L2]) (fun(j,k,L2)=>Le L L2/\j<=rest.length/\(c1.puts (rest.take j)).Fit (b+1+j)) (fun(j,_)=>rest.length-j) (0,k,L2) ?_ ?_
 ·exact⟨⟨d,Af _,hf1⟩,Sb4,.refl _⟩
 clear d
 rintro⟨j,k,L2⟩ ⟨d,hj,n⟩
 conv=>arg 7;dsimp only
 conv=>arg 8;dsimp only
 refine OA 5 ?_
 refine Cy rfl (fun b1=>?_) (fun b1=>?_)
 ·obtain⟨x,hx⟩:∃x,rest[j]? =some x:=⟨_,Ae (by omega)⟩
  obtain⟨xa,xc,F,hxB,c7⟩:=(c6.le d).at hx
  have hxl:=hrb x (Aj hx)
  refine CM at1 (Reads.pool (b2.le d)) F fun ad m=>?_
  cases m
  refine OA 5 ?_
  refine O1 (GO (j) u40) ?_
  refine O1 (Ct.reads (j:=j) rfl rfl at1 (Reads.pool (b2.le d)) u53 rfl F) ?_
  refine OA 5 ?_
  refine Oc rfl (en 36) rfl (.p1 .d) (Gd xa x.length xc (x.map u8) _ (Reads.pool hxB.1) (by simp) (EU _) (by omega)) ?_
  rintro _ _ ⟨a2,c2,rfl,rfl⟩
  refine CL (Zg (.p1 (.p1 .d))) ?_
  rintro _ ⟨L3,a5,c4,rfl⟩
  refine Oi (Cv.up (B:=Dr p L3 (c1.puts (rest.take j))) s0 (Dr.le a5)) ?_
  refine O1 (Xb bt119.h) ?_
  refine Oc rfl (en 167) rfl (.p0 (.p0 .d)) (GI p (b+1+j) k L3 _ n (by omega) ⟨2,0,0,x⟩ (.slice a2 x.length c2) ⟨c4,hxB.2⟩) ?_
  rintro _ _ ⟨rfl,M,S4,t,rfl⟩
  refine OA 5 ?_
  have a8:c1.puts (rest.take (j+1))=(c1.puts (rest.take j)).put ⟨2,0,0,x⟩:=by rw[Dg hx,Yg]
  have hf4:=Fq (r:=⟨2,0,0,x⟩) n hxl (fun h=>by cases h) (fun _=>by rw[MQ,hc1l,AF];omega)
  rw[<-a8]at hf4 ⊢
  exact⟨(j+1,S4,M),⟨⟨(d.trans a5).trans t,by omega,hf4⟩,Sb4,.refl _⟩,by simp only;omega⟩
 rw[AU (show rest.length<=j by omega)]at n ⊢
 obtain⟨c2,b9⟩:∃x,x=c1.puts rest:=⟨_,rfl⟩
 rw[<-b9]at n ⊢
 obtain⟨c,c0⟩:∃x,x=c2:=⟨_,rfl⟩
 subst c0
 refine OA 2 ?_
 refine Cx (Cv.op (.p0 .d)) ?_
 rintro _ ⟨_,⟨la,ra,Z,P,lc,rc,mc,U,hb,N,R,o,mcs,l,al,rfl,hlog,hrc,e,hdn,hdo⟩,rfl⟩
 refine Cw (.s (.t .d)) rfl (fun j=>Nat.beq j 12) ?_
 intro c5
 refine D1 0 rfl DC ?_
 refine DP [1,2,3,4,6,7,8,9] ?_
 refine Jy 5 10 ?_ ?_
 ·refine Gz rfl (YX (Zi u3)) ?_
  refine Da 10 ?_
  refine Gz rfl (YX (Zi u3)) ?_
  refine D1 11 rfl (Xb bt119.h) ?_
  refine Da 12 ?_
  refine Ew (Zb (.p1 (.p1 (.p1 (.p1 (.p1 (.p1 (.p1 .d))))))) (A:=Dr p L2 c) ⟨la,ra,Z,P,lc,rc,mc,U,hb,N,R,o,mcs,l,al,rfl,hlog,hrc,e,hdn,hdo⟩) ?_
  rintro _ rfl
  refine DB rfl rfl (en 167) rfl (.p1 (.p0 .d)) (GI p (b+1+j) _ L2 c n (by omega) ⟨1,c.keep.view,c.keep.view,[]⟩ _ (Zp _)) ?_
  rintro _ _ ⟨rfl,M,S4,t,rfl⟩
  refine yk ?_
  refine D0 ?_
  clear hlog hrc e hdn hdo
  refine Cx (Cv.op (.p0 .d)) ?_
  rintro _ ⟨_,⟨X,a3,a0,Q,Y,a4,a1,V,b8,b5,b6,H,G,s,b4,rfl,f,D,C,u,a6⟩,rfl⟩
  refine OA 15 ?_
  refine O6 (YS gI) fun hb3=>?_
  refine O6 (YS gB) fun O=>?_
  refine O6 (YS gA) fun T=>?_
  refine OA 10 ?_
  refine Dk rfl (Cv.then (Zb (.p1 (.p7 (.p7 (.p7 (.p4 (.p4 (.p4 .d))))))) (A:=Dr p M c.begun_) ⟨X,a3,a0,Q,Y,a4,a1,V,hb3,O,T,H,G,s,[],rfl,f,D,C,u,.nil⟩) ?_)
  rintro _ rfl
  refine Cv.then (YN (.t4 (.t0 .e))) ?_
  rintro _ rfl
  exact YM ⟨rfl,M,_,d.trans t,rfl⟩
 refine Gz rfl (YX (Zi u3)) ?_
 refine Da 5 ?_
 refine Gz rfl (YX (Zi u3)) ?_
 refine D1 11 rfl (Xb bt119.h) ?_
 refine Da 12 ?_
 refine Ew (Zb (.p1 (.p1 (.p1 (.p1 (.p1 (.p1 (.p1 .d))))))) (A:=Dr p L2 c) ⟨la,ra,Z,P,lc,rc,mc,U,hb,N,R,o,mcs,l,al,rfl,hlog,hrc,e,hdn,hdo⟩) ?_
 rintro _ rfl
 refine DB rfl rfl (en 167) rfl (.p1 (.p0 .d)) (GI p (b+1+j) _ L2 c n (by omega) ⟨1,c.keep.view,c.keep.view,[]⟩ _ (Zp _)) ?_
 rintro _ _ ⟨rfl,M,S4,t,rfl⟩
 refine yk ?_
 refine D0 ?_
 clear hlog hrc e hdn hdo
 refine Cx (Cv.op (.p0 .d)) ?_
 rintro _ ⟨_,⟨X,a3,a0,Q,Y,a4,a1,V,b8,b5,b6,H,G,s,b4,rfl,f,D,C,u,a6⟩,rfl⟩
 refine OA 15 ?_
 refine O6 (YS gI) fun hb3=>?_
 refine O6 (YS gB) fun O=>?_
 refine O6 (YS gA) fun T=>?_
 refine OA 10 ?_
 refine Dk rfl (Cv.then (Zb (.p1 (.p7 (.p7 (.p7 (.p4 (.p4 (.p4 .d))))))) (A:=Dr p M c.begun_) ⟨X,a3,a0,Q,Y,a4,a1,V,hb3,O,T,H,G,s,[],rfl,f,D,C,u,.nil⟩) ?_)
 rintro _ rfl
 refine Cv.then (YN (.t4 (.t0 .e))) ?_
 rintro _ rfl
 exact YM ⟨rfl,M,_,d.trans t,rfl⟩
theorem Nq(m:Db):∀(k:Nat) (to:Int) (c:CA) (b:Nat),c.Fit b->(CA.allL m k to c).Fit (b+k)
 |0,_,_,_,h=>h
 |k+1,to,c,b,h=>by
  unfold CA.allL
  split
  ·split
   ·exact(Nq m k _ _ _ h).le (by omega)
   ·exact(Nq m k _ _ _ (send_fit h _)).le (by omega)
  ·exact h.le (by omega)
theorem IM{c:CA}{b:Nat}(h:c.Fit b)(m:Db):(c.all m).Fit (b+8):=Nq m 8 1 c b h
theorem Ky(m:Db):∀(k:Nat) (to:Int) (c:CA),(CA.allL m k to c).keep=c.keep/\(CA.allL m k to c).has=c.has/\(CA.allL m k to c).begun=c.begun/\(CA.allL m k to c).dos=c.dos/\(CA.allL m k to c).out.recs=c.out.recs/\(CA.allL m k to c).out.done=c.out.done
 |0,_,_=>⟨rfl,rfl,rfl,rfl,rfl,rfl⟩
 |k+1,to,c=>by
  unfold CA.allL
  split
  ·split
   ·exact Ky m k _ _
   ·exact Ky m k _ (c.send _)
  ·exact⟨rfl,rfl,rfl,rfl,rfl,rfl⟩
theorem IC(c:CA)(m:Db):(c.all m).keep=c.keep/\(c.all m).has=c.has/\(c.all m).begun=c.begun/\(c.all m).dos=c.dos/\(c.all m).out.recs=c.out.recs/\(c.all m).out.done=c.out.done:=Ky m 8 1 c
theorem LJ:∀(k:Nat) (c:CA),let d:=Zv k c
  d.keep=c.keep/\d.has=c.has/\d.begun=c.begun/\d.dos=c.dos/\d.out.recs=c.out.recs/\d.out.msgs=c.out.msgs/\d.me=c.me/\d.n=c.n/\d.shard=c.shard/\d.patience=c.patience/\d.idle=c.idle/\d.changing=c.changing
 |0,_=>⟨rfl,rfl,rfl,rfl,rfl,rfl,rfl,rfl,rfl,rfl,rfl,rfl⟩
 |k+1,c=>LJ k c.step
theorem FP(c:CA)(k:Int):let d:=c.reach k;d.keep=c.keep/\d.has=c.has/\d.begun=c.begun/\d.dos=c.dos/\d.out.recs=c.out.recs/\d.out.msgs=c.out.msgs/\d.me=c.me/\d.n=c.n/\d.shard=c.shard/\d.patience=c.patience/\d.idle=c.idle/\d.changing=c.changing:=LJ (min k c.keep.log.length-c.commit).toNat c
theorem FK{c:CA}{b:Nat}(h:c.Fit b)(k:Int):(c.reach k).Fit (b+1048576):=by
 obtain⟨e1,e2,e3,e4,e5,e6,e7,e8,e9,d,e,f⟩:=FP c k
 obtain⟨f1,g,i⟩:=Jq (min k c.keep.log.length-c.commit).toNat c
 have hl:=h.log;have hc:=h.commit;have hd:=h.done;have hm:=h.msgs;have hr:=h.recs
 refine⟨e7▸e8▸h.me,e8▸h.n,e9▸h.shard,d▸h.patience,e1▸h.view,e1▸h.normal,by rw[show(c.reach k).keep=c.keep from e1];omega,e1▸h.entry,?_,e▸h.idle,⟨e2▸h.maps.1,e2▸h.maps.2,e3▸h.maps.3,e3▸h.maps.4,e4▸h.maps.5,e4▸h.maps.6,e4▸h.maps.7⟩,by rw[show(c.reach k).out.recs=c.out.recs from e5];omega,by rw[show(c.reach k).out.msgs=c.out.msgs from e6];omega,?_⟩
 ·have:(c.reach k).commit=c.commit+((min k c.keep.log.length-c.commit).toNat:Nat):=g
  omega
 ·have:(c.reach k).out.done.length=c.out.done.length+(min k c.keep.log.length-c.commit).toNat:=i
  omega
theorem FQ(c:CA):let d:=c.count;d.keep=c.keep/\d.has=c.has/\d.begun=c.begun/\d.dos=c.dos/\d.out.recs=c.out.recs/\d.out.msgs=c.out.msgs/\d.me=c.me/\d.n=c.n/\d.shard=c.shard/\d.patience=c.patience/\d.idle=c.idle/\d.changing=c.changing:=by
 unfold CA.count
 split
 ·exact FP c _
 ·exact⟨rfl,rfl,rfl,rfl,rfl,rfl,rfl,rfl,rfl,rfl,rfl,rfl⟩
theorem IP{c:CA}{b:Nat}(h:c.Fit b):c.count.Fit (b+1048576):=by
 unfold CA.count
 split
 ·exact FK h _
 ·exact h.le (by omega)
theorem Rn:∀(bs:List N_) (c:CA) (b:Nat),c.Fit b->(∀x∈bs,x.length<=65536)->c.keep.log.length+bs.length<=1048576->(c.puts bs).Fit (b+bs.length)
 |[],_,_,h,_,_=>h
 |x::bs,c,b,h,hx,hl=>by
  have hl2:=MQ [x] c
  simp only[List.length_cons,List.length_nil]at hl hl2
  have h1:=Fq (r:=⟨2,0,0,x⟩) h (hx x Ar) (fun h=>by cases h) (fun _=>by omega)
  have:=Rn bs _ _ h1 (fun y hy=>hx y (Aw _ hy)) (by have e:(c.put ⟨2,0,0,x⟩).keep.log.length=c.keep.log.length+1:=hl2;omega)
  exact this.le (by simp only[List.length_cons];omega)
theorem Xm{c:CA}{b:Nat}(h:c.Fit b):c.begun_.Fit (b+1):=by
 have h1:=Fq (r:=⟨1,c.keep.view,c.keep.view,[]⟩) h (Af _) (fun _=>⟨h.view,h.view⟩) (fun h=>by cases h)
 exact⟨h1.me,h1.n,h1.shard,h1.patience,h1.view,h1.normal,h1.log,h1.entry,h1.commit,⟨AK 0,show(0:Int)<=1099511627776 by decide⟩,⟨trivial,(fun _ _ h=>by cases h),trivial,(fun _ _ h=>by cases h),trivial,(fun _ _ h=>by cases h),(fun _ _ h=>by cases h)⟩,h1.recs,h1.msgs,h1.done⟩
theorem IR{c:CA}{b:Nat}(h:c.Fit b)(log:List N_)(hl:∀x∈log,x.length<=65536)(d:log.length<=1048576):(c.adopt log).Fit (b+log.length+2):=by
 unfold CA.adopt CA.adopt2
 have h1:(c.adopt1 log).Fit (b+1):=by
  unfold CA.adopt1;split
  ·exact Fq h (Af _) (fun h=>by cases h) (fun h=>by cases h)
  ·exact h.le (AL _)
 have h2:=Rn (log.drop (Ff log c.keep.log)) _ _ h1 (fun x hx=>hl x (Bw hx)) (by rw[Jo,AD];have:=IF log c.keep.log;omega)
 exact(Xm h2).le (by rw[AD];omega)
def CA.bestL(c:CA):Nat->Int->Db×Int->Db×Int
 |0,_,x=>x
 |k+1,from_,x=>if from_<=c.n then CA.bestL c k (from_+1) (match alk from_ c.dos with
   |none=>x
   |some m=>(if x.1.normal<m.normal∨(m.normal=x.1.normal/\x.1.list.length<m.list.length)then m else x.1,max x.2 m.commit))else x
def CA.best(c:CA):Db×Int:=c.bestL 8 1 ({CY 0 with normal:= -1},0)
def CA.begin2(c:CA):CA:=(((c.adopt c.best.1.list).all {CY 5 with commit:=c.best.2,list:=(c.adopt c.best.1.list).keep.log}).reach c.best.2).count
def CA.begin_(c:CA):CA:=if c.n<2*(c.dos.length:Int)then c.begin2 else c
theorem Lg{c:CA}(h:∀k m,alk k c.dos=some m->m.Fit):∀(k:Nat) (f:Int) (x:Db×Int),x.1.Fit->0<=x.2->x.2<=1099511627776->(c.bestL k f x).1.Fit/\0<=(c.bestL k f x).2/\(c.bestL k f x).2<=1099511627776
 |0,_,_,h1,h2,h3=>⟨h1,h2,h3⟩
 |k+1,f,x,h1,h2,h3=>by
  unfold CA.bestL
  split
  ·cases hm:alk f c.dos with
   |none=>exact Lg h k _ _ h1 h2 h3
   |some m=>
    have hf:=h f m hm
    have hc:=hf.commit
    exact Lg h k _ _ (by simp only;split<;>assumption) (by simp only;omega) (by simp only;omega)
  ·exact⟨h1,h2,h3⟩
theorem lkM{L:PL}{al:List (Int×V_)}{dos:List (Int×Db)}(h:AR (Gu L) al dos)(k:Int):∃m d b,((alk k al).map gA).getD (.agg ([Cs 0,Cs 0,Cs 0,Cs 0,Cs 0,Cs 0,Cs 0,Cs 0,Cs 0,Cs 0,.slice none 0 0,.slice none 0 0]:V_).toArray)= .agg (GL m d b).toArray/\EI L d m.list/\Bs L b m.data/\(alk k al).isSome=(alk k dos).isSome/\∀x,alk k dos=some x->x=m:=by
 rcases h.alk k with ⟨h1,h2⟩|⟨c,x,h1,h2,d,b,rfl,hl,hd⟩
 ·exact⟨CY 0,_,_,by rw[h1];rfl,EI.nil _,Zp _,by rw[h1,h2];rfl,fun x hx=>by rw[h2]at hx;cases hx⟩
 ·exact⟨x,d,b,by rw[h1];rfl,hl,hd,by rw[h1,h2];rfl,fun y hy=>by rw[h2]at hy;exact(Option.some.inj hy).symm⟩
theorem MN(p:Nat)(S:N_)(L:PL)(c:CA)(b:Nat)(hf:c.Fit b)(hbb:b<67108864):
  Sp P0 166 [Cr p] [cm S (Dr p L c),pool L] fun v h=>v= .tuple #[]/\CoR p L c.begin_ h:=by
 have q2:=hf.log;have q3:=hf.me;have q4:=hf.n
 refine Sq Tryz.func166 fun w0 b_=>?_
 refine Cx (Cv.op (.p0 .d)) ?_
 rintro _ ⟨_,⟨D,O,M,J,E,P,N,K,hb,t,u,s,mcs,i,al,rfl,hlog,hrc,j,hdn,hdo⟩,rfl⟩
 refine Cx (YN (.t1 (.t1 (.t1 (.t1 (.t1 (.t1 (.t1 (.t0 .e))))))))) ?_
 rintro _ rfl
 have hdl:c.dos.length<=1099511627776:=AA hf.dosL (by decide)
 refine OA 8 ?_
 refine O1 (YK (Ct.lenA (hdo.kn hf.dosN) u103) (by rw[hdo.len])) ?_
 refine O8 (Zd rfl (en 165) rfl (.p0 .d) (OZ p c _ hb t u _ _ _ c.dos.length hdl)) ?_
 refine OA 2 ?_
 refine Tp (.t7 (.t0 (.t0 (.t0 (.t0 (.t0 (.t0 (.t0 .e)))))))) (CH rfl (fun C=>?_) (fun C=>?_))
 ·have e:c.begin_=c:=by unfold CA.begin_;rw[Aa C]
  rw[e]
  refine Cu ?_
  exact Me rfl (Cv.then (Zb (.p0 (.p0 (.p0 (.p0 (.p0 (.p0 (.p0 .d))))))) (A:=Dr p L c) ⟨D,O,M,J,E,P,N,K,hb,t,u,s,mcs,i,al,rfl,hlog,hrc,j,hdn,hdo⟩) (by
   rintro _ rfl
   refine Cv.then (YN (.t1 (.t0 .e))) ?_
   rintro _ rfl
   exact YM ⟨rfl,L,_,.refl _,rfl⟩))
 have e:c.begin_=c.begin2:=by unfold CA.begin_;rw[Ah (by omega)]
 rw[e]
 refine OA 4 ?_
 refine O6 (YQ JQ) fun b2=>?_
 refine OA 9 ?_
 refine CD (fun((k,g,x,F,G,H,I):Nat×Int×(Db×Int)×A_×Nat×A_×Nat)=>[(0,Cr p),(2,Cr b2),(3,Cs x.2),(4,Cs g)]) (fun(k,g,x,F,G,H,I)=>[Mf p c (.slice D c.keep.log.length E) hb t u (.slice O c.out.recs.length P) (.slice M c.out.msgs.length N) (.slice J c.out.done.length K),Dm hb gI c.has,Dm t gB c.begun,Dm u gA al,sq O c.out.recs.length P 119 4 s,sq M c.out.msgs.length N 138 12 mcs,sq J c.out.done.length K 53 1 i,pool L,blk b2 (.cells (GL x.1 (.slice F x.1.list.length G) (.slice H x.1.data.length I)).toArray 138 (0,0))]) (fun(k,g,x,F,G,H,I)=>(k:Int)+g=9/\1<=g/\CA.bestL c k g x=c.best/\x.1.Fit/\(0<=x.2/\x.2<=1099511627776)/\EI L (.slice F x.1.list.length G) x.1.list/\Bs L (.slice H x.1.data.length I) x.1.data) (fun(k,_)=>k) (8,1,({CY 0 with normal:= -1},0),none,0,none,0) ?_ ?_
 ·exact⟨⟨rfl,by decide,rfl,⟨⟨by decide,by decide⟩,⟨by decide,by decide⟩,by decide,fun _ h=>by cases h⟩,⟨by decide,by decide⟩,EI.nil _,Zp _⟩,Sb4,.refl _⟩
 rintro⟨k,g,x,F,G,H,I⟩ ⟨hk,h1,he,r,hx2,hxl,Z⟩
 conv=>arg 7;dsimp only
 conv=>arg 8;dsimp only
 refine OA 10 ?_
 refine Cy rfl (fun l=>?_) (fun l=>?_)
 ·obtain⟨k,rfl⟩:∃q,k=q+1:=⟨k-1,by omega⟩
  rw[CA.bestL,Ah l]at he
  obtain⟨m,lv,dv,hlk,hml,W,b0,hsm⟩:=lkM hdo g
  obtain⟨b1,b4,rfl,_,_⟩:=hml.sh
  obtain⟨b7,b8,rfl,_,_⟩:=W.sh
  refine OA 10 ?_
  refine O1 (YK (Qan g u103 u3 (hz:=JQ)) (by rw[hlk,b0])) ?_
  refine OA 3 ?_
  refine O6 (YQ JQ) fun b5=>?_
  refine OA 9 ?_
  refine CE rfl (fun n=>?_) (fun n=>?_)
  ·have a9:alk g c.dos=none:=by cases h:alk g c.dos<;>simp[h]at n ⊢
   rw[a9]at he
   refine Te (Tp (.t0 (.t0 (.t0 (.t0 (.t0 (.t0 (.t0 (.t0 (.t0 .e))))))))) (OA 5 ?_))
   exact⟨(k,g+1,x,F,G,H,I),⟨⟨by omega,by omega,he,r,hx2,hxl,Z⟩,Sb4,.refl _⟩,by simp only;omega⟩
  obtain⟨m2,hm2⟩:∃m,alk g c.dos=some m:=by cases h:alk g c.dos<;>simp[h]at n ⊢
  obtain rfl:=hsm m2 hm2
  rw[hm2]at he
  simp only at he
  have hmf:=hf.dosF g m2 hm2
  have hmc:=hmf.commit
  refine OA 6 ?_
  refine O1 (Zq rfl rfl rfl) ?_
  refine OA 3 ?_
  refine DX [39,40,41,42,43,44,45,46,47,48,49,50,51,52,53,54,55,56,57,58,59] 59 (x.1.normal<m2.normal∨(m2.normal=x.1.normal/\x.1.list.length<m2.list.length)) ?_ ?_
  ·refine OA 7 ?_
   refine CJ 44 rfl (fun X=>?_) (fun X=>?_)
   ·refine OA 16 ?_
    exact Ku
   refine OA 6 ?_
   refine CJ 50 rfl (fun Y=>?_) (fun Y=>?_)
   ·refine OA 10 ?_
    exact Ku
   refine OA 10 ?_
   exact Ku
  refine Cy rfl (fun o=>?_) (fun o=>?_)
  ·rw[Ah o]at he
   refine OA 4 ?_
   refine Tp (.t0 (.t0 (.t0 (.t0 (.t0 (.t0 (.t0 (.t0 (.t0 .e))))))))) (OA 5 ?_)
   exact⟨(k,g+1,(m2,max x.2 m2.commit),b1,b4,b7,b8),⟨⟨by omega,by omega,he,hmf,by simp only;omega,hml,W⟩,Sb4,.refl _⟩,by simp only;omega⟩
  rw[Aa o]at he
  refine Tk (Tp (.t0 (.t0 (.t0 (.t0 (.t0 (.t0 (.t0 (.t0 (.t0 .e))))))))) (OA 5 ?_))
  exact⟨(k,g+1,(x.1,max x.2 m2.commit),F,G,H,I),⟨⟨by omega,by omega,he,r,by simp only;omega,hxl,Z⟩,Sb4,.refl _⟩,by simp only;omega⟩
 have V:x=c.best:=by
  cases k with
  |zero=>exact he
  |succ k=>rw[CA.bestL,Aa l]at he;exact he
 have hxlen:=r.list
 refine Ti (Zb (.p0 (.p0 (.p0 (.p0 (.p0 (.p0 (.p0 .d))))))) (A:=Dr p L c) ⟨D,O,M,J,E,P,N,K,hb,t,u,s,mcs,i,al,rfl,hlog,hrc,j,hdn,hdo⟩) (OA 6 ?_)
 refine Oc rfl (en 208) rfl (.p2 (.p0 .d)) (MX p _ L c b hf x.1.list (by omega) hxlen r.entry _ hxl) ?_
 rintro _ _ ⟨rfl,L2,S2,a5,rfl⟩
 refine On ?_
 have hfa:=IR hf x.1.list r.entry hxlen
 have U:c.begin2=(((c.adopt x.1.list).all {CY 5 with commit:=x.2,list:=(c.adopt x.1.list).keep.log}).reach x.2).count:=by unfold CA.begin2;rw[<-V]
 rw[U]
 clear hlog hrc j hdn hdo U V he
 obtain⟨c1,a7⟩:∃c1,c1=c.adopt x.1.list:=⟨_,rfl⟩
 rw[<-a7]at hfa ⊢
 have hc1l:=hfa.log
 refine Cx (Cv.op (.p1 .d)) ?_
 rintro _ ⟨_,⟨D,O,M,J,E,P,N,K,hb,t,u,s,mcs,i,al,rfl,hlog,hrc,j,hdn,hdo⟩,rfl⟩
 refine Tp (.t2 (.t2 (.t2 (.t2 (.t2 (.t2 (.t2 (.t1 .e)))))))) (OA 10 ?_)
 refine Oc rfl (en 110) rfl (.p0 (.p4 .d)) (NR p L2 c1 _ hb t u _ _ M N mcs (b+x.1.list.length+2) hfa (by omega) {CY 5 with commit:=x.2,list:=c1.keep.log} _ _ hlog (Zp _) j) ?_
 rintro _ _ ⟨rfl,b3,b6,a0,B,rfl⟩
 refine On ?_
 have hfd:=IM hfa {CY 5 with commit:=x.2,list:=c1.keep.log}
 obtain⟨k1,k2,k3,k4,k5,k6⟩:=IC c1 {CY 5 with commit:=x.2,list:=c1.keep.log}
 obtain⟨d,hd⟩:∃d,d=c1.all {CY 5 with commit:=x.2,list:=c1.keep.log}:=⟨_,rfl⟩
 rw[<-hd]at hfd k1 k2 k3 k4 k5 k6 B ⊢
 rw[<-k1]at hlog
 rw[<-k6]at hdn
 simp only[<-k1,<-k2,<-k3,<-k5,<-k6]
 refine OA 4 ?_
 refine Oc rfl (en 163) rfl (.p6 (.p4 (.p4 .d))) (HP p L2 d D E hb t u _ _ J K i _ hfd (by omega) x.2 hlog hdn) ?_
 rintro _ _ ⟨rfl,L3,a1,a3,Q,T,w,rfl⟩
 refine On ?_
 have hfe:=FK hfd x.2
 obtain⟨j1,j2,j3,j4,j5,j6, -⟩:=FP d x.2
 obtain⟨e,he⟩:∃e,e=d.reach x.2:=⟨_,rfl⟩
 rw[<-he]at hfe j1 j2 j3 j4 j5 j6 w ⊢
 rw[<-j1]at hlog
 simp only[<-j2,<-j3,<-j5,<-j6]
 refine OA 2 ?_
 refine Oc rfl (en 109) rfl (.p5 (.p0 (.p4 (.p4 .d)))) (HD p L3 e D E hb t u _ _ a1 a3 Q _ hfe (by omega) (hlog.le T) w) ?_
 rintro _ _ ⟨rfl,L4,a2,a4,R,a6,y,rfl⟩
 refine On ?_
 obtain⟨i1,i2,i3,i4,i5,i6, -⟩:=FQ e
 obtain⟨f,a8⟩:∃f,f=e.count:=⟨_,rfl⟩
 rw[<-a8]at i1 i2 i3 i4 i5 i6 y ⊢
 simp only[<-i2,<-i3,<-i5,<-i6]
 have hL24:=T.trans a6
 refine Dk rfl (Cv.then (Zb (.p5 (.p4 (.p0 (.p0 (.p0 (.p0 (.p0 .d))))))) (A:=Dr p L4 f) ⟨D,O,b3,a2,E,P,b6,a4,hb,t,u,s,a0,R,al,rfl,by rw[i1];exact hlog.le hL24,by rw[i5,j5,k5];exact hrc.mono fun _ _ h=>h.le hL24,by rw[i6,j6];exact B.mono fun _ _ h=>h.le hL24,y,by rw[i4,j4,k4];exact hdo.mono fun _ _ h=>h.le hL24⟩) ?_)
 rintro _ rfl
 refine Cv.then (YN (.t1 (.t0 .e))) ?_
 rintro _ rfl
 exact YM ⟨rfl,L4,_,a5.trans hL24,rfl⟩
def CA.doM(c:CA):Db:={CY 4 with to:=FM c.keep.view c.n,normal:=c.keep.normal,commit:=c.commit,list:=c.keep.log}
def CA.wanted(c:CA):CA:=
 if c.n<2*(c.begun.length:Int)then
  if FM c.keep.view c.n=c.me then CA.begin_ {c with dos:=aset c.me c.doM c.dos}else c.send c.doM
 else c
def CA.changed(c:CA):CA:={c with changing:=true,idle:=0,has:=[],begun:=[(c.me,true)],dos:=[]}
def CA.change(c:CA)(v:Int):CA:=((c.put ⟨1,v,c.keep.normal,[]⟩).changed.all (CY 3)).wanted
theorem VN{c:CA}{b:Nat}(h:c.Fit b):c.doM.Fit:=by
 have h1:=h.normal;have h2:=h.log
 exact⟨⟨by show -1<=c.keep.normal;omega,h1.2⟩,h.commit,h2,h.entry⟩
theorem HZ{c:CA}{b:Nat}(h:c.Fit b){k:Int}(h1:1<=k)(h7:k<=7){m:Db}(hm:m.Fit):CA.Fit {c with dos:=aset k m c.dos} b:=
 ⟨h.me,h.n,h.shard,h.patience,h.view,h.normal,h.log,h.entry,h.commit,h.idle,⟨h.maps.1,h.maps.2,h.maps.3,h.maps.4,h.maps.5.aset,fun j x hx=>by
  have hx:alk j (aset k m c.dos)=some x:=hx
  rw[DE]at hx
  split at hx
  ·cases hx;exact hm
  ·exact h.maps.6 j x hx,fun j x hx=>by
  have hx:alk j (aset k m c.dos)=some x:=hx
  rw[DE]at hx
  split at hx
  ·rename_i e;rw[e];exact⟨h1,h7⟩
  ·exact h.maps.7 j x hx⟩,h.recs,h.msgs,h.done⟩
theorem LL{c:CA}{b:Nat}(h:c.Fit b):c.changed.Fit b:=by
 have h1:=h.me;have h2:=h.n
 refine⟨h.me,h.n,h.shard,h.patience,h.view,h.normal,h.log,h.entry,h.commit,⟨AK 0,show(0:Int)<=1099511627776 by decide⟩,⟨trivial,(fun _ _ h=>by cases h),⟨rfl,trivial⟩,fun j x hx=>?_,trivial,(fun _ _ h=>by cases h),(fun _ _ h=>by cases h)⟩,h.recs,h.msgs,h.done⟩
 have hx:alk j [(c.me,true)]=some x:=hx
 simp only[alk]at hx
 split at hx
 ·rename_i e;omega
 ·cases hx
theorem IA(p:Nat)(S:N_)(L:PL)(c:CA)(b:Nat)(hf:c.Fit b)(hbb:b<67108864):
  Sp P0 111 [Cr p] [cm S (Dr p L c),pool L] fun v h=>v= .tuple #[]/\CoR p L c.wanted h:=by
 have q2:=hf.log;have q3:=hf.me;have q4:=hf.n;have q5:=hf.view
 refine Sq Tryz.func111 fun w0 b_=>?_
 refine Cx (Cv.op (.p0 .d)) ?_
 rintro _ ⟨_,⟨n,u,s,q,o,w,t,r,hb,k,l,f,mcs,d,al,rfl,hlog,hrc,m,hdn,hdo⟩,rfl⟩
 refine Cx (YN (.t1 (.t1 (.t1 (.t1 (.t1 (.t1 (.t1 (.t0 .e))))))))) ?_
 rintro _ rfl
 have hdl:c.begun.length<=1099511627776:=AA hf.begunL (by decide)
 refine OA 8 ?_
 refine O1 (Ct.lenA hf.begunN u102) ?_
 refine O8 (Zd rfl (en 165) rfl (.p0 .d) (OZ p c _ hb k l _ _ _ c.begun.length hdl)) ?_
 refine OA 2 ?_
 refine Tp (.t7 (.t0 (.t0 (.t0 (.t0 (.t0 (.t0 (.t0 .e)))))))) (CH rfl (fun i=>?_) (fun i=>?_))
 ·have e:c.wanted=c:=by unfold CA.wanted;rw[Aa i]
  rw[e]
  refine Cu ?_
  exact Me rfl (Cv.then (Zb (.p0 (.p0 (.p0 (.p0 (.p0 (.p0 (.p0 .d))))))) (A:=Dr p L c) ⟨n,u,s,q,o,w,t,r,hb,k,l,f,mcs,d,al,rfl,hlog,hrc,m,hdn,hdo⟩) (by
   rintro _ rfl
   refine Cv.then (YN (.t1 (.t0 .e))) ?_
   rintro _ rfl
   exact YM ⟨rfl,L,_,.refl _,rfl⟩))
 have e1:c.wanted=if FM c.keep.view c.n=c.me then CA.begin_ {c with dos:=aset c.me c.doM c.dos}else c.send c.doM:=by unfold CA.wanted;rw[Ah (by omega)]
 rw[e1]
 refine OA 2 ?_
 refine CP (fun(b2:Nat)=>[(0,Cr p),(2,Cr b2)]) (fun(b2:Nat)=>[Mf p c (.slice n c.keep.log.length o) hb k l (.slice u c.out.recs.length w) (.slice s c.out.msgs.length t) (.slice q c.out.done.length r),Dm hb gI c.has,Dm k gB c.begun,Dm l gA al,sq u c.out.recs.length w 119 4 f,sq s c.out.msgs.length t 138 12 mcs,sq q c.out.done.length r 53 1 d,pool L,blk b2 (.cells (GL c.doM (.slice n c.keep.log.length o) (.slice none 0 0)).toArray 138 (0,0))]) (fun _=>True) ?_ ?_
 ·refine Cw (.t .d) rfl (fun j=>Nat.beq j 26) ?_
  intro C
  refine DA [0,1,2,3,4,5,6,7,8,10,11,12,13,14,15,16,17,18,19,20,21,22,23] ?_
  refine Jy 9 25 ?_ ?_
  ·refine Gz rfl (Zc rfl (en 153) rfl (Ga c.keep.view c.n (by omega) (by omega))) ?_
   refine D1 24 rfl (Xb bt138.h) ?_
   refine Da 25 ?_
   refine D6 rfl (YQ JQ) ?_
   rintro _ _ ⟨b2,rfl,rfl⟩
   refine ys (Da 26 ?_)
   refine D8 rfl YO ?_
   refine D0 ?_
   exact⟨b2,trivial,Sb2,.refl _⟩
  refine D6 rfl (YQ JQ) ?_
  rintro _ _ ⟨b2,rfl,rfl⟩
  refine ys (Da 9 ?_)
  refine Gz rfl (Zc rfl (en 153) rfl (Ga c.keep.view c.n (by omega) (by omega))) ?_
  refine D1 24 rfl (Xb bt138.h) ?_
  refine Da 26 ?_
  refine D8 rfl YO ?_
  refine D0 ?_
  exact⟨b2,trivial,Sb2,.refl _⟩
 rintro b2 -
 conv=>arg 4;dsimp only
 conv=>arg 5;dsimp only
 refine OA 2 ?_
 refine CS rfl (fun j=>false) ?_
 refine DA [0,1,2,3,4,5,6] ?_
 refine D0 (CH rfl (fun ht42=>?_) (fun ht42=>?_))
 ·rw[Aa (show ¬FM c.keep.view c.n=c.me from ht42)]
  refine OA 4 ?_
  refine Oc rfl (en 162) rfl (.p0 (.p4 .d)) (Ea p c _ hb k l _ _ s t mcs b hf (by omega) c.doM n none c.keep.log.length o 0 0) ?_
  rintro _ _ ⟨rfl,x,y,rfl⟩
  refine On (Cu ?_)
  exact Me rfl (Cv.then (Zb (.p7 (.p0 (.p0 (.p0 (.p0 (.p3 (.p0 .d))))))) (A:=Dr p L (c.send c.doM)) ⟨n,u,x,q,o,w,y,r,hb,k,l,f,_,d,al,rfl,hlog,hrc,m.snoc ⟨_,_,rfl,hlog,Zp _⟩,hdn,hdo⟩) (by
   rintro _ rfl
   refine Cv.then (YN (.t2 (.t0 .e))) ?_
   rintro _ rfl
   exact YM ⟨rfl,L,_,.refl _,rfl⟩))
 rw[Ah (show FM c.keep.view c.n=c.me from ht42)]
 refine OA 2 ?_
 refine CS rfl (fun j=>Nat.beq j 9) ?_
 refine DA [0,1,2,3,4,5,6,7,8] ?_
 refine Da 9 ?_
 refine D8 rfl (ZK (g:=gA) c.me (GL c.doM (.slice n c.keep.log.length o) (.slice none 0 0)) u103 u3) ?_
 refine D0 (Ti (Zb (.p0 (.p0 (.p0 (.p0 (.p0 (.p0 (.p0 .d))))))) (A:=Dr p L {c with dos:=aset c.me c.doM c.dos}) ⟨n,u,s,q,o,w,t,r,hb,k,l,f,mcs,d,_,rfl,hlog,hrc,m,hdn,hdo.aset _ ⟨_,_,rfl,hlog,Zp _⟩⟩) (OA 2 ?_))
 refine Oc rfl (en 166) rfl (.p2 (.p0 .d)) (MN p _ L {c with dos:=aset c.me c.doM c.dos} b (HZ hf (by omega) (by omega) (VN hf)) (by omega)) ?_
 rintro _ _ ⟨rfl,B⟩
 refine On ?_
 exact Ef rfl (List.Sublist.cons _ (.refl _)) ⟨rfl,B⟩
theorem Lz(p:Nat)(S:N_)(L:PL)(c:CA)(b:Nat)(hf:c.Fit b)(hbb:b<67000000)(v:Int)(hv:0<=v/\v<=1099511627776):
  Sp P0 112 [Cr p,Cs v] [cm S (Dr p L c),pool L] fun v' h=>v'= .tuple #[]/\CoR p L (c.change v) h:=by
 refine Sq Tryz.func112 fun w0 b_=>?_
 refine Cx (Cv.op (.p0 .d)) ?_
 rintro _ ⟨_,⟨t,w,I,q,u,y,K,s,hb,N,O,j,mcs,i,al,rfl,hlog,hrc,e,hdn,hdo⟩,rfl⟩
 refine Cx (YN (.t1 (.t1 (.t1 (.t1 (.t1 (.t1 (.t1 (.t0 .e))))))))) ?_
 rintro _ rfl
 refine OA 10 ?_
 refine Oi (Zb (.p0 (.p0 (.p0 (.p0 (.p0 (.p0 (.p0 .d))))))) (A:=Dr p L c) ⟨t,w,I,q,u,y,K,s,hb,N,O,j,mcs,i,al,rfl,hlog,hrc,e,hdn,hdo⟩) ?_
 refine Oc rfl (en 167) rfl (.p1 (.p0 .d)) (GI p b _ L c hf (by omega) ⟨1,v,c.keep.normal,[]⟩ _ (Zp _)) ?_
 rintro _ _ ⟨rfl,L2,T,B,rfl⟩
 refine On ?_
 have hf1:=LL (Fq (r:=⟨1,v,c.keep.normal,[]⟩) hf (Af _) (fun _=>⟨hv,hf.normal⟩) (fun h=>by cases h))
 have D:c.change v=((c.put ⟨1,v,c.keep.normal,[]⟩).changed.all (CY 3)).wanted:=rfl
 rw[D]
 obtain⟨c1,C⟩:∃x,x=c.put ⟨1,v,c.keep.normal,[]⟩:=⟨_,rfl⟩
 rw[<-C]at hf1 ⊢
 clear hlog hrc e hdn hdo
 refine Cx (Cv.op (.p0 .d)) ?_
 rintro _ ⟨_,⟨t,w,I,q,u,y,K,s,hb,N,O,j,mcs,i,al,rfl,hlog,hrc,e,hdn,hdo⟩,rfl⟩
 refine Tp (.t1 (.t1 (.t1 (.t1 (.t1 (.t1 (.t1 (.t0 .e)))))))) (OA 16 ?_)
 refine O6 (YS gB) fun k=>?_
 refine OA 4 ?_
 refine O4 (ZK (g:=gB) c1.me true u102 u3) ?_
 refine O1 DC ?_
 refine O6 (YS gA) fun l=>?_
 refine O6 (YS gI) fun hb3=>?_
 refine OA 10 ?_
 obtain⟨c2,R⟩:∃x,x=c1.changed:=⟨_,rfl⟩
 refine Tp (.t0 (.t9 (.t7 (.t7 (.t3 (.t3 (.t3 (.t3 .e)))))))) (OA 4 ?_)
 refine Oc rfl (en 110) rfl (.p0 (.p4 .d)) (NR p L2 c1.changed (.slice t c1.keep.log.length u) hb3 k l (.slice w c1.out.recs.length y) (.slice q c1.out.done.length s) I K mcs (b+1) hf1 (by omega) (CY 3) _ _ (EI.nil _) (Zp _) e) ?_
 rintro _ _ ⟨rfl,J,M,o,f,rfl⟩
 refine On ?_
 have hfd:=IM hf1 (CY 3)
 obtain⟨k1,k2,k3,k4,G,P⟩:=IC c1.changed (CY 3)
 obtain⟨d,hd⟩:∃d,d=c1.changed.all (CY 3):=⟨_,rfl⟩
 rw[<-hd]at hfd k1 k2 k3 k4 G P f ⊢
 have m:c1.keep=d.keep:=k1.symm
 have H:c1.out.recs=d.out.recs:=G.symm
 have n:c1.out.done=d.out.done:=P.symm
 have E:([]:List (Int×Int))=d.has:=k2.symm
 have F:aset c1.me true []=d.begun:=k3.symm
 rw[m]at hlog
 rw[n]at hdn
 rw[m,H,n,E,F]
 refine Ti (Zb (.p6 (.p0 (.p0 (.p0 (.p0 (.p2 (.p0 .d))))))) (A:=Dr p L2 d) ⟨t,w,J,q,u,y,M,s,hb3,k,l,j,o,i,[],rfl,hlog,by rw[G];exact hrc,f,hdn,by rw[k4];exact .nil⟩) (OA 2 ?_)
 refine Oc rfl (en 111) rfl (.p1 (.p0 .d)) (IA p _ L2 d (b+1+8) hfd (by omega)) ?_
 rintro _ _ ⟨rfl,Q⟩
 refine On ?_
 exact Ef rfl (.refl _) ⟨rfl,Q.le B⟩
def VW(ops:Array Oper)(j i:Nat):Bool:=match ops[j]? with
 |some o=>o.after.any fun e=>Region.binds .any e && e.on == i
 |none=>false
def Mu(ops:Array Oper):Nat->N_->Nat->Bool
 |j,[],i=>VW ops j i
 |j,m::p,i=>VW ops j m && Mu ops m p i
def shutOn(ops:Array Oper)(l_:Array Bool):Bool:=(List.range ops.size).all fun j=> !l_.getD j false || match ops[j]? with
 |some o=>o.after.all fun e=> !Region.binds .any e || l_.getD e.on false
 |none=>true
def Ry(ops:Array Oper)(k_:Nat->Bool)(i:Nat)(ps:List (Nat×N_)):Bool:=
 (List.range ops.size).all fun j=> !k_ j || j == i || (ps.any fun p=>p.1 == j && Mu ops j p.2 i)
section
variable {P:Program}{ops:Array Oper}{Q:Exit->Act->World->Prop}{S:World->Prop}{k_:Nat->Bool}
theorem MF{j i:Nat}(h:VW ops j i=true):∃o,ops[j]? =some o/\∃e∈o.after,Region.binds .any e=true/\e.on=i:=by
 unfold VW at h
 cases ho:ops[j]? with
 |none=>rw[ho]at h;cases h
 |some o=>
  rw[ho]at h
  obtain⟨e,he,hb⟩:=Array.any_eq_true'.1 h
  simp only[Bool.and_eq_true,beq_iff_eq]at hb
  exact⟨o,rfl,e,he,hb⟩
def Xk(ops:Array Oper)(l_:Array Bool):Prop:=∀j,l_.getD j false=true->∀o,ops[j]? =some o->∀e∈o.after,Region.binds .any e=true->l_.getD e.on false=true
theorem Rb{l_:Array Bool}(h:shutOn ops l_=true):Xk ops l_:=by
 intro j hj o ho e he hb
 have hjl:j<ops.size:=(Bb.1 ho).1
 have:=BD.1 h j (List.mem_range.2 hjl)
 rw[hj,ho]at this
 simp only[Bool.not_true,Bool.false_or]at this
 have:=Array.all_eq_true'.1 this e he
 simpa [hb] using this
theorem Ji{l_:Array Bool}{j m:Nat}(h:l_.getD m false=true):(l_.setIfInBounds j true).getD m false=true:=by
 by_cases e:j=m
 ·subst e
  rw[AV]at h ⊢
  rw[Array.getElem?_setIfInBounds]
  simp only[if_true]
  split
  ·rfl
  ·rename_i hs
   rw[Bz (by omega)]at h
   cases h
 ·rw[getD_set_ne false e];exact h
theorem Xk.set{l_:Array Bool}(h:Xk ops l_){j:Nat}(hr:j∈Region.ready .any ops l_):Xk ops (l_.setIfInBounds j true):=by
 intro m hm o ho e he hb
 obtain⟨_,d,c,hall⟩:=mem_ready.1 hr
 by_cases b:j=m
 ·subst b
  rw[c]at ho;cases ho
  exact Ji (hall e he hb)
 ·rw[getD_set_ne false b]at hm
  exact Ji (h m hm o ho e he hb)
theorem JR{l_:Array Bool}(hs:Xk ops l_){i:Nat}:∀(p:N_) (j:Nat),(∀o,ops[j]? =some o->∀e∈o.after,Region.binds .any e=true->l_.getD e.on false=true)->Mu ops j p i=true->l_.getD i false=true
 |[],j,hj,h=>by
  obtain⟨o,ho,e,he,hb,hi⟩:=MF h
  exact hi▸hj o ho e he hb
 |m::p,j,hj,h=>by
  unfold Mu at h
  rw[Br]at h
  obtain⟨o,ho,e,he,hb,hi⟩:=MF h.1
  have hm:l_.getD m false=true:=hi▸hj o ho e he hb
  exact JR hs p m (hs m hm) h.2
theorem Any.takeC{i:Nat}{r:Oper}{v:Value}(hi:ops[i]? =some r)(l:Region.noSelect ops=true){ps:List (Nat×N_)}(B:Ry ops k_ i ps=true)
  (G:∀c a w,Q (.panic c) (a.put r.dst v) w->Q (.panic c) a w):
  ∀(f_:Nat) (l_:Array Bool) (a:Act) (w:World),Xk ops l_->
   (∀j n,ops[j]? =some n->j≠i->l_.getD j true=false->(∀e∈n.after,Region.binds .any e=true->e.on≠i)->r.apart ops n=true)->
   i∈Region.ready .any ops l_->YieldsIf P ops S r v a->S w->
   Any P ops Q S k_ f_ (l_.setIfInBounds i true) (a.put r.dst v) w->Any P ops Q S k_ (f_+1) l_ a w:=by
 intro f_
 induction f_ with
 |zero=>
  intro l_ a w _ _ hr hy q H
  refine⟨fun e=>(by rw[e]at hr;cases hr),fun j hj=>?_⟩
  by_cases d:j=i
  ·subst d;exact hy.wpOp hi q ⟨.inr fun _=>q,H⟩
  ·have hmem:=ready_mono hj d
   rw[H.1]at hmem
   cases hmem
 |succ f_ ih=>
  intro l_ a w hcl f hr hy q H
  refine⟨fun e=>(by rw[e]at hr;cases hr),fun j hj=>?_⟩
  by_cases d:j=i
  ·subst d;exact hy.wpOp hi q ⟨.inr fun _=>q,H⟩
  ·have hstep:=H.2 j (ready_mono hj d)
   obtain⟨h,n,g,hall⟩:=mem_ready.1 hj
   have hiun:=(mem_ready.1 hr).1
   have t:l_.getD i false=false:=by
    rw[AV]at hiun ⊢
    cases hg:l_[i]? with
    |none=>rfl
    |some b=>rw[hg]at hiun;exact hiun
   have x:∀e∈n.after,Region.binds .any e=true->e.on≠i:=fun e he hb A=>by
    have hl:=hall e he hb
    rw[A,t]at hl
    cases hl
   have D:k_ j=false:=by
    cases hk:k_ j with
    |false=>rfl
    |true=>
     have hjl:j<ops.size:=(Bb.1 g).1
     have:=BD.1 B j (List.mem_range.2 hjl)
     simp only[hk,Bool.not_true,Bool.false_or,Bool.or_eq_true,beq_iff_eq,d,false_or]at this
     obtain⟨p,hp,hc⟩:=List.any_eq_true.1 this
     simp only[Bool.and_eq_true,beq_iff_eq]at hc
     have:=JR hcl p.2 j (fun o ho e he hb=>by rw[g]at ho;cases ho;exact hall e he hb) hc.2
     rw[t]at this
     cases this
   have hnext:=wpOp_putIf g (f j n g d h x) (fun cs b=>Region.noSelect_spec l i r cs b hi) (fun cs b=>Region.noSelect_spec l j n cs b g) G hy hstep
   refine wpOp_mono (fun F w' k=>?_) hnext
   obtain⟨k1,k2,k3⟩:=k
   have s:S w':=k2.resolve_left (by rw[D];simp) q
   refine⟨.inr fun _=>s,ih (l_.setIfInBounds j true) F w' (hcl.set hj) (fun m I hm C y E=>f m I hm C ?_ E) (ready_mono hr (Ne.symm d)) k1 s ?_⟩
   ·by_cases u:j=m
    ·subst u;exact h
    ·rw[getD_set_ne true u]at y;exact y
   ·rw[Array.setIfInBounds_comm _ _ d]
    exact k3
end
section
variable {P:Program}{n:Nat}{w0:World}{b_:N_}{l:Dh}{h hs:Mem}{o:Oper}{v:Value}{ops:Array Oper}{K:En}{k_:Nat->Bool}{d:Nat}
def ML(ops:Array Oper)(k_:Nat->Bool)(l_:Array Bool)(i:Nat)(ps:List (Nat×N_)):Bool:=
 Region.noSelect ops && Region.free .any ops l_ i && (Region.ready .any ops l_).contains i && Ry ops k_ i ps && shutOn ops l_
theorem DL_takeC{f_:Nat}{l_:Array Bool}(i:Nat)(ps:List (Nat×N_))(hi:ops[i]? =some o)(hm:ML ops k_ l_ i ps=true)
  (hw:CK ops l o=some true) (hd:o.dst=some d) (hlt:Nat.blt d n=true) (b:Ct P n w0 b_ hs l o v) (e:∀r∈hs,r∈h)
  (hk:DL P n w0 b_ ops K hs k_ f_ (l_.setIfInBounds i true) ((d,v)::l) h):DL P n w0 b_ ops K hs k_ (f_+1) l_ l h:=by
 intro a w hf ho
 simp only[ML,Bool.and_eq_true]at hm
 obtain⟨⟨⟨⟨m1,m2⟩,m3⟩,m4⟩,g⟩:=hm
 refine Any.takeC hi m1 m4 (fun c j w' hq=>HC c _ _ _ _ hq) (v:=v) f_ l_ a w (Rb g) (Region.free_spec hi m2) (by simpa using m3) (.inl ⟨DR hf hw,fun w' f=>b a w' hf f⟩) (ho.sta e) ?_
 rw[hd]
 exact hk _ _ (hf.put hlt v) ho
theorem D5(i:Nat)(ps:List (Nat×N_)){f_:Nat}{l_:Array Bool}(hi:ops[i]? =some o)(b:Ct P n w0 b_ hs l o v)(hk:DL P n w0 b_ ops K hs k_ f_ (l_.setIfInBounds i true) ((d,v)::l) h)(hm:ML ops k_ l_ i ps=true:=by kernel_rfl)
  (hw:CK ops l o=some true:=by exact rfl) (hd:o.dst=some d:=by exact rfl) (hlt:Nat.blt d n=true:=by exact rfl) (c:∀r∈hs,r∈h:=by first|((repeat' (first|exact Gp|refine all_cons (by repeat (first|exact List.Mem.head _|refine List.Mem.tail _ ?_)) ?_));done)|exact fun _ hr=>hr):DL P n w0 b_ ops K hs k_ (f_+1) l_ l h:=DL_takeC i ps hi hm hw hd hlt b c hk
end
theorem YL{w0:World}{b_:N_}{h a b:Mem}{A:Mem->Prop}(s:Ps h a b)(c:A a):Cv w0 b_ h fun h'=>∃S,h'=b++[cm S A]:=fun w o=>by
 obtain⟨h',e,k⟩:=Zb s c w o
 exact⟨h',⟨_,e⟩,k⟩
theorem Is{P:Program}{n:Nat}{w0:World}{b_:N_}{l:Dh}{h:Mem}{e:Func}{R:Value->Mem->Prop}{h0:Mem}{t u s' T:Nat}{d:TypeDesc}{s b i:Nat}{cs:V_}{v2 v3:Value}{T':TypeId}{f:Nat×Nat}(k:P.underlying T=some d)(hs:h0.Sublist h)(g:R (.tuple #[v2,.agg cs.toArray,v3]) h0)(hr:e.results= #[.tmp u,.cell t T,.tmp s']:=by rfl)(ht:fnd l t=some (.pointer (some ⟨b,0,none⟩)):=by rfl)(m:fnd l u=some v2:=by rfl)(c:fnd l s'=some v3:=by rfl)
  (hi:FG h i (blk b (.cells cs.toArray T' f)):=by first|exact at0|exact at1|exact at2|exact at3|exact at4|exact at5|exact at6|exact at7|exact at8|exact at9|exact at10|exact at11|exact at12) (hd:ET d=true:=by rfl) (hsz:(P.info? T).map (·.size)=some s:=by rfl) (hc:cs.length=s:=by rfl):Hb P n w0 b_ e R .ret l h:=by
 refine⟨_,fun a w hf ho=>?_,fun _ hw=>⟨h0,g,hw.drop hs⟩⟩
 have hl:(loadVar T ⟨b,0,none⟩).run P w= .ok (.agg cs.toArray) w:=Fl ⟨k,hsz⟩ hd hc fun j v hj=>by
  rw[add_lit,AE,(ho.sta fun _ h=>h).own hi.at]
  simpa using hj
 simp[results,hr,Array.getD_eq_getD_getElem?,hf.has t _ ht,hf.has u _ m,hf.has s' _ c,asAddr,hl]
def CA.started(c:CA)(m:Db):CA:=
 if m.view≠c.keep.view then c
 else if c.changing=true then
  if((alk m.from_ c.begun).getD false)=true then c else CA.wanted {c with begun:=aset m.from_ true c.begun}
 else if c.leads=true then c.send {CY 5 with to:=m.from_,commit:=c.commit,list:=c.keep.log}
 else c
theorem Gl{c:CA}{b:Nat}(h:c.Fit b){k:Int}(h1:1<=k)(h7:k<=7):CA.Fit {c with begun:=aset k true c.begun} b:=
 ⟨h.me,h.n,h.shard,h.patience,h.view,h.normal,h.log,h.entry,h.commit,h.idle,⟨h.maps.1,h.maps.2,h.maps.3.aset,fun j x hx=>by
  have hx:alk j (aset k true c.begun)=some x:=hx
  rw[DE]at hx
  split at hx
  ·rename_i e;rw[e];exact⟨h1,h7⟩
  ·exact h.maps.4 j x hx,h.maps.5,h.maps.6,h.maps.7⟩,h.recs,h.msgs,h.done⟩
theorem QU{o:Option Bool}:(Option.map gB o).getD (.bool false)= .bool (o.getD false):=by cases o<;>rfl
theorem Qg(p:Nat)(S:N_)(L:PL)(c:CA)(b:Nat)(hf:c.Fit b)(hbb:b<67000000)(m:Db)(hm:1<=m.from_/\m.from_<=7)(I F:Value):
  Sp P0 225 [Cr p,.agg (GL m I F).toArray] [cm S (Dr p L c),pool L] fun v' h=>v'= .tuple #[]/\CoR p L (c.started m) h:=by
 refine Sq Tryz.func225 fun w0 b_=>?_
 refine Cx (Cv.op (.p0 .d)) ?_
 rintro _ ⟨_,⟨s,B,x,u,t,C,y,w,hb,o,q,n,mcs,d,al,rfl,hlog,hrc,f,hdn,hdo⟩,rfl⟩
 refine Cx (YN (.t1 (.t1 (.t1 (.t1 (.t1 (.t1 (.t1 (.t0 .e))))))))) ?_
 rintro _ rfl
 refine OA 2 ?_
 refine O6 YR fun b3=>?_
 refine OA 3 ?_
 refine CS rfl (fun j=>false) ?_
 refine DA [0,1,2,3,4,5,6,7,8] ?_
 refine D0 (CH rfl (fun r=>?_) (fun r=>?_))
 ·have e:c.started m=c:=by unfold CA.started;rw[Ah r]
  rw[e]
  refine Tk ?_
  refine Dk rfl (Cv.then (Zb (.p0 (.p0 (.p0 (.p0 (.p0 (.p0 (.p0 .d))))))) (A:=Dr p L c) ⟨s,B,x,u,t,C,y,w,hb,o,q,n,mcs,d,al,rfl,hlog,hrc,f,hdn,hdo⟩) (by rintro _ rfl;refine Cv.then (YN (.t2 (.t0 .e))) ?_;rintro _ rfl;exact YM ⟨rfl,L,_,.refl _,rfl⟩))
 have e1:c.started m=if c.changing=true then (if((alk m.from_ c.begun).getD false)=true then c else CA.wanted {c with begun:=aset m.from_ true c.begun})else if c.leads=true then c.send {CY 5 with to:=m.from_,commit:=c.commit,list:=c.keep.log}else c:=by unfold CA.started;rw[Aa (fun h=>h r)]
 rw[e1]
 refine OA 8 ?_
 refine CE rfl (fun i=>?_) (fun i=>?_)
 ·rw[Ah i]
  refine Ts (CS rfl (fun j=>false) ?_)
  refine DA [0,1,2,3,4,5] ?_
  refine D1 6 rfl (YK (ZF (z:=.bool false) m.from_ u102 u3) QU) ?_
  refine D1 7 rfl Xnot ?_
  refine D0 (CE rfl (fun k=>?_) (fun k=>?_))
  ·rw[Aa (by rw[(Bool.not_eq_true' _).mp k];decide)]
   refine Ts (CS rfl (fun j=>Nat.beq j 6) ?_)
   refine DA [0,1,2,3,4,5] ?_
   refine Da 6 ?_
   refine D8 rfl (ZK (g:=gB) m.from_ true u102 u3) ?_
   refine D0 (Ti (Zb (.p0 (.p0 (.p0 (.p0 (.p0 (.p0 (.p0 .d))))))) (A:=Dr p L {c with begun:=aset m.from_ true c.begun}) ⟨s,B,x,u,t,C,y,w,hb,o,q,n,mcs,d,al,rfl,hlog,hrc,f,hdn,hdo⟩) (OA 2 ?_))
   refine Oc rfl (en 111) rfl (.p2 (.p0 .d)) (IA p _ L {c with begun:=aset m.from_ true c.begun} b (Gl hf hm.1 hm.2) (by omega)) ?_
   rintro _ _ ⟨rfl,G⟩
   refine On ?_
   exact Ef rfl (List.Sublist.cons _ (.refl _)) ⟨rfl,G⟩
  rw[Ah ((Bool.not_eq_false' _).mp k)]
  refine Tk ?_
  refine Dk rfl (Cv.then (Zb (.p0 (.p0 (.p0 (.p0 (.p0 (.p0 (.p0 .d))))))) (A:=Dr p L c) ⟨s,B,x,u,t,C,y,w,hb,o,q,n,mcs,d,al,rfl,hlog,hrc,f,hdn,hdo⟩) (by rintro _ rfl;refine Cv.then (YN (.t2 (.t0 .e))) ?_;rintro _ rfl;exact YM ⟨rfl,L,_,.refl _,rfl⟩))
 rw[Aa (by rw[i];decide)]
 refine OA 3 ?_
 refine O8 (Zd rfl (en 104) rfl (.p0 .d) (Ls p c _ hb o q _ _ _ b hf)) ?_
 refine O1 FC ?_
 refine Oi (YN (.t8 (.t0 (.t0 (.t0 (.t0 (.t0 (.t0 (.t0 (.t0 .e)))))))))) ?_
 refine On (CE rfl (fun l=>?_) (fun l=>?_))
 ·rw[Ah l]
  refine Cw (.t (.s7 (.t .d))) rfl (fun j=>Nat.beq j 13) ?_
  intro H
  refine D1 0 rfl DC ?_
  refine D5 1 [(13,[12,2])] rfl (Ct.fld 1 1 1 u138) ?_
  refine D5 2 [(13,[12])] rfl (Zi u3) ?_
  refine D5 3 [(13,[12,6,5,4])] rfl DC ?_
  refine D5 4 [(13,[12,6,5])] rfl Hl ?_
  refine D5 5 [(13,[12,6])] rfl (Ct.fld 7 9 9 u108) ?_
  refine D5 6 [(13,[12])] rfl (Zi u3) ?_
  refine D5 7 [(13,[12,11,10,9,8])] rfl DC ?_
  refine D5 8 [(13,[12,11,10,9])] rfl Hl ?_
  refine D5 9 [(13,[12,11,10])] rfl (Ct.fld 5 5 5 u108) ?_
  refine D5 10 [(13,[12,11])] rfl (Ct.fld 2 2 7 u42) ?_
  refine D5 11 [(13,[12])] rfl (Zi u40) ?_
  refine D1 12 rfl (Xb bt138.h) ?_
  refine Da 13 ?_
  refine DB rfl rfl (en 162) rfl (.p0 (.p4 .d)) (Ea p c _ hb o q _ _ x y mcs b hf (by omega) {CY 5 with to:=m.from_,commit:=c.commit,list:=c.keep.log} s none c.keep.log.length t 0 0) ?_
  rintro _ _ ⟨rfl,D,E,rfl⟩
  refine yk ?_
  refine D0 ?_
  refine Dk rfl (Cv.then (Zb (.p7 (.p0 (.p0 (.p0 (.p0 (.p3 (.p0 .d))))))) (A:=Dr p L (c.send {CY 5 with to:=m.from_,commit:=c.commit,list:=c.keep.log})) ⟨s,B,D,u,t,C,E,w,hb,o,q,n,_,d,al,rfl,hlog,hrc,f.snoc ⟨_,_,rfl,hlog,Zp _⟩,hdn,hdo⟩) (by rintro _ rfl;refine Cv.then (YN (.t2 (.t0 .e))) ?_;rintro _ rfl;exact YM ⟨rfl,L,_,.refl _,rfl⟩))
 rw[Aa (by rw[l];decide)]
 refine Tk ?_
 refine Dk rfl (Cv.then (Zb (.p0 (.p0 (.p0 (.p0 (.p0 (.p0 (.p0 .d))))))) (A:=Dr p L c) ⟨s,B,x,u,t,C,y,w,hb,o,q,n,mcs,d,al,rfl,hlog,hrc,f,hdn,hdo⟩) (by rintro _ rfl;refine Cv.then (YN (.t2 (.t0 .e))) ?_;rintro _ rfl;exact YM ⟨rfl,L,_,.refl _,rfl⟩))
def ZD(at_:Int):Nat->List N_->CA->CA
 |_,[],c=>c
 |i,x::xs,c=>ZD at_ (i+1) xs (if(c.keep.log.length:Int)<=at_+i/\c.keep.log.length<2000 then c.put ⟨2,0,0,x⟩else c)
def CA.prep1(c:CA)(m:Db):CA:=if m.at_<=c.keep.log.length then (ZD m.at_ 0 m.list {c with idle:=0}).reach m.commit else {c with idle:=0}
def CA.prep(c:CA)(m:Db):CA:=(c.prep1 m).send {CY 2 with to:=m.from_,at_:=(c.prep1 m).keep.log.length}
theorem Hp{c:CA}{b:Nat}(h:c.Fit b):CA.Fit {c with idle:=0} b:=
 ⟨h.me,h.n,h.shard,h.patience,h.view,h.normal,h.log,h.entry,h.commit,⟨AK 0,show(0:Int)<=1099511627776 by decide⟩,⟨h.maps.1,h.maps.2,h.maps.3,h.maps.4,h.maps.5,h.maps.6,h.maps.7⟩,h.recs,h.msgs,h.done⟩
theorem KO(at_:Int):∀(xs:List N_) (i:Nat) (c:CA) (b:Nat),c.Fit b->(∀x∈xs,x.length<=65536)->(ZD at_ i xs c).Fit (b+xs.length)
 |[],_,_,_,h,_=>h
 |x::xs,i,c,b,h,hx=>by
  unfold ZD
  have:=KO at_ xs (i+1) _ (b+1) (show(if(c.keep.log.length:Int)<=at_+i/\c.keep.log.length<2000 then c.put ⟨2,0,0,x⟩else c).Fit (b+1) by
   split
   ·rename_i hc
    exact Fq h (hx x Ar) (fun h=>by cases h) (fun _=>by omega)
   ·exact h.le (AL _)) (fun y hy=>hx y (Aw _ hy))
  exact this.le (by simp only[List.length_cons];omega)
theorem XO(p:Nat)(S:N_)(L:PL)(c:CA)(b:Nat)(hf:c.Fit b)(hbb:b<67000000)(m:Db)(hm:m.Fit)(hat:0<=m.at_/\m.at_<=1099511627776)(lv dv:Value)(hlv:EI L lv m.list)(hdv:Bs L dv m.data):
  Sp P0 226 [Cr p,.agg (GL m lv dv).toArray] [cm S (Dr p L c),pool L] fun v' h=>v'= .tuple #[]/\CoR p L (c.prep m) h:=by
 obtain⟨vs,hns,hps⟩:=hlv.ns
 obtain⟨U,V,rfl,a6,_⟩:=hlv.sh
 obtain⟨ya,yc,rfl,_,_⟩:=hdv.sh
 have hml:=hm.list;have hme:=hm.entry;have hmc:=hm.commit;have hll:=hf.log
 refine Sq Tryz.func226 fun w0 b_=>?_
 refine Cx (Cv.op (.p0 .d)) ?_
 rintro _ ⟨_,⟨w,G,E,C,y,H,F,D,hb,q,r,k,mcs,g,al,rfl,hlog,hrc,f,hdn,hdo⟩,rfl⟩
 refine Cx (YN (.t1 (.t1 (.t1 (.t1 (.t1 (.t1 (.t1 (.t0 .e))))))))) ?_
 rintro _ rfl
 refine OA 2 ?_
 refine O6 YR fun b3=>?_
 refine OA 10 ?_
 have hf1:=Hp hf
 refine CS rfl (fun j=>false) ?_
 refine DA [0,1,2,3,4,5,6,7,8] ?_
 refine D0 (CP (fun((o,L2):N_×PL)=>[(0,Cr p),(3,Cr b3)]) (fun(o,L2)=>[cm o (Dr p L2 (c.prep1 m)),pool L2,blk b3 (.cells (GL m (.slice U m.list.length V) (.slice ya m.data.length yc)).toArray 138 (0,0))]) (fun(o,L2)=>Le L L2) ?_ ?_)
 ·refine Cy rfl (fun t=>?_) (fun t=>?_)
  ·have e1:c.prep1 m=(ZD m.at_ 0 m.list {c with idle:=0}).reach m.commit:=by unfold CA.prep1;rw[Ah t]
   rw[e1]
   obtain⟨c1,N⟩:∃x,x=({c with idle:=0}:CA):=⟨_,rfl⟩
   rw[<-N]at hf1 ⊢
   refine Tx (YL (.p0 (.p0 (.p0 (.p0 (.p0 (.p0 (.p0 .d))))))) (A:=Dr p L c1) (by rw[N];exact⟨w,G,E,C,y,H,F,D,hb,q,r,k,mcs,g,al,rfl,hlog,hrc,f,hdn,hdo⟩)) fun S0=>Tp (.t2 (.t0 (.t0 .e))) ?_
   clear hlog hrc f hdn hdo
   refine OA 9 ?_
   refine CD (fun((i,o,L2,c2):Nat×N_×PL×CA)=>[(0,Cr p),(3,Cr b3),(19,.slice U m.list.length V),(20,Cs m.list.length),(21,Cs i)]) (fun(i,o,L2,c2)=>[cm o (Dr p L2 c2),pool L2,blk b3 (.cells (GL m (.slice U m.list.length V) (.slice ya m.data.length yc)).toArray 138 (0,0))]) (fun(i,o,L2,c2)=>Le L L2/\i<=m.list.length/\ZD m.at_ i (m.list.drop i) c2=ZD m.at_ 0 m.list c1/\c2.Fit (b+i)) (fun(i,_)=>m.list.length-i) (0,S0,L,c1) ?_ ?_
   ·exact⟨⟨.refl _,Af _,rfl,hf1⟩,Sb5,.refl _⟩
   rintro⟨i,o,L2,c2⟩ ⟨hL,hi,he,n⟩
   conv=>arg 7;dsimp only
   conv=>arg 8;dsimp only
   refine OA 5 ?_
   refine Cy rfl (fun Q=>?_) (fun Q=>?_)
   ·have hl2:=n.log
    obtain⟨x,hx⟩:∃x,m.list[i]? =some x:=⟨_,Ae (by omega)⟩
    obtain⟨ja,jc,T,hxB,a4⟩:=(hns.le hL).at hx
    have hxl:=hme x (Aj hx)
    rw[Ay (by omega),show m.list[i]'(by omega)=x from(Ab.1 hx).2,ZD]at he
    refine CM at1 (Reads.pool (hps.le hL)) T fun ad M=>?_
    refine OA 6 ?_
    refine O1 (Qaq (a:=ad) i rfl (by rw[<-M];rfl) rfl u40 rfl rfl (by omega)) ?_
    refine O1 (Ct.reads (a:=ad) (j:=i) rfl rfl at1 (by rw[<-M];exact Reads.pool (hps.le hL)) u53 rfl T) ?_
    refine OA 3 ?_
    obtain⟨c,s⟩:∃x,x=c2:=⟨_,rfl⟩
    subst s
    refine Cx (Cv.op (.p0 .d)) ?_
    rintro _ ⟨_,⟨w,G,E,C,y,H,F,D,hb,q,r,k,mcs,g,al,rfl,hlog,hrc,f,hdn,hdo⟩,rfl⟩
    refine Tp (.t2 (.t2 (.t2 (.t2 (.t2 (.t2 (.t2 (.t0 (.t0 .e))))))))) (Ts (CQ 45 ((c.keep.log.length:Int)<=m.at_+i/\c.keep.log.length<2000) ?_ ?_))
    ·refine CS rfl (fun j=>false) ?_
     refine DA [0,1,2,3,4,5,6,7,8,9,10,11] ?_
     refine Dy 37 rfl (fun R=>?_) (fun R=>?_)
     ·refine DA [12,13,14,15,16,17,18,19] ?_
      refine D0 ?_
      exact Ex
     refine DA [12,13,14,15,16,17,18,19] ?_
     refine D0 ?_
     exact Ex
    refine CP (fun((o,L2,c2):N_×PL×CA)=>[(0,Cr p),(3,Cr b3),(19,.slice U m.list.length V),(20,Cs m.list.length),(21,Cs i)]) (fun(o,L2,c2)=>[cm o (Dr p L2 c2),pool L2,blk b3 (.cells (GL m (.slice U m.list.length V) (.slice ya m.data.length yc)).toArray 138 (0,0))]) (fun(o,L2,c2)=>Le L L2/\ZD m.at_ (i+1) (m.list.drop (i+1)) c2=ZD m.at_ 0 m.list c1/\c2.Fit (b+(i+1))) ?_ ?_
    ·refine Cy rfl (fun u=>?_) (fun u=>?_)
     ·rw[Ah u]at he
      refine Ti (Zb (.p0 (.p0 (.p0 (.p0 (.p0 (.p0 (.p0 .d))))))) (A:=Dr p L2 c) ⟨w,G,E,C,y,H,F,D,hb,q,r,k,mcs,g,al,rfl,hlog,hrc,f,hdn,hdo⟩) (OA 3 ?_)
      refine Oc rfl (en 36) rfl (.p0 .d) (Gd ja x.length jc (x.map u8) _ (Reads.pool hxB.1) (by simp) (EU _) (by omega)) ?_
      rintro _ _ ⟨a2,c2,rfl,rfl⟩
      refine CL (Zg (.p2 (.p2 .d))) ?_
      rintro _ ⟨J,l,a0,rfl⟩
      refine Oi (Cv.up (B:=Dr p J c) s1 (Dr.le l)) ?_
      refine O1 (Xb bt119.h) ?_
      refine Oc rfl (en 167) rfl (.p1 (.p1 .d)) (GI p (b+i) _ J c n (by omega) ⟨2,0,0,x⟩ (.slice a2 x.length c2) ⟨a0,hxB.2⟩) ?_
      rintro _ _ ⟨rfl,L4,S4,Y,rfl⟩
      refine Oi (YN (.t1 (.t1 (.t0 .e)))) ?_
      refine On ?_
      exact⟨(S4,L4,c.put ⟨2,0,0,x⟩),⟨(hL.trans l).trans Y,he,Fq n hxl (fun h=>by cases h) (fun _=>by omega)⟩,Sb5,.refl _⟩
     rw[Aa u]at he
     refine Ti (Zb (.p0 (.p0 (.p0 (.p0 (.p0 (.p0 (.p0 .d))))))) (A:=Dr p L2 c) ⟨w,G,E,C,y,H,F,D,hb,q,r,k,mcs,g,al,rfl,hlog,hrc,f,hdn,hdo⟩) (Tp (.t2 (.t0 (.t0 .e))) (Tk ?_))
     exact⟨(_,L2,c),⟨hL,he,n.le (by omega)⟩,Sb5,.refl _⟩
    clear hlog hrc f hdn hdo he hL n hl2
    rintro⟨o,L2,c2⟩ ⟨hL,he,n⟩
    conv=>arg 4;dsimp only
    conv=>arg 5;dsimp only
    refine OA 4 ?_
    exact⟨(i+1,o,L2,c2),⟨⟨hL,by omega,he,n⟩,Sb5,.refl _⟩,by simp only;omega⟩
   rw[BB (by omega),ZD]at he
   rw[<-he]
   obtain⟨c,s⟩:∃x,x=c2:=⟨_,rfl⟩
   subst s
   refine Cx (Cv.op (.p0 .d)) ?_
   rintro _ ⟨_,⟨w,G,E,C,y,H,F,D,hb,q,r,k,mcs,g,al,rfl,hlog,hrc,f,hdn,hdo⟩,rfl⟩
   refine Tp (.t2 (.t2 (.t2 (.t2 (.t2 (.t2 (.t2 (.t0 (.t0 .e))))))))) (OA 5 ?_)
   refine Oc rfl (en 163) rfl (.p0 (.p5 (.p5 .d))) (HP p L2 c w y hb q r _ _ C D g (b+i) n (by omega) m.commit hlog hdn) ?_
   rintro _ _ ⟨rfl,J,W,X,K,l,I,rfl⟩
   obtain⟨j1,j2,j3,j4,j5,j6, -⟩:=FP c m.commit
   obtain⟨e,Z⟩:∃e,e=c.reach m.commit:=⟨_,rfl⟩
   rw[<-Z]at j1 j2 j3 j4 j5 j6 I ⊢
   rw[<-j1]at hlog
   simp only[<-j2,<-j3,<-j5,<-j6]
   refine Oi (Zb (.p6 (.p0 (.p0 (.p0 (.p0 (.p0 (.p1 .d))))))) (A:=Dr p J e) ⟨w,G,E,W,y,H,F,X,hb,q,r,k,mcs,K,al,rfl,hlog.le l,by rw[j5];exact hrc.mono fun _ _ h=>h.le l,by rw[j6];exact f.mono fun _ _ h=>h.le l,I,by rw[j4];exact hdo.mono fun _ _ h=>h.le l⟩) ?_
   refine Oi (YN (.t2 (.t1 (.t0 .e)))) ?_
   refine On ?_
   exact⟨(_,J),hL.trans l,Sb2,.refl _⟩
  have e1:c.prep1 m= {c with idle:=0}:=by unfold CA.prep1;rw[Aa t]
  rw[e1]
  refine Ti (Zb (.p0 (.p0 (.p0 (.p0 (.p0 (.p0 (.p0 .d))))))) (A:=Dr p L {c with idle:=0}) ⟨w,G,E,C,y,H,F,D,hb,q,r,k,mcs,g,al,rfl,hlog,hrc,f,hdn,hdo⟩) (Tp (.t2 (.t0 (.t0 .e))) (Tk ?_))
  exact⟨(_,L),.refl _,Sb2,.refl _⟩
 clear hlog hrc f hdn hdo
 rintro⟨o,L2⟩ hL
 have O:(c.prep1 m).Fit (b+m.list.length+1048576):=by
  unfold CA.prep1;split
  ·exact(FK (KO m.at_ m.list 0 _ b hf1 hme) m.commit).le (by omega)
  ·exact hf1.le (by omega)
 have P:c.prep m=(c.prep1 m).send {CY 2 with to:=m.from_,at_:=(c.prep1 m).keep.log.length}:=rfl
 rw[P]
 conv=>arg 4;dsimp only
 conv=>arg 5;dsimp only
 obtain⟨d,hd⟩:∃d,d=c.prep1 m:=⟨_,rfl⟩
 rw[<-hd]at O ⊢
 clear hd P hf hf1 hll
 obtain⟨c,s⟩:∃x,x=d:=⟨_,rfl⟩
 subst s
 refine Cx (Cv.op (.p0 .d)) ?_
 rintro _ ⟨_,⟨w,G,E,C,y,H,F,D,hb,q,r,k,mcs,g,al,rfl,hlog,hrc,f,hdn,hdo⟩,rfl⟩
 refine Tp (.t2 (.t2 (.t2 (.t2 (.t2 (.t2 (.t2 (.t0 (.t0 .e))))))))) (Cw (.t (.s7 (.t .d))) rfl (fun j=>Nat.beq j 10) ?_)
 intro a5
 refine D1 0 rfl DC ?_
 refine D5 1 [(10,[9,2])] rfl (Ct.fld 1 1 1 u138) ?_
 refine D5 2 [(10,[9])] rfl (Zi u3) ?_
 refine D5 3 [(10,[9,8,7,6,5,4])] rfl DC ?_
 refine D5 4 [(10,[9,8,7,6,5])] rfl Hl ?_
 refine D5 5 [(10,[9,8,7,6])] rfl (Ct.fld 5 5 5 u108) ?_
 refine D5 6 [(10,[9,8,7])] rfl (Ct.fld 2 2 7 u42) ?_
 refine D5 7 [(10,[9,8])] rfl (Zi u40) ?_
 refine D5 8 [(10,[9])] rfl (MV u40) ?_
 refine D1 9 rfl (Xb bt138.h) ?_
 refine Da 10 ?_
 refine DB rfl rfl (en 162) rfl (.p0 (.p4 .d)) (Ea p c _ hb q r _ _ E F mcs _ O (by omega) {CY 2 with to:=m.from_,at_:=c.keep.log.length} none none 0 0 0 0) ?_
 rintro _ _ ⟨rfl,a1,a3,rfl⟩
 refine yk ?_
 refine D0 ?_
 refine Dk rfl (Cv.then (Zb (.p7 (.p0 (.p0 (.p0 (.p0 (.p3 (.p0 .d))))))) (A:=Dr p L2 (c.send {CY 2 with to:=m.from_,at_:=c.keep.log.length})) ⟨w,G,a1,C,y,H,a3,D,hb,q,r,k,_,g,al,rfl,hlog,hrc,f.snoc ⟨_,_,rfl,EI.nil _,Zp _⟩,hdn,hdo⟩) (by rintro _ rfl;refine Cv.then (YN (.t2 (.t0 .e))) ?_;rintro _ rfl;exact YM ⟨rfl,L2,_,hL,rfl⟩))
def Zz:Nat->Int->CA->CA
 |0,_,c=>c
 |k+1,to,c=>if to<=c.n then Zz k (to+1) (if to=c.me then c else c.feed to)else c
def CA.feeds(c:CA):CA:=Zz 8 1 c
def YI:Vi:=⟨[],[],[]⟩
def CA.propose1(c:CA)(x:N_):CA:=(c.put ⟨2,0,0,x⟩).feeds.count
def CA.propose(c:CA)(x:N_):Int×Vi×Int×CA:=
 if c.leads=false then (0,YI,50,c)
 else if 4000<x.length then (0,YI,3,c)
 else if 2000<=c.keep.log.length then (0,YI,40,c)
 else ((c.propose1 x).keep.log.length,(c.propose1 x).out,0,(c.propose1 x).take.2)
theorem IV:∀(k:Nat) (to:Int) (c:CA) (b:Nat),c.Fit b->(Zz k to c).Fit (b+k)
 |0,_,_,_,h=>h
 |k+1,to,c,b,h=>by
  unfold Zz
  split
  ·split
   ·exact(IV k _ _ _ h).le (by omega)
   ·exact(IV k _ _ _ (send_fit h _)).le (by omega)
  ·exact h.le (by omega)
theorem QR.nil(L:PL):QR L YI (.agg [.slice none 0 0,.slice none 0 0,.slice none 0 0].toArray) [sq none 0 0 119 4 [],sq none 0 0 138 12 [],sq none 0 0 53 1 []]:=⟨none,none,none,0,0,0,[],[],[],rfl,rfl,.nil,.nil,.nil _⟩
theorem Ks(p:Nat)(S:N_)(L:PL)(c:CA)(b:Nat)(hf:c.Fit b)(hbb:b<67000000)(a:A_)(ac:Nat)(x:N_)(hB:Bs L (.slice a x.length ac) x):
  Sp P0 115 [Cr p,.slice a x.length ac] [cm S (Dr p L c),pool L] fun v h=>∃L' S' rs ov,Le L L'/\v= .tuple #[Cs (c.propose x).1,ov,Cs (c.propose x).2.2.1]/\QR L' (c.propose x).2.1 ov rs/\h=[cm S' (Dr p L' (c.propose x).2.2.2),pool L']++rs:=by
 have hll:=hf.log;have hxB:=hB.2
 refine Sq Tryz.func115 fun w0 b_=>?_
 refine Cx (Cv.op (.p0 .d)) ?_
 rintro _ ⟨_,⟨I,K,m,N,J,M,n,O,hb,s,t,l,mcs,o,al,rfl,hlog,hrc,g,hdn,hdo⟩,rfl⟩
 refine Cx (YN (.t1 (.t1 (.t1 (.t1 (.t1 (.t1 (.t1 (.t0 .e))))))))) ?_
 rintro _ rfl
 refine OA 3 ?_
 refine O6 (YQ MB) fun b5=>?_
 refine OA 14 ?_
 refine O8 (Zd rfl (en 104) rfl (.p0 .d) (Ls p c _ hb s t _ _ _ b hf)) ?_
 refine Oi (YN (.t8 (.t0 (.t0 (.t0 (.t0 (.t0 (.t0 (.t0 (.t0 .e)))))))))) ?_
 refine OA 3 ?_
 refine CE rfl (fun D=>?_) (fun D=>?_)
 ·have C:c.leads=false:=by cases h:c.leads<;>simp[h]at D ⊢
  have e:c.propose x=(0,YI,50,c):=by unfold CA.propose;rw[Ah C]
  rw[e]
  refine OA 7 ?_
  refine Ti (Zb (.p0 (.p0 (.p0 (.p0 (.p0 (.p0 (.p0 .d))))))) (A:=Dr p L c) ⟨I,K,m,N,J,M,n,O,hb,s,t,l,mcs,o,al,rfl,hlog,hrc,g,hdn,hdo⟩) (Tp (.t2 (.t0 (.n (T:=119) (sz:=4) (.n (T:=138) (sz:=12) (.n (T:=53) (sz:=1) (.t0 .e)))))) ?_)
  exact Cu (Is u106 (Bk _ [_]) ⟨L,_,_,_,.refl _,rfl,QR.nil L,rfl⟩)
 have C:¬c.leads=false:=by cases h:c.leads<;>simp[h]at D ⊢
 refine OA 7 ?_
 refine Cy rfl (fun b7=>?_) (fun b7=>?_)
 ·have e:c.propose x=(0,YI,3,c):=by unfold CA.propose;rw[Aa C,Ah (by omega)]
  rw[e]
  refine OA 7 ?_
  refine Ti (Zb (.p0 (.p0 (.p0 (.p0 (.p0 (.p0 (.p0 .d))))))) (A:=Dr p L c) ⟨I,K,m,N,J,M,n,O,hb,s,t,l,mcs,o,al,rfl,hlog,hrc,g,hdn,hdo⟩) (Tp (.t2 (.t0 (.n (T:=119) (sz:=4) (.n (T:=138) (sz:=12) (.n (T:=53) (sz:=1) (.t0 .e)))))) ?_)
  exact Cu (Is u106 (Bk _ [_]) ⟨L,_,_,_,.refl _,rfl,QR.nil L,rfl⟩)
 refine OA 11 ?_
 refine Cy rfl (fun b8=>?_) (fun b8=>?_)
 ·have e:c.propose x=(0,YI,40,c):=by unfold CA.propose;rw[Aa C,Aa (by omega),Ah (by omega)]
  rw[e]
  refine OA 7 ?_
  refine Ti (Zb (.p0 (.p0 (.p0 (.p0 (.p0 (.p0 (.p0 .d))))))) (A:=Dr p L c) ⟨I,K,m,N,J,M,n,O,hb,s,t,l,mcs,o,al,rfl,hlog,hrc,g,hdn,hdo⟩) (Tp (.t2 (.t0 (.n (T:=119) (sz:=4) (.n (T:=138) (sz:=12) (.n (T:=53) (sz:=1) (.t0 .e)))))) ?_)
  exact Cu (Is u106 (Bk _ [_]) ⟨L,_,_,_,.refl _,rfl,QR.nil L,rfl⟩)
 have e:c.propose x=(((c.propose1 x).keep.log.length:Int),(c.propose1 x).out,0,(c.propose1 x).take.2):=by unfold CA.propose;rw[Aa C,Aa (by omega),Aa (by omega)]
 rw[e]
 refine OA 5 ?_
 refine Oc rfl (en 36) rfl (.p7 .d) (Gd a x.length ac (x.map u8) _ (Reads.pool hB.1) (by simp) (EU _) (by omega)) ?_
 rintro _ _ ⟨a2,c2,rfl,rfl⟩
 refine Oi (Zb (.p0 (.p0 (.p0 (.p0 (.p0 (.p0 (.p0 .d))))))) (A:=Dr p L c) ⟨I,K,m,N,J,M,n,O,hb,s,t,l,mcs,o,al,rfl,hlog,hrc,g,hdn,hdo⟩) ?_
 refine CL (Zg (.p1 (.p1 .d))) ?_
 rintro _ ⟨L2,W,e0,rfl⟩
 refine Oi (Cv.up (B:=Dr p L2 c) s1 (Dr.le W)) ?_
 refine O1 (Xb bt119.h) ?_
 refine Oc rfl (en 167) rfl (.p1 (.p1 .d)) (GI p b _ L2 c hf (by omega) ⟨2,0,0,x⟩ (.slice a2 x.length c2) ⟨e0,hxB⟩) ?_
 rintro _ _ ⟨rfl,L3,S3,a9,rfl⟩
 refine On ?_
 have b4:c.propose1 x=(c.put ⟨2,0,0,x⟩).feeds.count:=rfl
 rw[b4]
 have e1:x.length<=65536:=by omega
 have hf1:=Fq (r:=⟨2,0,0,x⟩) hf e1 (fun h=>by cases h) (fun _=>by omega)
 have hLL:=W.trans a9
 clear b4 hlog hrc g hdn hdo W a9 e
 obtain⟨c1,d0⟩:∃c1,c1=c.put ⟨2,0,0,x⟩:=⟨_,rfl⟩
 rw[<-d0]at hf1 ⊢
 obtain⟨L1,V⟩:∃y,y=L3:=⟨_,rfl⟩
 subst V
 obtain⟨c,d7⟩:∃y,y=c1:=⟨_,rfl⟩
 subst d7
 obtain⟨L,V⟩:∃y,y=L1:=⟨_,rfl⟩
 subst V
 refine Cx (Cv.op (.p1 .d)) ?_
 rintro _ ⟨_,⟨I,K,m,N,J,M,n,O,hb,s,t,l,mcs,o,al,rfl,hlog,hrc,g,hdn,hdo⟩,rfl⟩
 refine Tp (.t2 (.t2 (.t2 (.t2 (.t2 (.t2 (.t2 (.t1 (.t0 .e))))))))) (OA 6 ?_)
 refine CD (fun((k,to,m,n,mcs,d):Nat×Int×A_×Nat×V_×CA)=>[(0,Cr p),(5,Cr b5),(7,Cs to)]) (fun(k,to,m,n,mcs,d)=>[Mf p d (.slice I d.keep.log.length J) hb s t (.slice K d.out.recs.length M) (.slice m d.out.msgs.length n) (.slice N d.out.done.length O),Dm hb gI d.has,Dm s gB d.begun,Dm t gA al,sq K d.out.recs.length M 119 4 l,sq m d.out.msgs.length n 138 12 mcs,sq N d.out.done.length O 53 1 o,pool L,blk b5 (.cells [.slice none 0 0,.slice none 0 0,.slice none 0 0].toArray 106 (0,0))]) (fun(k,to,m,n,mcs,d)=>(k:Int)+to=9/\1<=to/\Zz k to d=c.feeds/\d.Fit (b+1+to.toNat)/\d.keep=c.keep/\d.dos=c.dos/\d.out.recs=c.out.recs/\d.out.done=c.out.done/\d.n=c.n/\d.me=c.me/\Rws (Gu L) mcs d.out.msgs) (fun(k,_)=>k) (8,1,m,n,mcs,c) ?_ ?_
 ·exact⟨⟨rfl,by decide,rfl,hf1.le (by omega),rfl,rfl,rfl,rfl,rfl,rfl,g⟩,Sb3,.refl _⟩
 have hfn:=hf1.n;have hfm:=hf1.me
 clear g
 rintro⟨k,to,m,n,mcs,d⟩ ⟨hk,h1,he,hfd,d1,d2,d3,d4,d5,d6,g⟩
 conv=>arg 7;dsimp only
 conv=>arg 8;dsimp only
 refine OA 10 ?_
 refine Cy rfl (fun E=>?_) (fun E=>?_)
 ·obtain⟨k,rfl⟩:∃q,k=q+1:=⟨k-1,by omega⟩
  rw[Zz,Ah E]at he
  refine OA 12 ?_
  refine CH rfl (fun F=>?_) (fun F=>?_)
  ·rw[Aa F]at he
   refine OA 3 ?_
   refine Oc rfl (en 108) rfl (.p0 (.p0 (.p3 .d))) (Oq p L d I J hb s t _ _ m n mcs _ hfd (by omega) to (by rw[d1];exact hlog) g) ?_
   rintro _ _ ⟨rfl,e4,e6,b9,b2,rfl⟩
   refine Oi (YN (.t7 (.t6 (.t0 (.t0 (.t0 (.t3 (.t0 (.t0 (.t0 .e)))))))))) ?_
   refine OA 6 ?_
   exact⟨(k,to+1,e4,e6,b9,d.feed to),⟨⟨by omega,by omega,he,(send_fit hfd _).le (by omega),d1,d2,d3,d4,d5,d6,b2⟩,Sb3,.refl _⟩,by simp only;omega⟩
  rw[Ah F]at he
  refine OA 6 ?_
  exact⟨(k,to+1,m,n,mcs,d),⟨⟨by omega,by omega,he,hfd.le (by omega),d1,d2,d3,d4,d5,d6,g⟩,Sb3,.refl _⟩,by simp only;omega⟩
 have d8:d=c.feeds:=by
  cases k with
  |zero=>exact he
  |succ k=>rw[Zz,Aa E]at he;exact he
 rw[<-d8]
 rw[<-d1]at hlog
 rw[<-d2]at hdo
 rw[<-d3]at hrc
 rw[<-d4]at hdn
 refine OA 4 ?_
 refine Oc rfl (en 109) rfl (.p0 (.p0 (.p4 (.p4 .d)))) (HD p L d I J hb s t _ _ N O o _ hfd (by omega) hlog hdn) ?_
 rintro _ _ ⟨rfl,Q,a6,a7,P,i,w,rfl⟩
 refine On ?_
 obtain⟨i1,i2,i3,i4,i5,i6, -⟩:=FQ d
 obtain⟨f,d9⟩:∃f,f=d.count:=⟨_,rfl⟩
 rw[<-d9]at i1 i2 i3 i4 i5 i6 w ⊢
 simp only[<-i2,<-i3,<-i5,<-i6]
 refine Tp (.t6 (.t5 (.t0 (.t0 (.t0 (.t0 (.t1 (.t1 (.t0 .e))))))))) (Ts (Cw (.t .d) rfl (fun j=>Nat.beq j 4 || Nat.beq j 7 || Nat.beq j 9) ?_))
 intro f0
 refine DP [0,1,2,3,6] ?_
 refine Jy 4 7 ?_ ?_
 ·refine D9 rfl (YX (Zi u40)) ?_
  refine D2 5 rfl (fun _=>MV u40) ?_
  refine Da 7 ?_
  refine Ew (Zb (.p0 (.p0 (.p0 (.p0 (.p0 (.p0 (.p0 .d))))))) (A:=Dr p Q f) ⟨I,K,m,a6,J,M,n,a7,hb,s,t,l,mcs,P,al,rfl,by rw[i1];exact hlog.le i,by rw[i5];exact hrc.mono fun _ _ h=>h.le i,by rw[i6];exact g.mono fun _ _ h=>h.le i,w,by rw[i4];exact hdo.mono fun _ _ h=>h.le i⟩) ?_
  rintro _ rfl
  refine DB rfl rfl (en 113) rfl (.p2 (.p0 .d)) (Hj p _ Q f) ?_
  rintro _ _ ⟨S5,_,⟨a4,a1,R,a5,a3,U,H,G,u,rfl,rfl,a0,Z,X⟩,rfl⟩
  refine yk ?_
  refine D2 8 rfl (fun _=>FC) ?_
  refine Da 9 ?_
  refine D8 rfl YO ?_
  refine D2 10 rfl (fun _=>FC) ?_
  refine D0 (Tp (.t1 (.t1 (.t1 (.t1 (.t1 (.t0 .e)))))) ?_)
  exact Cu (Is u106 (Bk _ [_]) ⟨Q,S5,_,_,hLL.trans i,rfl,⟨a4,a1,R,a5,a3,U,H,G,u,rfl,rfl,a0,Z,X⟩,rfl⟩)
 refine Ew (Zb (.p0 (.p0 (.p0 (.p0 (.p0 (.p0 (.p0 .d))))))) (A:=Dr p Q f) ⟨I,K,m,a6,J,M,n,a7,hb,s,t,l,mcs,P,al,rfl,by rw[i1];exact hlog.le i,by rw[i5];exact hrc.mono fun _ _ h=>h.le i,by rw[i6];exact g.mono fun _ _ h=>h.le i,w,by rw[i4];exact hdo.mono fun _ _ h=>h.le i⟩) ?_
 rintro _ rfl
 refine DB rfl rfl (en 113) rfl (.p2 (.p0 .d)) (Hj p _ Q f) ?_
 rintro _ _ ⟨S5,_,⟨a4,a1,R,a5,a3,U,H,G,u,rfl,rfl,a0,Z,X⟩,rfl⟩
 refine yk ?_
 refine Dp (Cv.op (.p1 .d)) ?_
 rintro _ ⟨_,⟨e2,e8,e5,c6,e3,e9,e7,c8,c9,c5,c7,c3,c0,a8,c4,rfl,Y,b6,b3,b0,b1⟩,rfl⟩
 refine Da 4 ?_
 refine D9 rfl (YX (Zi u40)) ?_
 refine DP [5,8] ?_
 refine Da 9 ?_
 refine D8 rfl YO ?_
 refine D2 10 rfl (fun _=>FC) ?_
 refine D0 (Ti (Zb (.p5 (.p5 (.p5 (.p5 (.p5 (.p5 (.p5 .d))))))) (A:=Dr p Q f.take.2) ⟨e2,e8,e5,c6,e3,e9,e7,c8,c9,c5,c7,c3,c0,a8,c4,rfl,Y,b6,b3,b0,b1⟩) (Tp (.t5 (.t1 (.t1 (.t1 (.t1 (.t0 .e)))))) ?_))
 exact Cu (Is u106 (Bk _ [_]) ⟨Q,_,_,_,hLL.trans i,rfl,⟨a4,a1,R,a5,a3,U,H,G,u,rfl,rfl,a0,Z,X⟩,rfl⟩)
theorem Dr.of{p:Nat}{L:PL}{d:CA}{k:DW}{hs:List (Int×Int)}{bs:List (Int×Bool)}{ds:List (Int×Db)}{rs:List HY}{ms:List Db}{e:List N_}{l q n g:A_}{m r o i hb f h:Nat}{c mcs b:V_}{al:List (Int×V_)}
  (e1:d.keep=k) (e2:d.has=hs) (e3:d.begun=bs) (e4:d.dos=ds) (e5:d.out.recs=rs) (e6:d.out.msgs=ms) (e7:d.out.done=e) (hlog:EI L (.slice l k.log.length m) k.log) (hrc:Rws (RcR L) c rs) (j:Rws (Gu L) mcs ms) (hdn:Dz L b e) (hdo:AR (Gu L) al ds):
  Dr p L d [Mf p d (.slice l k.log.length m) hb f h (.slice q rs.length r) (.slice n ms.length o) (.slice g e.length i),Dm hb gI hs,Dm f gB bs,Dm h gA al,sq q rs.length r 119 4 c,sq n ms.length o 138 12 mcs,sq g e.length i 53 1 b]:=by
 subst e1 e2 e3 e4 e5 e6 e7
 exact⟨l,q,n,g,m,r,o,i,hb,f,h,c,mcs,b,al,rfl,hlog,hrc,j,hdn,hdo⟩
def CA.tick0(c:CA):CA:={c with idle:=c.idle+1}
def CA.tick1(c:CA):CA:=if 2<=c.idle then CA.feeds {c with idle:=0}else c
def CA.tick2(c:CA):CA:=(CA.all {c with begun:=aset c.me true c.begun} (CY 3)).wanted
def CA.tick3(c:CA):CA:=
 if c.leads=true then c.tick1.count
 else if c.changing=true/\c.idle<2*c.patience then (if c.idle%c.patience=0 then c.tick2 else c)
 else if c.changing=true∨c.patience+c.me<=c.idle then (if c.keep.view<1099511627776 then c.change (c.keep.view+1)else c)
 else c
def CA.tick(c:CA):Vi×CA:=c.tick0.tick3.take
theorem Ou{c:CA}{b:Nat}(h:c.Fit b)(hi:c.idle<1099511627776):c.tick0.Fit b:=by
 have:=h.idle
 exact⟨h.me,h.n,h.shard,h.patience,h.view,h.normal,h.log,h.entry,h.commit,⟨by show 0<=c.idle+1;omega,by show c.idle+1<=_;omega⟩,⟨h.maps.1,h.maps.2,h.maps.3,h.maps.4,h.maps.5,h.maps.6,h.maps.7⟩,h.recs,h.msgs,h.done⟩
theorem Xu(p:Nat)(S:N_)(L:PL)(c:CA)(b:Nat)(hf:c.Fit b)(hbb:b<66000000)(hid:c.idle<1099511627776):
  Sp P0 52 [Cr p] [cm S (Dr p L c),pool L] fun v h=>∃L' S' rs,Le L L'/\QR L' c.tick.1 v rs/\h=[cm S' (Dr p L' c.tick.2),pool L']++rs:=by
 refine Sq Tryz.func52 fun w0 b_=>?_
 refine Cx (Cv.op (.p0 .d)) ?_
 rintro _ ⟨_,⟨M,O,i,x,N,P,l,y,hb,t,u,o,mcs,m,al,rfl,hlog,hrc,f,hdn,hdo⟩,rfl⟩
 refine Cx (YN (.t1 (.t1 (.t1 (.t1 (.t1 (.t1 (.t1 (.t0 .e))))))))) ?_
 rintro _ rfl
 have h0:=Ou hf hid
 have ht:c.tick=c.tick0.tick3.take:=rfl
 have hi0:=hf.idle;have hp0:=hf.patience;have hm0:=hf.me;have hn0:=hf.n;have hv0:=hf.view;have hll:=hf.log
 refine OA 2 ?_
 refine O6 (YQ MB) fun b2=>?_
 refine OA 20 ?_
 rw[ht]
 obtain⟨e,r⟩:∃e,e=c.tick0:=⟨_,rfl⟩
 have x1:e.keep=c.keep:=by rw[r];rfl
 have x2:e.n=c.n:=by rw[r];rfl
 have x3:e.me=c.me:=by rw[r];rfl
 have x4:e.patience=c.patience:=by rw[r];rfl
 have x5:e.idle=c.idle+1:=by rw[r];rfl
 refine Tx (YL (.p0 (.p0 (.p0 (.p0 (.p0 (.p0 (.p0 .d))))))) (A:=Dr p L c.tick0) ⟨M,O,i,x,N,P,l,y,hb,t,u,o,mcs,m,al,rfl,hlog,hrc,f,hdn,hdo⟩) fun S0=>?_
 rw[<-r]at h0 ⊢
 clear hlog hrc f hdn hdo ht r
 refine Cx (Cv.op (.p2 .d)) ?_
 rintro _ ⟨_,⟨M,O,i,x,N,P,l,y,hb,t,u,o,mcs,m,al,rfl,hlog,hrc,f,hdn,hdo⟩,rfl⟩
 refine Tp (.t2 (.t2 (.t2 (.t2 (.t2 (.t2 (.t2 (.t0 (.t0 .e))))))))) (Ts (CP (fun((U,L2):N_×PL)=>[(0,Cr p),(2,Cr b2)]) (fun(U,L2)=>[cm U (Dr p L2 e.tick3),pool L2,blk b2 (.cells [.slice none 0 0,.slice none 0 0,.slice none 0 0].toArray 106 (0,0))]) (fun(U,L2)=>Le L L2) ?_ ?_))
 ·refine OA 2 ?_
  have hev:=h0.view;have hem:=h0.me;have hen:=h0.n
  refine OA 2 ?_
  refine O8 (Zd rfl (en 104) rfl (.p0 .d) (Ls p e _ hb t u _ _ _ b h0)) ?_
  refine Oi (YN (.t8 (.t0 (.t0 (.t0 (.t0 (.t0 (.t0 (.t0 (.t0 .e)))))))))) ?_
  refine OA 2 ?_
  refine CE rfl (fun C=>?_) (fun C=>?_)
  ·have e1:e.tick3=e.tick1.count:=by unfold CA.tick3;rw[Ah C]
   rw[e1]
   refine OA 9 ?_
   refine CP (fun((i,l,mcs,d):A_×Nat×V_×CA)=>[(0,Cr p),(2,Cr b2)]) (fun(i,l,mcs,d)=>[Mf p d (.slice M (d).keep.log.length N) hb t u (.slice O (d).out.recs.length P) (.slice i (d).out.msgs.length l) (.slice x (d).out.done.length y),Dm hb gI (d).has,Dm t gB (d).begun,Dm u gA al,sq O (d).out.recs.length P 119 4 o,sq i (d).out.msgs.length l 138 12 mcs,sq x (d).out.done.length y 53 1 m,pool L,blk b2 (.cells [.slice none 0 0,.slice none 0 0,.slice none 0 0].toArray 106 (0,0))]) (fun(i,l,mcs,d)=>d=e.tick1/\d.Fit (b+9)/\d.keep=e.keep/\d.dos=e.dos/\d.out.recs=e.out.recs/\d.out.done=e.out.done/\Rws (Gu L) mcs d.out.msgs) ?_ ?_
   ·refine Cy rfl (fun D=>?_) (fun D=>?_)
    ·have e2:e.tick1=CA.feeds {e with idle:=0}:=by unfold CA.tick1;rw[Ah D]
     have hfi:=Hp h0
     refine OA 12 ?_
     refine CD (fun((k,to,i,l,mcs,d):Nat×Int×A_×Nat×V_×CA)=>[(0,Cr p),(2,Cr b2),(3,Cs to)]) (fun(k,to,i,l,mcs,d)=>[Mf p d (.slice M (d).keep.log.length N) hb t u (.slice O (d).out.recs.length P) (.slice i (d).out.msgs.length l) (.slice x (d).out.done.length y),Dm hb gI (d).has,Dm t gB (d).begun,Dm u gA al,sq O (d).out.recs.length P 119 4 o,sq i (d).out.msgs.length l 138 12 mcs,sq x (d).out.done.length y 53 1 m,pool L,blk b2 (.cells [.slice none 0 0,.slice none 0 0,.slice none 0 0].toArray 106 (0,0))]) (fun(k,to,i,l,mcs,d)=>(k:Int)+to=9/\1<=to/\Zz k to d=e.tick1/\d.Fit (b+to.toNat)/\d.keep=e.keep/\d.dos=e.dos/\d.out.recs=e.out.recs/\d.out.done=e.out.done/\d.n=e.n/\d.me=e.me/\Rws (Gu L) mcs d.out.msgs) (fun(k,_)=>k) (8,1,i,l,mcs,{e with idle:=0}) ?_ ?_
     ·exact⟨⟨rfl,by decide,by rw[e2];rfl,hfi.le (by omega),rfl,rfl,rfl,rfl,rfl,rfl,f⟩,Sb3,.refl _⟩
     clear f
     rintro⟨k,to,i,l,mcs,d⟩ ⟨hk,h1,he,hfd,T,d2,d3,V,d5,d6,f⟩
     conv=>arg 7;dsimp only
     conv=>arg 8;dsimp only
     refine OA 10 ?_
     refine Cy rfl (fun E=>?_) (fun E=>?_)
     ·obtain⟨k,rfl⟩:∃q,k=q+1:=⟨k-1,by omega⟩
      rw[Zz,Ah E]at he
      refine OA 12 ?_
      refine CH rfl (fun F=>?_) (fun F=>?_)
      ·rw[Aa F]at he
       refine OA 3 ?_
       refine Oc rfl (en 108) rfl (.p0 (.p0 (.p3 .d))) (Oq p L d M N hb t u _ _ i l mcs _ hfd (by omega) to (by rw[T];exact hlog) f) ?_
       rintro _ _ ⟨rfl,Y,Z,Q,B,rfl⟩
       refine Oi (YN (.t7 (.t6 (.t0 (.t0 (.t0 (.t3 (.t0 (.t0 (.t0 .e)))))))))) ?_
       refine OA 6 ?_
       exact⟨(k,to+1,Y,Z,Q,d.feed to),⟨⟨by omega,by omega,he,(send_fit hfd _).le (by omega),T,d2,d3,V,d5,d6,B⟩,Sb3,.refl _⟩,by simp only;omega⟩
      rw[Ah F]at he
      refine OA 6 ?_
      exact⟨(k,to+1,i,l,mcs,d),⟨⟨by omega,by omega,he,hfd.le (by omega),T,d2,d3,V,d5,d6,f⟩,Sb3,.refl _⟩,by simp only;omega⟩
     have a5:d=e.tick1:=by
      cases k with
      |zero=>exact he
      |succ k=>rw[Zz,Aa E]at he;exact he
     refine Te ?_
     exact⟨(i,l,mcs,d),⟨a5,hfd.le (by omega),T,d2,d3,V,f⟩,Sb2,.refl _⟩
    have e2:e.tick1=e:=by unfold CA.tick1;rw[Aa D]
    refine Tk ?_
    exact⟨(i,l,mcs,e),⟨e2.symm,h0.le (by omega),rfl,rfl,rfl,rfl,f⟩,Sb2,.refl _⟩
   clear f
   rintro⟨i,l,mcs,d⟩ ⟨hd,hfd,T,d2,d3,V,f⟩
   conv=>arg 4;dsimp only
   conv=>arg 5;dsimp only
   rw[<-hd]
   rw[<-T]at hlog
   rw[<-d2]at hdo
   rw[<-d3]at hrc
   rw[<-V]at hdn
   refine OA 2 ?_
   refine Oc rfl (en 109) rfl (.p0 (.p0 (.p4 (.p4 .d)))) (HD p L d M N hb t u _ _ x y m _ hfd (by omega) hlog hdn) ?_
   rintro _ _ ⟨rfl,R,b4,b5,b3,n,X,rfl⟩
   obtain⟨i1,i2,i3,i4,i5,i6, -⟩:=FQ d
   refine CL (YL (.p6 (.p5 (.p0 (.p0 (.p0 (.p0 (.p1 .d))))))) (A:=Dr p R d.count) (Dr.of rfl i2 i3 i4 i5 i6 rfl (by rw[i1];exact hlog.le n) (hrc.mono fun _ _ h=>h.le n) (f.mono fun _ _ h=>h.le n) X (hdo.mono fun _ _ h=>h.le n))) ?_
   rintro _ ⟨w,rfl⟩
   refine Oi (YN (.t2 (.t1 (.t0 .e)))) ?_
   refine On ?_
   exact⟨(w,R),n,Sb2,.refl _⟩
  have e1:e.tick3=if e.changing=true/\e.idle<2*e.patience then (if e.idle%e.patience=0 then e.tick2 else e)
   else if e.changing=true∨e.patience+e.me<=e.idle then (if e.keep.view<1099511627776 then e.change (e.keep.view+1)else e)else e:=by unfold CA.tick3;rw[Aa (by rw[C];decide)]
  rw[e1]
  refine Ts (CQ 44 (e.changing=true/\e.idle<2*e.patience) ?_ ?_)
  ·refine CS rfl (fun j=>false) ?_
   refine DA [0,1,2,3,4] ?_
   refine Fo 49 rfl (fun H=>?_) (fun H=>?_)
   ·refine DA [5,6,7,8,9,10,11,12,13,14,15,16] ?_
    refine D0 ?_
    exact EW rfl (congrArg Value.bool (by simp[H]))
   refine DA [5,6,7,8,9,10,11,12,13,14,15,16] ?_
   refine D0 ?_
   exact EW rfl (congrArg Value.bool (by simp[H]))
  refine Cy rfl (fun G=>?_) (fun G=>?_)
  ·rw[Ah G]
   refine Ts (CS rfl (fun j=>false) ?_)
   refine DA [0,1,2,3,4,5,6,7] ?_
   refine D1 8 rfl (Ct.rem rfl rfl rfl (by omega) (by omega)) ?_
   refine D1 9 rfl Xeq ?_
   refine D0 (Cy rfl (fun I=>?_) (fun I=>?_))
   ·rw[Ah I]
    refine Ts (CS rfl (fun j=>Nat.beq j 8) ?_)
    refine DA [0,1,2,3,4,5,6,7] ?_
    refine Da 8 ?_
    refine D8 rfl (ZK (g:=gB) e.me true u102 u3) ?_
    refine D0 ?_
    have hfb:=Gl h0 (k:=e.me) (by omega) (by omega)
    refine OA 4 ?_
    refine Oc rfl (en 110) rfl (.p0 (.p4 .d)) (NR p L {e with begun:=aset e.me true e.begun} _ hb t u _ _ i l mcs b hfb (by omega) (CY 3) _ _ (EI.nil _) (Zp _) f) ?_
    rintro _ _ ⟨rfl,Y,Z,Q,B,rfl⟩
    have hfd:=IM hfb (CY 3)
    obtain⟨k1,k2,k3,k4,k5,k6⟩:=IC {e with begun:=aset e.me true e.begun} (CY 3)
    refine CL (YL (.p7 (.p0 (.p0 (.p0 (.p0 (.p3 (.p0 .d))))))) (A:=Dr p L (CA.all {e with begun:=aset e.me true e.begun} (CY 3))) (Dr.of k1 k2 k3 k4 k5 rfl k6 hlog hrc B hdn hdo)) ?_
    rintro _ ⟨S3,rfl⟩
    refine OA 3 ?_
    refine Oc rfl (en 111) rfl (.p2 (.p0 .d)) (IA p S3 L _ (b+8) hfd (by omega)) ?_
    rintro _ _ ⟨rfl,R,w,n,rfl⟩
    refine Oi (YN (.t1 (.t1 (.t0 .e)))) ?_
    refine On ?_
    exact⟨(w,R),n,Sb2,.refl _⟩
   rw[Aa I]
   refine Tx (YL (.p0 (.p0 (.p0 (.p0 (.p0 (.p0 (.p0 .d))))))) (A:=Dr p L e) ⟨M,O,i,x,N,P,l,y,hb,t,u,o,mcs,m,al,rfl,hlog,hrc,f,hdn,hdo⟩) fun w=>Tp (.t2 (.t0 (.t0 .e))) (Tk ?_)
   exact⟨(w,L),.refl _,Sb2,.refl _⟩
  rw[Aa G]
  refine Ts (CQ 84 (e.changing=true∨e.patience+e.me<=e.idle) ?_ ?_)
  ·refine CS rfl (fun j=>false) ?_
   refine DA [0,1,2,3,4] ?_
   refine Fo 89 rfl (fun K=>?_) (fun K=>?_)
   ·refine DA [5,6,7,8,9,10,11,12,13,14,15,16,17,18,19,20] ?_
    refine D0 ?_
    exact EW rfl (congrArg Value.bool (by simp[K]))
   refine DA [5,6,7,8,9,10,11,12,13,14,15,16,17,18,19,20] ?_
   refine D0 ?_
   exact EW rfl (congrArg Value.bool (by simp[K]))
  refine Cy rfl (fun J=>?_) (fun J=>?_)
  ·rw[Ah J]
   refine OA 9 ?_
   refine Cy rfl (fun s=>?_) (fun s=>?_)
   ·rw[Ah s]
    refine OA 8 ?_
    refine CL (YL (.p0 (.p0 (.p0 (.p0 (.p0 (.p0 (.p0 .d))))))) (A:=Dr p L e) ⟨M,O,i,x,N,P,l,y,hb,t,u,o,mcs,m,al,rfl,hlog,hrc,f,hdn,hdo⟩) ?_
    rintro _ ⟨S3,rfl⟩
    refine Oc rfl (en 112) rfl (.p2 (.p0 .d)) (Lz p S3 L e b h0 (by omega) (e.keep.view+1) (by omega)) ?_
    rintro _ _ ⟨rfl,R,w,n,rfl⟩
    refine Oi (YN (.t1 (.t1 (.t0 .e)))) ?_
    refine On ?_
    exact⟨(w,R),n,Sb2,.refl _⟩
   rw[Aa s]
   refine Tx (YL (.p0 (.p0 (.p0 (.p0 (.p0 (.p0 (.p0 .d))))))) (A:=Dr p L e) ⟨M,O,i,x,N,P,l,y,hb,t,u,o,mcs,m,al,rfl,hlog,hrc,f,hdn,hdo⟩) fun w=>Tp (.t2 (.t0 (.t0 .e))) (Tk ?_)
   exact⟨(w,L),.refl _,Sb2,.refl _⟩
  rw[Aa J]
  refine Tx (YL (.p0 (.p0 (.p0 (.p0 (.p0 (.p0 (.p0 .d))))))) (A:=Dr p L e) ⟨M,O,i,x,N,P,l,y,hb,t,u,o,mcs,m,al,rfl,hlog,hrc,f,hdn,hdo⟩) fun w=>Tp (.t2 (.t0 (.t0 .e))) (Tk ?_)
  exact⟨(w,L),.refl _,Sb2,.refl _⟩
 clear hlog hrc f hdn hdo
 rintro⟨U,L2⟩ hL
 conv=>arg 4;dsimp only
 conv=>arg 5;dsimp only
 refine OA 3 ?_
 refine Oc rfl (en 113) rfl (.p0 (.p0 .d)) (Hj p U L2 e.tick3) ?_
 rintro _ _ ⟨S5,_,⟨b0,a8,a2,b1,a9,a3,a1,a0,W,rfl,rfl,a7,a6,a4⟩,rfl⟩
 refine OA 2 ?_
 refine Tp (.t1 (.t1 (.t1 (.t1 (.t1 (.t0 .e)))))) ?_
 exact Cu (Em u106 (Bk _ [_]) ⟨L2,S5,_,hL,⟨b0,a8,a2,b1,a9,a3,a1,a0,W,rfl,rfl,a7,a6,a4⟩,rfl⟩)
abbrev CA.bad(c:CA)(m:Db):Prop:=m.to≠c.me∨m.from_<1∨c.n<m.from_∨m.from_=c.me∨m.shard≠c.shard∨m.view<0∨1099511627776<m.view∨2000<m.list.length∨m.view<m.normal∨m.at_<0
def CA.newview(c:CA)(v:Int):CA:={c with keep:={c.keep with view:=v}}
def CA.took(c:CA)(m:Db):CA:=((c.newview m.view).adopt m.list).reach m.commit
def CA.counted(c:CA)(m:Db):CA:={c with has:=aset m.from_ (max ((alk m.from_ c.has).getD 0) (min m.at_ c.keep.log.length)) c.has}
def CA.in2(c:CA)(m:Db)(b:Int):CA:=
 if m.kind=3 then c.started m
 else if m.kind=4/\m.view=c.keep.view/\c.changing=true/\b=c.me then CA.begin_ {c with dos:=aset m.from_ m c.dos}
 else if m.kind=5/\m.from_=b/\(c.keep.view<m.view∨c.changing=true)then (c.took m).send {CY 2 with to:=b,at_:=(c.took m).keep.log.length}
 else if m.kind=1/\m.view=c.keep.view/\c.changing=false/\m.from_=b then c.prep m
 else if m.kind=2/\m.view=c.keep.view/\c.leads=true then (c.counted m).count
 else c
def CA.in1(c:CA)(m:Db):CA:=if c.keep.view<m.view/\m.kind≠5/\m.kind≠2 then c.change m.view else c
def CA.behind(c:CA)(m:Db):CA:=if m.kind=1∨m.kind=3 then c.send {CY 3 with to:=m.from_}else c
def CA.in_(c:CA)(m:Db):Vi×CA:=
 if c.bad m then (YI,c)
 else if m.kind<1∨5<m.kind then (YI,c)
 else if m.view<c.keep.view then (c.behind m).take
 else ((c.in1 m).in2 m (FM m.view c.n)).take
theorem LE{c:CA}{b:Nat}(h:c.Fit b){v:Int}(h0:0<=v)(h1:v<=1099511627776):(c.newview v).Fit b:=
 ⟨h.me,h.n,h.shard,h.patience,⟨h0,h1⟩,h.normal,h.log,h.entry,h.commit,h.idle,⟨h.maps.1,h.maps.2,h.maps.3,h.maps.4,h.maps.5,h.maps.6,h.maps.7⟩,h.recs,h.msgs,h.done⟩
theorem LU{c:CA}{b:Nat}(h:c.Fit b){m:Db}(h0:0<=m.at_):(c.counted m).Fit b:=
 ⟨h.me,h.n,h.shard,h.patience,h.view,h.normal,h.log,h.entry,h.commit,h.idle,⟨h.maps.1.aset,fun j x hx=>by
  have hx:alk j (aset m.from_ (max ((alk m.from_ c.has).getD 0) (min m.at_ c.keep.log.length)) c.has)=some x:=hx
  rw[DE]at hx
  split at hx
  ·cases hx;omega
  ·exact h.maps.2 j x hx,h.maps.3,h.maps.4,h.maps.5,h.maps.6,h.maps.7⟩,h.recs,h.msgs,h.done⟩
theorem UD{c:CA}{b:Nat}(h:c.Fit b):c.begin2.Fit (b+3145800):=by
 have d:c.best.1.Fit/\_:=Lg h.dosF 8 1 ({CY 0 with normal:= -1},0) ⟨⟨by decide,by decide⟩,⟨by decide,by decide⟩,by decide,fun _ h=>by cases h⟩ (by decide) (by decide)
 have hl:=d.1.list
 unfold CA.begin2
 exact(IP (FK (IM (IR h c.best.1.list d.1.entry hl) _) _)).le (by omega)
theorem OS{c:CA}{b:Nat}(h:c.Fit b):c.begin_.Fit (b+3145800):=by
 unfold CA.begin_
 split
 ·exact UD h
 ·exact h.le (by omega)
theorem JH{c:CA}{b:Nat}(h:c.Fit b):c.wanted.Fit (b+3145800):=by
 have h1:=h.me;have h2:=h.n
 unfold CA.wanted
 split
 ·split
  ·exact OS (HZ h (k:=c.me) (by omega) (by omega) (VN h))
  ·exact(send_fit h _).le (by omega)
 ·exact h.le (by omega)
theorem JI{c:CA}{b:Nat}(h:c.Fit b){v:Int}(hv:0<=v/\v<=1099511627776):(c.change v).Fit (b+3145900):=by
 have h1:=LL (Fq (r:=⟨1,v,c.keep.normal,[]⟩) h (Af _) (fun _=>⟨hv,h.normal⟩) (fun h=>by cases h))
 exact(JH (IM h1 (CY 3))).le (by omega)
theorem in_spec(p:Nat)(S:N_)(L:PL)(c:CA)(b:Nat)(hf:c.Fit b)(hbb:b<60000000)(m:Db)(hm:m.Fit)(hat:m.at_<=1099511627776)(lv dv:Value)(hlv:EI L lv m.list)(hdv:Bs L dv m.data):
  Sp P0 185 [Cr p,.agg (GL m lv dv).toArray] [cm S (Dr p L c),pool L] fun v h=>∃L' S' rs,Le L L'/\QR L' (c.in_ m).1 v rs/\h=[cm S' (Dr p L' (c.in_ m).2),pool L']++rs:=by
 obtain⟨xa,xc,rfl,e4,_⟩:=hlv.sh
 obtain⟨ya,yc,rfl,_,_⟩:=hdv.sh
 have hml:=hm.list;have hme:=hm.entry;have hmc:=hm.commit;have hll:=hf.log;have hv0:=hf.view;have hn0:=hf.n;have hm0:=hf.me
 refine Sq Tryz.func185 fun w0 b_=>?_
 refine Cx (Cv.op (.p0 .d)) ?_
 rintro _ ⟨_,⟨X,ra,Z,R,Y,rc,mc,U,hb,G,H,w,mcs,u,al,rfl,hlog,hrc,s,hdn,hdo⟩,rfl⟩
 refine Cx (YN (.t1 (.t1 (.t1 (.t1 (.t1 (.t1 (.t1 (.t0 .e))))))))) ?_
 rintro _ rfl
 refine OA 2 ?_
 refine O6 YR fun b3=>?_
 refine O6 (YQ MB) fun b4=>?_
 refine OA 3 ?_
 refine CQ 76 (c.bad m) ?_ ?_
 ·refine Cw (.t (.s7 (.t .d))) rfl (fun j=>false) ?_
  intro a2
  refine DA [0,1,2,3,4,5,6,7,8,9,10,11] ?_
  refine IN 17 rfl (fun c8=>?_) (fun c8=>?_)
  ·refine DA [12,13,14,15,16,17,18,19,20,21,22,23,24,25,26,27,28,29,30,31,32,33,34,35,36,37,38,39,40,41,42,43,44,45,46,47,48,49,50,51] ?_
   refine DA [52,53,54,55,56,57,58,59,60,61,62,63,64,65,66,67,68,69,70] ?_
   refine D0 ?_
   exact Ex
  refine DA [12,13,14,15,16] ?_
  refine Dy 22 rfl (fun c9=>?_) (fun c9=>?_)
  ·refine DA [17,18,19,20,21,22,23,24,25,26,27,28,29,30,31,32,33,34,35,36,37,38,39,40,41,42,43,44,45,46,47,48,49,50,51,52,53,54,55,56] ?_
   refine DA [57,58,59,60,61,62,63,64,65,66,67,68,69,70] ?_
   refine D0 ?_
   exact Ex
  refine DA [17,18,19,20,21,22,23,24,25] ?_
  refine Dy 31 rfl (fun d0=>?_) (fun d0=>?_)
  ·refine DA [26,27,28,29,30,31,32,33,34,35,36,37,38,39,40,41,42,43,44,45,46,47,48,49,50,51,52,53,54,55,56,57,58,59,60,61,62,63,64,65] ?_
   refine DA [66,67,68,69,70] ?_
   refine D0 ?_
   exact Ex
  refine DA [26,27,28,29,30,31,32,33,34] ?_
  refine Dy 40 rfl (fun d1=>?_) (fun d1=>?_)
  ·refine DA [35,36,37,38,39,40,41,42,43,44,45,46,47,48,49,50,51,52,53,54,55,56,57,58,59,60,61,62,63,64,65,66,67,68,69,70] ?_
   refine D0 ?_
   exact Ex
  refine DA [35,36,37,38,39,40,41,42,43] ?_
  refine IN 49 rfl (fun d2=>?_) (fun d2=>?_)
  ·refine DA [44,45,46,47,48,49,50,51,52,53,54,55,56,57,58,59,60,61,62,63,64,65,66,67,68,69,70] ?_
   refine D0 ?_
   exact Ex
  refine DA [44,45,46,47,48] ?_
  refine Dy 54 rfl (fun d3=>?_) (fun d3=>?_)
  ·refine DA [49,50,51,52,53,54,55,56,57,58,59,60,61,62,63,64,65,66,67,68,69,70] ?_
   refine D0 ?_
   exact Ex
  refine DA [49,50,51,52,53] ?_
  refine Dy 59 rfl (fun d4=>?_) (fun d4=>?_)
  ·refine DA [54,55,56,57,58,59,60,61,62,63,64,65,66,67,68,69,70] ?_
   refine D0 ?_
   exact Ex
  refine DA [54,55,56,57,58,59] ?_
  refine Dy 65 rfl (fun d5=>?_) (fun d5=>?_)
  ·refine DA [60,61,62,63,64,65,66,67,68,69,70] ?_
   refine D0 ?_
   exact Ex
  refine DA [60,61,62,63,64,65,66] ?_
  refine Dy 72 rfl (fun d6=>?_) (fun d6=>?_)
  ·refine DA [67,68,69,70] ?_
   refine D0 ?_
   exact Ex
  refine DA [67,68,69,70] ?_
  refine D0 ?_
  exact Ex
 refine Cy rfl (fun W=>?_) (fun W=>?_)
 ·have e:c.in_ m=(YI,c):=by unfold CA.in_;rw[Ah W]
  rw[e]
  refine OA 5 ?_
  refine Tx (YL (.p0 (.p0 (.p0 (.p0 (.p0 (.p0 (.p0 .d))))))) (A:=Dr p L c) ⟨X,ra,Z,R,Y,rc,mc,U,hb,G,H,w,mcs,u,al,rfl,hlog,hrc,s,hdn,hdo⟩) fun D=>Tp (.t3 (.t0 (.n (T:=119) (sz:=4) (.n (T:=138) (sz:=12) (.n (T:=53) (sz:=1) (.t1 .e)))))) ?_
  exact Cu (Em u106 (Bk _ [_]) ⟨L,D,_,.refl _,QR.nil L,rfl⟩)
 have e:c.in_ m=if m.kind<1∨5<m.kind then (YI,c)
  else if m.view<c.keep.view then (c.behind m).take
  else ((c.in1 m).in2 m (FM m.view c.n)).take:=by unfold CA.in_;rw[Aa W]
 rw[e]
 refine OA 2 ?_
 refine CS rfl (fun j=>false) ?_
 refine DA [0,1,2,3,4,5] ?_
 refine Da 6 ?_
 refine Gz rfl (Zc rfl (en 153) rfl (Ga m.view c.n (by omega) (by omega))) ?_
 refine D1 7 rfl FC ?_
 refine D0 ?_
 obtain⟨l,a1⟩:∃x,x=FM m.view c.n:=⟨_,rfl⟩
 rw[<-a1]
 have a7:0<=m.view/\m.view<=1099511627776:=⟨by omega,by omega⟩
 have hmf:1<=m.from_/\m.from_<=7:=⟨by omega,by omega⟩
 have c7:0<=m.at_:=by omega
 clear e W
 refine Tp (.t0 (.t0 (.t0 (.t0 (.t0 (.t0 (.t0 (.t0 (.t0 (.t0 .e)))))))))) (OA 3 ?_)
 refine CQ 85 (m.kind<1∨5<m.kind) ?_ ?_
 ·refine OA 5 ?_
  refine CJ 89 rfl (fun d7=>?_) (fun d7=>?_)
  ·refine OA 6 ?_
   exact Ex
  refine OA 6 ?_
  exact Ex
 refine Cy rfl (fun a3=>?_) (fun a3=>?_)
 ·rw[Ah a3]
  refine OA 5 ?_
  refine Tx (YL (.p0 (.p0 (.p0 (.p0 (.p0 (.p0 (.p0 .d))))))) (A:=Dr p L c) ⟨X,ra,Z,R,Y,rc,mc,U,hb,G,H,w,mcs,u,al,rfl,hlog,hrc,s,hdn,hdo⟩) fun D=>Tp (.t3 (.t0 (.n (T:=119) (sz:=4) (.n (T:=138) (sz:=12) (.n (T:=53) (sz:=1) (.t1 .e)))))) ?_
  exact Cu (Em u106 (Bk _ [_]) ⟨L,D,_,.refl _,QR.nil L,rfl⟩)
 rw[Aa a3]
 refine Ts (CS rfl (fun j=>false) ?_)
 refine DA [0,1,2,3,4,5,6,7,8] ?_
 refine D0 (Cy rfl (fun a4=>?_) (fun a4=>?_))
 ·rw[Ah a4]
  refine OA 2 ?_
  refine CQ 111 (m.kind=1∨m.kind=3) ?_ ?_
  ·refine OA 5 ?_
   refine CJ 107 rfl (fun c0=>?_) (fun c0=>?_)
   ·refine OA 5 ?_
    exact Ex
   refine OA 5 ?_
   exact Ex
  refine CP (fun((E,L2):N_×PL)=>[(0,Cr p),(4,Cr b4)]) (fun(E,L2)=>[cm E (Dr p L2 (c.behind m)),pool L2,blk b4 (.cells [.slice none 0 0,.slice none 0 0,.slice none 0 0].toArray 106 (0,0))]) (fun(E,L2)=>Le L L2) ?_ ?_
  ·refine Cy rfl (fun J=>?_) (fun J=>?_)
   ·have e1:c.behind m=c.send {CY 3 with to:=m.from_}:=by unfold CA.behind;rw[Ah J]
    rw[e1]
    refine OA 5 ?_
    refine Oc rfl (en 162) rfl (.p0 (.p4 .d)) (Ea p c _ hb G H _ _ Z mc mcs b hf (by omega) {CY 3 with to:=m.from_} none none 0 0 0 0) ?_
    rintro _ _ ⟨rfl,e2,e3,rfl⟩
    refine CL (YL (.p8 (.p0 (.p0 (.p0 (.p0 (.p4 (.p0 .d))))))) (A:=Dr p L (c.send {CY 3 with to:=m.from_})) ⟨X,ra,e2,R,Y,rc,e3,U,hb,G,H,w,_,u,al,rfl,hlog,hrc,s.snoc ⟨_,_,rfl,EI.nil _,Zp _⟩,hdn,hdo⟩) ?_
    rintro _ ⟨D,rfl⟩
    refine Oi (YN (.t3 (.t0 (.t1 .e)))) ?_
    refine On ?_
    exact⟨(D,L),.refl _,Sb2,.refl _⟩
   have e1:c.behind m=c:=by unfold CA.behind;rw[Aa J]
   rw[e1]
   refine Tx (YL (.p0 (.p0 (.p0 (.p0 (.p0 (.p0 (.p0 .d))))))) (A:=Dr p L c) ⟨X,ra,Z,R,Y,rc,mc,U,hb,G,H,w,mcs,u,al,rfl,hlog,hrc,s,hdn,hdo⟩) fun D=>Tp (.t3 (.t0 (.t1 .e))) (Tk ?_)
   exact⟨(D,L),.refl _,Sb2,.refl _⟩
  clear hlog hrc s hdn hdo
  rintro⟨E,L2⟩ hL
  conv=>arg 4;dsimp only
  conv=>arg 5;dsimp only
  refine OA 3 ?_
  refine Oc rfl (en 113) rfl (.p0 (.p0 .d)) (Hj p E L2 (c.behind m)) ?_
  rintro _ _ ⟨S5,_,⟨c4,a8,b0,c5,a9,b1,a6,a5,a0,rfl,rfl,b9,b8,b7⟩,rfl⟩
  refine OA 2 ?_
  refine Tp (.t1 (.t1 (.t1 (.t1 (.t1 (.t0 .e)))))) ?_
  exact Cu (Em u106 (Bk _ [_]) ⟨L2,S5,_,hL,⟨c4,a8,b0,c5,a9,b1,a6,a5,a0,rfl,rfl,b9,b8,b7⟩,rfl⟩)
 rw[Aa a4]
 refine Ts (CQ 119 (c.keep.view<m.view/\m.kind≠5/\m.kind≠2) ?_ ?_)
 ·refine CS rfl (fun j=>false) ?_
  refine DA [0,1,2,3,4,5,6,7,8] ?_
  refine Dy 128 rfl (fun c2=>?_) (fun c2=>?_)
  ·refine DA [9,10,11,12,13] ?_
   refine IN 133 rfl (fun c3=>?_) (fun c3=>?_)
   ·refine DA [14,15,16,17,18] ?_
    refine D0 ?_
    exact Ex
   refine DA [14,15,16,17,18] ?_
   refine D0 ?_
   exact Ex
  refine DA [9,10,11,12,13,14,15,16,17,18] ?_
  refine D0 ?_
  exact Ex
 refine CP (fun((E,L2):N_×PL)=>[(0,Cr p),(3,Cr b3),(4,Cr b4),(5,Cs l)]) (fun(E,L2)=>[cm E (Dr p L2 (c.in1 m)),pool L2,blk b3 (.cells (GL m (.slice xa m.list.length xc) (.slice ya m.data.length yc)).toArray 138 (0,0)),blk b4 (.cells [.slice none 0 0,.slice none 0 0,.slice none 0 0].toArray 106 (0,0))]) (fun(E,L2)=>Le L L2) ?_ ?_
 ·refine Cy rfl (fun K=>?_) (fun K=>?_)
  ·have e1:c.in1 m=c.change m.view:=by unfold CA.in1;rw[Ah K]
   rw[e1]
   refine Tx (YL (.p0 (.p0 (.p0 (.p0 (.p0 (.p0 (.p0 .d))))))) (A:=Dr p L c) ⟨X,ra,Z,R,Y,rc,mc,U,hb,G,H,w,mcs,u,al,rfl,hlog,hrc,s,hdn,hdo⟩) fun D=>OA 4 ?_
   refine Oc rfl (en 112) rfl (.p3 (.p0 .d)) (Lz p D L c b hf (by omega) m.view a7) ?_
   rintro _ _ ⟨rfl,L2,E,b5,rfl⟩
   refine Oi (YN (.t2 (.t2 (.t0 (.t0 .e))))) ?_
   refine On ?_
   exact⟨(E,L2),b5,Sb4,.refl _⟩
  have e1:c.in1 m=c:=by unfold CA.in1;rw[Aa K]
  rw[e1]
  refine Tx (YL (.p0 (.p0 (.p0 (.p0 (.p0 (.p0 (.p0 .d))))))) (A:=Dr p L c) ⟨X,ra,Z,R,Y,rc,mc,U,hb,G,H,w,mcs,u,al,rfl,hlog,hrc,s,hdn,hdo⟩) fun D=>Tp (.t3 (.t0 (.t0 (.t0 .e)))) (Tk ?_)
  exact⟨(D,L),.refl _,Sb4,.refl _⟩
 clear hlog hrc s hdn hdo
 rintro⟨E,L2⟩ hL
 have hf1:(c.in1 m).Fit (b+3145900):=by
  unfold CA.in1;split
  ·exact JI hf a7
  ·exact hf.le (by omega)
 obtain⟨c1,b6⟩:∃x,x=c.in1 m:=⟨_,rfl⟩
 rw[<-b6]at hf1
 conv=>arg 4;dsimp only
 conv=>arg 5;dsimp only
 rw[<-b6]
 clear b6 hf hll hv0 hn0 hm0 a1
 obtain⟨c,e0⟩:∃x,x=c1:=⟨_,rfl⟩
 subst e0
 obtain⟨L0,b2⟩:∃x,x=L2:=⟨_,rfl⟩
 subst b2
 obtain⟨L,b2⟩:∃x,x=L0:=⟨_,rfl⟩
 subst b2
 have hll:=hf1.log;have hv0:=hf1.view;have hn0:=hf1.n;have hm0:=hf1.me
 have hlv:=hlv.le hL;have hdv:=hdv.le hL
 refine Ts (CP (fun((E,L2):N_×PL)=>[(0,Cr p),(4,Cr b4)]) (fun(E,L2)=>[cm E (Dr p L2 (c.in2 m l)),pool L2,blk b4 (.cells [.slice none 0 0,.slice none 0 0,.slice none 0 0].toArray 106 (0,0))]) (fun(E,L2)=>Le L L2) ?_ ?_)
 ·refine OA 8 ?_
  refine Cy rfl (fun M=>?_) (fun M=>?_)
  ·have e1:c.in2 m l=c.started m:=by unfold CA.in2;rw[Ah M]
   rw[e1]
   refine OA 3 ?_
   refine Oc rfl (en 225) rfl (.p0 (.p0 .d)) (Qg p E L c _ hf1 (by omega) m hmf _ _) ?_
   rintro _ _ ⟨rfl,L3,S3,I,rfl⟩
   refine Oi (YN (.t2 (.t2 (.t1 .e)))) ?_
   refine On ?_
   exact⟨(S3,L3),I,Sb2,.refl _⟩
  have e1:c.in2 m l=if m.kind=4/\m.view=c.keep.view/\c.changing=true/\l=c.me then CA.begin_ {c with dos:=aset m.from_ m c.dos}
   else if m.kind=5/\m.from_=l/\(c.keep.view<m.view∨c.changing=true)then (c.took m).send {CY 2 with to:=l,at_:=(c.took m).keep.log.length}
   else if m.kind=1/\m.view=c.keep.view/\c.changing=false/\m.from_=l then c.prep m
   else if m.kind=2/\m.view=c.keep.view/\c.leads=true then (c.counted m).count else c:=by unfold CA.in2;rw[Aa M]
  rw[e1]
  refine Cx (Cv.op (.p0 .d)) ?_
  rintro _ ⟨_,⟨X,ra,Z,R,Y,rc,mc,U,hb,G,H,w,mcs,u,al,rfl,hlog,hrc,s,hdn,hdo⟩,rfl⟩
  refine Tp (.t3 (.t3 (.t3 (.t3 (.t3 (.t3 (.t3 (.t0 (.t0 (.t0 .e)))))))))) (Ts (CQ 149 (m.kind=4/\m.view=c.keep.view/\c.changing=true/\l=c.me) ?_ ?_))
  ·refine Cw (.t (.s7 (.t .d))) rfl (fun j=>false) ?_
   intro a2
   refine DA [0,1,2,3] ?_
   refine Dy 153 rfl (fun f=>?_) (fun f=>?_)
   ·refine DA [4,5,6,7,8,9,10,11,12,13] ?_
    refine Dy 163 rfl (fun n=>?_) (fun n=>?_)
    ·refine DA [14,15,16,17,18,19] ?_
     refine Fo 169 rfl (fun B=>?_) (fun B=>?_)
     ·refine DA [20,21,22,23,24,25,26,27] ?_
      refine D0 ?_
      exact EW rfl (congrArg Value.bool (by first|simp[f,n,B]|simp[f,n]|simp[f]))
     refine DA [20,21,22,23,24,25,26,27] ?_
     refine D0 ?_
     exact EW rfl (congrArg Value.bool (by first|simp[f,n,B]|simp[f,n]|simp[f]))
    refine DA [14,15,16,17,18,19,20,21,22,23,24,25,26,27] ?_
    refine D0 ?_
    exact EW rfl (congrArg Value.bool (by first|simp[f,n,B]|simp[f,n]|simp[f]))
   refine DA [4,5,6,7,8,9,10,11,12,13,14,15,16,17,18,19,20,21,22,23,24,25,26,27] ?_
   refine D0 ?_
   exact EW rfl (congrArg Value.bool (by first|simp[f,n,B]|simp[f,n]|simp[f]))
  refine Cy rfl (fun N=>?_) (fun N=>?_)
  ·rw[Ah N]
   refine Ts (CS rfl (fun j=>Nat.beq j 7) ?_)
   refine DA [0,1,2,3,4,5,6] ?_
   refine Da 7 ?_
   refine D8 rfl (ZK (g:=gA) m.from_ (GL m (.slice xa m.list.length xc) (.slice ya m.data.length yc)) u103 u3) ?_
   refine D0 (Tx (YL (.p0 (.p0 (.p0 (.p0 (.p0 (.p0 (.p0 .d))))))) (A:=Dr p L {c with dos:=aset m.from_ m c.dos}) ⟨X,ra,Z,R,Y,rc,mc,U,hb,G,H,w,mcs,u,_,rfl,hlog,hrc,s,hdn,hdo.aset _ ⟨_,_,rfl,hlv,hdv⟩⟩) fun D=>OA 2 ?_)
   refine Oc rfl (en 166) rfl (.p3 (.p0 .d)) (MN p D L {c with dos:=aset m.from_ m c.dos} _ (HZ hf1 hmf.1 hmf.2 hm) (by omega)) ?_
   rintro _ _ ⟨rfl,L3,S3,I,rfl⟩
   refine Oi (YN (.t2 (.t2 (.t1 .e)))) ?_
   refine On ?_
   exact⟨(S3,L3),I,Sb2,.refl _⟩
  rw[Aa N]
  refine Ts (CQ 186 (m.kind=5/\m.from_=l/\(c.keep.view<m.view∨c.changing=true)) ?_ ?_)
  ·refine Cw (.t (.s7 (.t .d))) rfl (fun j=>false) ?_
   intro a2
   refine DA [0,1,2,3] ?_
   refine Dy 190 rfl (fun i=>?_) (fun i=>?_)
   ·refine DA [4,5,6,7,8,9] ?_
    refine Dy 196 rfl (fun o=>?_) (fun o=>?_)
    ·refine DA [10,11,12,13,14,15,16,17,18] ?_
     refine Dy 205 rfl (fun C=>?_) (fun C=>?_)
     ·refine DA [19,20,21,22,23,24,25] ?_
      refine D0 ?_
      exact EW rfl (congrArg Value.bool (by first|simp[i,o,C]|simp[i,o]|simp[i]))
     refine DA [19,20,21,22,23,24,25] ?_
     refine D0 ?_
     exact EW rfl (congrArg Value.bool (by first|simp[i,o,C]|simp[i,o]|simp[i]))
    refine DA [10,11,12,13,14,15,16,17,18,19,20,21,22,23,24,25] ?_
    refine D0 ?_
    exact EW rfl (congrArg Value.bool (by first|simp[i,o,C]|simp[i,o]|simp[i]))
   refine DA [4,5,6,7,8,9,10,11,12,13,14,15,16,17,18,19,20,21,22,23,24,25] ?_
   refine D0 ?_
   exact EW rfl (congrArg Value.bool (by first|simp[i,o,C]|simp[i,o]|simp[i]))
  refine Cy rfl (fun O=>?_) (fun O=>?_)
  ·rw[Ah O]
   refine OA 10 ?_
   have hfv:=LE hf1 a7.1 a7.2
   refine Tx (YL (.p0 (.p0 (.p0 (.p0 (.p0 (.p0 (.p0 .d))))))) (A:=Dr p L (c.newview m.view)) ⟨X,ra,Z,R,Y,rc,mc,U,hb,G,H,w,mcs,u,al,rfl,hlog,hrc,s,hdn,hdo⟩) fun D=>OA 5 ?_
   refine Oc rfl (en 208) rfl (.p3 (.p0 .d)) (MX p D L (c.newview m.view) _ hfv m.list (by omega) hml hme _ hlv) ?_
   rintro _ _ ⟨rfl,L3,S3,I,rfl⟩
   refine On ?_
   have hfa:=IR hfv m.list hme hml
   have htk:c.took m=((c.newview m.view).adopt m.list).reach m.commit:=rfl
   rw[htk]
   clear hlog hrc s hdn hdo htk
   obtain⟨d,hd⟩:∃x,x=(c.newview m.view).adopt m.list:=⟨_,rfl⟩
   rw[<-hd]at hfa ⊢
   have hdl:=hfa.log
   refine Cx (Cv.op (.p2 .d)) ?_
   rintro _ ⟨_,⟨X,ra,Z,R,Y,rc,mc,U,hb,G,H,w,mcs,u,al,rfl,hlog,hrc,s,hdn,hdo⟩,rfl⟩
   refine Tp (.t3 (.t3 (.t3 (.t3 (.t3 (.t3 (.t3 (.t2 (.t0 (.t0 .e)))))))))) (OA 5 ?_)
   refine Oc rfl (en 163) rfl (.p0 (.p5 (.p5 .d))) (HP p L3 d X Y hb G H _ _ R U u _ hfa (by omega) m.commit hlog hdn) ?_
   rintro _ _ ⟨rfl,L4,d8,d9,c6,y,V,rfl⟩
   refine On ?_
   have hfr:=FK hfa m.commit
   obtain⟨j1,j2,j3,j4,j5,j6, -⟩:=FP d m.commit
   obtain⟨e,he⟩:∃e,e=d.reach m.commit:=⟨_,rfl⟩
   rw[<-he]at hfr j1 j2 j3 j4 j5 j6 V ⊢
   have hel:=hfr.log
   rw[<-j6]at s
   rw[<-j6]
   refine OA 10 ?_
   refine Oc rfl (en 162) rfl (.p7 (.p4 .d)) (Ea p e _ hb G H _ _ Z mc mcs _ hfr (by omega) {CY 2 with to:=l,at_:=e.keep.log.length} none none 0 0 0 0) ?_
   rintro _ _ ⟨rfl,a8,a9,rfl⟩
   refine CL (YL (.p8 (.p0 (.p0 (.p0 (.p0 (.p4 (.p2 .d))))))) (A:=Dr p L4 (e.send {CY 2 with to:=l,at_:=e.keep.log.length})) (Dr.of rfl j2 j3 j4 j5 rfl rfl (by rw[j1];exact hlog.le y) (hrc.mono fun _ _ h=>h.le y) ((s.snoc ⟨_,_,rfl,EI.nil _,Zp _⟩).mono fun _ _ h=>Gu.le y h) V (hdo.mono fun _ _ h=>h.le y))) ?_
   rintro _ ⟨S5,rfl⟩
   refine Oi (YN (.t3 (.t2 (.t1 .e)))) ?_
   refine On ?_
   exact⟨(S5,L4),I.trans y,Sb2,.refl _⟩
  rw[Aa O]
  refine Ts (CQ 236 (m.kind=1/\m.view=c.keep.view/\c.changing=false/\m.from_=l) ?_ ?_)
  ·refine Cw (.t (.s7 (.t .d))) rfl (fun j=>false) ?_
   intro a2
   refine DA [0,1,2,3] ?_
   refine Dy 240 rfl (fun k=>?_) (fun k=>?_)
   ·refine DA [4,5,6,7,8,9,10,11,12,13] ?_
    refine Dy 250 rfl (fun q=>?_) (fun q=>?_)
    ·refine DA [14,15,16,17,18,19,20] ?_
     refine Fo 257 rfl (fun r=>?_) (fun r=>?_)
     ·refine DA [21,22,23,24,25,26] ?_
      refine D0 ?_
      exact EW rfl (congrArg Value.bool (by first|simp at r;simp[k,q,r]|simp[k,q]|simp[k]))
     refine DA [21,22,23,24,25,26] ?_
     refine D0 ?_
     exact EW rfl (congrArg Value.bool (by first|simp at r;simp[k,q,r]|simp[k,q]|simp[k]))
    refine DA [14,15,16,17,18,19,20,21,22,23,24,25,26] ?_
    refine D0 ?_
    exact EW rfl (congrArg Value.bool (by first|simp at r;simp[k,q,r]|simp[k,q]|simp[k]))
   refine DA [4,5,6,7,8,9,10,11,12,13,14,15,16,17,18,19,20,21,22,23,24,25,26] ?_
   refine D0 ?_
   exact EW rfl (congrArg Value.bool (by first|simp at r;simp[k,q,r]|simp[k,q]|simp[k]))
  refine Cy rfl (fun P=>?_) (fun P=>?_)
  ·rw[Ah P]
   refine Tx (YL (.p0 (.p0 (.p0 (.p0 (.p0 (.p0 (.p0 .d))))))) (A:=Dr p L c) ⟨X,ra,Z,R,Y,rc,mc,U,hb,G,H,w,mcs,u,al,rfl,hlog,hrc,s,hdn,hdo⟩) fun D=>OA 3 ?_
   refine Oc rfl (en 226) rfl (.p3 (.p0 .d)) (XO p D L c _ hf1 (by omega) m hm ⟨c7,hat⟩ _ _ hlv hdv) ?_
   rintro _ _ ⟨rfl,L3,S3,I,rfl⟩
   refine Oi (YN (.t2 (.t2 (.t1 .e)))) ?_
   refine On ?_
   exact⟨(S3,L3),I,Sb2,.refl _⟩
  rw[Aa P]
  refine Ts (CQ 266 (m.kind=2/\m.view=c.keep.view/\c.leads=true) ?_ ?_)
  ·refine Cw (.t (.s7 (.t .d))) rfl (fun j=>false) ?_
   intro a2
   refine DA [0,1,2,3] ?_
   refine Dy 270 rfl (fun t=>?_) (fun t=>?_)
   ·refine DA [4,5,6,7,8,9,10,11,12,13] ?_
    refine Dy 280 rfl (fun F=>?_) (fun F=>?_)
    ·refine D1 14 rfl DC ?_
     refine Da 15 ?_
     refine DB rfl rfl (en 104) rfl (.p0 .d) (Ls p c _ hb G H _ _ _ _ hf1) ?_
     rintro _ _ ⟨rfl,rfl⟩
     refine ys (Di (YN (.t9 (.t0 (.t0 (.t0 (.t0 (.t0 (.t0 (.t0 (.t0 (.t0 .e))))))))))) ?_)
     refine DA [16,17] ?_
     refine D0 ?_
     exact EW rfl (congrArg Value.bool (by first|simp[t,F]|simp[t]))
    refine DA [14,15,16,17] ?_
    refine D0 ?_
    exact EW rfl (congrArg Value.bool (by first|simp[t,F]|simp[t]))
   refine DA [4,5,6,7,8,9,10,11,12,13,14,15,16,17] ?_
   refine D0 ?_
   exact EW rfl (congrArg Value.bool (by first|simp[t,F]|simp[t]))
  refine Cy rfl (fun Q=>?_) (fun Q=>?_)
  ·rw[Ah Q]
   refine Ts (Cw (.t (.t (.s6 (.t .d)))) rfl (fun j=>Nat.beq j 23) ?_)
   intro a2
   refine DA [0,1,2,3,4,5,6,7,8,9,10,11] ?_
   refine D1 12 rfl (YK (ZF (z:=Cs 0) m.from_ u96 u3) EB) ?_
   refine DA [13,14,15,16,17,18,19,20] ?_
   refine D1 21 rfl (Zo rfl rfl rfl) ?_
   refine D1 22 rfl (Zq rfl rfl rfl) ?_
   refine Da 23 ?_
   refine D8 rfl (ZK (g:=gI) m.from_ (max ((alk m.from_ c.has).getD 0) (min m.at_ c.keep.log.length)) u96 u3) ?_
   refine D0 ?_
   have hfc:=LU hf1 c7
   refine OA 2 ?_
   refine Oc rfl (en 109) rfl (.p0 (.p0 (.p4 (.p4 .d)))) (HD p L (c.counted m) X Y hb G H _ _ R U u _ hfc (by omega) hlog hdn) ?_
   rintro _ _ ⟨rfl,L4,d8,d9,c6,y,V,rfl⟩
   obtain⟨i1,i2,i3,i4,i5,i6, -⟩:=FQ (c.counted m)
   refine CL (YL (.p7 (.p6 (.p0 (.p0 (.p0 (.p0 (.p2 .d))))))) (A:=Dr p L4 (c.counted m).count) (Dr.of rfl i2 i3 i4 i5 i6 rfl (by rw[i1];exact hlog.le y) (hrc.mono fun _ _ h=>h.le y) (s.mono fun _ _ h=>h.le y) V (hdo.mono fun _ _ h=>h.le y))) ?_
   rintro _ ⟨S4,rfl⟩
   refine Oi (YN (.t3 (.t2 (.t1 .e)))) ?_
   refine On ?_
   exact⟨(S4,L4),y,Sb2,.refl _⟩
  rw[Aa Q]
  refine Tx (YL (.p0 (.p0 (.p0 (.p0 (.p0 (.p0 (.p0 .d))))))) (A:=Dr p L c) ⟨X,ra,Z,R,Y,rc,mc,U,hb,G,H,w,mcs,u,al,rfl,hlog,hrc,s,hdn,hdo⟩) fun D=>Tp (.t3 (.t0 (.t1 .e))) (Tk ?_)
  exact⟨(D,L),.refl _,Sb2,.refl _⟩
 rintro⟨E,L2⟩ b5
 conv=>arg 4;dsimp only
 conv=>arg 5;dsimp only
 generalize c.in2 m l=d
 refine OA 3 ?_
 refine Oc rfl (en 113) rfl (.p0 (.p0 .d)) (Hj p E L2 d) ?_
 rintro _ _ ⟨S5,_,⟨c4,a8,b0,c5,a9,b1,a6,a5,a0,rfl,rfl,b9,b8,b7⟩,rfl⟩
 refine OA 2 ?_
 refine Tp (.t1 (.t1 (.t1 (.t1 (.t1 (.t0 .e)))))) ?_
 exact Cu (Em u106 (Bk _ [_]) ⟨L2,S5,_,hL.trans b5,⟨c4,a8,b0,c5,a9,b1,a6,a5,a0,rfl,rfl,b9,b8,b7⟩,rfl⟩)
theorem Cv.to{w0:World}{b_:N_}{h:Mem}(h':Mem)(p:Pk h h':=by repeat (first|exact .e|(apply Pk.t;focus (repeat (first|exact .t .d|apply DM.s))))):Cv w0 b_ h fun q=>q=h':=YN p
theorem ED{α β:Type}{g:α->List β}{s:Nat}(hg:∀x,(g x).length=s):∀ {xs:List α} {i:Nat} {x:α},xs[i]? =some x->∀k u,(g x)[k]? =some u->(xs.flatMap g)[i*s+k]? =some u
 |[],_,_,h,_,_,_=>by cases h
 |y::ys,0,x,h,k,u,hk=>by
  cases h
  rw[Nat.zero_mul,AE,Az,Bh (Ab.1 hk).1];exact hk
 |y::ys,i+1,x,h,k,u,hk=>by
  rw[Az,Bl (by rw[hg,Nat.succ_mul];omega),hg,show(i+1)*s+k-s=i*s+k by rw[Nat.succ_mul];omega]
  exact ED hg (xs:=ys) h k u hk
theorem Ft{α β:Type}{g:α->List β}{s:Nat}(hg:∀x,(g x).length=s):∀xs:List α,(xs.flatMap g).length=xs.length*s
 |[]=>by simp
 |x::xs=>by rw[Az,Ac,hg,Ft hg xs,Am,Nat.succ_mul];omega
def Dx{α:Type}(L:PL)(v:Value)(g:α->V_)(xs:List α):Prop:=PSl L v xs.length (xs.flatMap g)
section
variable {α:Type}{L L':PL}{v:Value}{g:α->V_}{xs:List α}
theorem Dx.le(k:Le L L')(h:Dx L v g xs):Dx L' v g xs:=PSl.le k h
theorem Dx.sh(h:Dx L v g xs):∃a c,v= .slice a xs.length c/\xs.length<=c/\xs.length<=maxLen:=by
 obtain⟨a,c,e,h1,h2,_⟩:=h
 exact⟨a,c,e,h1,h2⟩
theorem Dx.nil(L:PL)(g:α->V_):Dx L (.slice none 0 0) g []:=⟨none,0,rfl,Al _,Af _,fun i u h=>by cases h⟩
theorem Dx.rd{a:A_}{c:Nat}(h:Dx L (.slice a xs.length c) g xs):Reads (pool L) a (xs.flatMap g):=Reads.pool h
end
def Cl(P:Program)(b:Value)(vs:V_)(a:Mem)(R:Value->Mem->Prop):Prop:=∃f bs cs,b= .func (.func f) (List.toArray bs) (List.toArray cs)/\Fc P f/\Sp P f (bs++vs++cs) a R
section
variable {P:Program}{n:Nat}{w0:World}{b_:N_}{l:Dh}{h hs:Mem}{o:Oper}{v:Value}
theorem Qa2{f:Fn}{xs ys:List Operand}{us vs:V_}(ho:o.op= .makeFunc f xs.toArray ys.toArray)(b:xs.map (ev l)=us.map some)(hv:ys.map (ev l)=vs.map some):Ct P n w0 b_ hs l o (.func f us.toArray vs.toArray):=
 Ct.of (s:=Instr.makeFunc f us.toArray vs.toArray) (fun c hf=>by unfold execOp;simp only[ho,Fg hf hv,Fg hf b]) fun _ _=>rfl
theorem LO.cl{x:Operand}{ys:List Operand}{ts:Array TypeId}{d:Value}{vs:V_}{R:Value->Mem->Prop}{a b:Mem}(ho:o.op= .call {callee:=.value x,args:=ys.toArray,argTypes:=ts})(hx:ev l x=some d)(hv:ys.map (ev l)=vs.map some)
  (hs:Ps h a b) (hg:Cl P d vs a R):LO P n w0 b_ h l o fun u h'=>∃h1,R u h1/\h'=b++h1:=by
 obtain⟨f,bs,cs,rfl,hc,hg⟩:=hg
 refine Qao (f:=f) (vs:=bs++vs++cs) (fun e hf w=>?_) fun w c=>
  Calls.mono (hg w (c.lendP hs)) fun _ _ ⟨v,h1,he,hR,ho1⟩=>⟨v,b++h1,he,⟨h1,hR,rfl⟩,c.calledP hs ho1⟩
 unfold execOp
 simp only[ho,resolve,Fg hf hv,hf.eval hx]
 show(invoke (.fn (.func f) cs.toArray) (bs.toArray++vs.toArray)).run P w=_
 have:=hc (bs++vs++cs).toArray w
 simpa [invoke] using this
end
theorem Sp.frame{P:Program}{f:FuncId}{vs:V_}{h a b:Mem}{R:Value->Mem->Prop}(s:Ps h a b)(hg:Sp P f vs a R):Sp P f vs h fun v h'=>∃h1,R v h1/\h'=b++h1:=fun w ho=>
 Calls.mono (hg w (ho.lendP s)) fun _ _ ⟨v,h1,he,hR,ho1⟩=>⟨v,b++h1,he,⟨h1,hR,rfl⟩,ho.calledP s ho1⟩
theorem Sp.imp{P:Program}{f:FuncId}{vs:V_}{a:Mem}{R R':Value->Mem->Prop}(hg:Sp P f vs a R)(hi:∀w0 b_ v h,R v h->Cv w0 b_ h (R' v)):Sp P f vs a R':=fun w ho=>
 Calls.mono (hg w ho) fun _ _ ⟨v,h1,he,hR,ho1⟩=>by obtain⟨h2,k1,k2⟩:=hi _ _ v h1 hR _ ho1;exact⟨v,h2,he,k1,k2⟩
def Uq{α:Type}(q:α->Bool):Int->List α->Int
 |_,[]=> -1
 |i,x::xs=>if q x then i else Uq q (i+1) xs
theorem Mw{α:Type}(q:α->Bool):∀(xs:List α) (i:Int),0<=i->decide (0<=Uq q i xs)=xs.any q
 |[],i,h=>by simp[Uq]
 |x::xs,i,h=>by
  unfold Uq
  cases hq:q x
  ·simp only[Bool.false_eq_true,if_false,List.any_cons,hq,Bool.false_or];exact Mw q xs (i+1) (by omega)
  ·simp[hq,h]
theorem Nj{α:Type}{q:α->Bool}{xs:List α}{i:Nat}{x:α}(h:xs[i]? =some x):Uq q i (xs.drop i)=if q x then (i:Int)else Uq q (i+1) (xs.drop (i+1)):=by
 have hl:=(Ab.1 h).1
 rw[Ay hl,(Ab.1 h).2];rfl
def Tst{α:Type}(P:Program)(c:Value)(g:α->Value)(L:PL)(A:Mem->Prop)(q:α->Bool)(x:α):Prop:=∀S,Cl P c [g x] [pool L,cm S A] fun v h=>v= .bool (q x)/\∃b,h=[pool L,cm b A]

import Derived.ArgAppend
import Derived.Test.YtheoifhidoofbaaGreatDoorM02
set_option maxRecDepth 100000
set_option maxHeartbeats 2000000
namespace Go.Cru
open Go Go.Proofs
open Go.Proofs.Tryz renaming prog→P0
def CC.numL:Nat->CC->Nat->Option Nat×CC
 |0,r,_=>(none,r)
 |k+1,r,n=>
  if(r.get 1).1≠0 then (some n,(r.get 1).2)
  else if(r.get 1).2.bad≠0 then (none,(r.get 1).2)
  else if 64<n+1 then (none,(r.get 1).2.fail 11)
  else CC.numL k (r.get 1).2 (n+1)
def CC.numE(r:CC)(n:Nat):Nat×CC:=
 if n=64 then
  if(r.get 64).1≠0 then (0,(r.get 64).2.fail 11)else if(r.get 64).2.bad≠0 then (0,(r.get 64).2)else (18446744073709551615,(r.get 64).2)
 else if(r.get n).2.bad≠0 then (0,(r.get n).2)else ((2 ^ n|||(r.get n).1)-1,(r.get n).2)
def CC.num(r:CC):Nat×CC:=
 match CC.numL 65 r 0 with
 |(none,r1)=>(0,r1)
 |(some n,r1)=>r1.numE n
theorem CC.numL_le:∀(k:Nat) (r:CC) (n m:Nat),n+k<=65->(CC.numL k r n).1=some m->m<=64
 |0,r,n,m,_,h=>by cases h
 |k+1,r,n,m,hk,h=>by
  unfold CC.numL at h
  split at h
  ·cases h;omega
  ·split at h
   ·cases h
   ·split at h
    ·cases h
    ·exact CC.numL_le k _ (n+1) m (by omega) h
theorem QaK:∀(k:Nat) (r:CC) (n:Nat),r.Ok->(CC.numL k r n).2.Ok
 |0,r,n,h=>h
 |k+1,r,n,h=>by
  unfold CC.numL
  have h1:=ZE h 1
  split
  ·exact h1
  ·split
   ·exact h1
   ·split
    ·exact Qay h1 _
    ·exact QaK k _ _ h1
theorem CC.numE_ok{r:CC}(h:r.Ok)(n:Nat):(r.numE n).2.Ok:=by
 unfold CC.numE
 have h1:=ZE h 64
 have h2:=ZE h n
 repeat' split
 all_goals first|exact Qay h1 _|exact h1|exact h2
theorem CC.num_ok{r:CC}(h:r.Ok):r.num.2.Ok:=by
 unfold CC.num
 have:=QaK 65 r 0 h
 split
 ·rename_i r1 e;rw[e]at this;exact this
 ·rename_i n r1 e;rw[e]at this;exact CC.numE_ok this n
theorem CC.numE_lt{r:CC}{n:Nat}(hn:n<=64):(r.numE n).1<18446744073709551616:=by
 unfold CC.numE
 have:=r.get_lt n
 repeat' split
 all_goals first|(show(0:Nat)<_;decide)|(show 18446744073709551615<_;decide)|skip
 rename_i h _
 have h1:2 ^ n<18446744073709551616:=by
  have:2 ^ n<=2 ^ 63:=BN (by decide) (by omega)
  omega
 have:=SV h1 this
 show(2 ^ n|||(r.get n).1)-1<_
 omega
theorem Qaj(r:CC):r.num.1<18446744073709551616:=by
 unfold CC.num
 split
 ·show(0:Nat)<_;decide
 ·rename_i n r1 e;exact CC.numE_lt (CC.numL_le 65 r 0 n (by omega) (by rw[e]))
def zag(x:Nat):Int:=KV .i64 (Pj (GN x 1 .u64)) (Pj (0-Pj (Fx .u64 x 1)))
def CC.int(r:CC):Int×CC:=(zag r.num.1,r.num.2)
def CC.tail(r:CC):Nat:=r.b.getD (r.b.length-1) 0&&&(2 ^ r.left.toNat-1)
def CC.end_(r:CC):Int:=if r.bad=0 then if 7<r.left∨0<r.left/\r.tail≠0 then 12 else 0 else r.bad
theorem JU(p:Nat)(ao:A_)(cap:Nat)(r:CC)(hr:r.Ok)(n:Nat)(hn:n<=64):
  Sp P0 142 [Cr p,Cs n] (Oa p ao cap r) fun v h=>v= .int .u64 (r.get n).1/\h=Oa p ao cap (r.get n).2:=by
 have h1:=hr.len
 refine Sq Tryz.func142 fun w0 b_=>?_
 refine OA 7 ?_
 refine O1 (Zq rfl rfl rfl) ?_
 refine O1 (YT (y:=(n:Int)) (Zo rfl rfl rfl) (by omega)) ?_
 refine OA 6 ?_
 refine O8 (YP rfl (en 144) rfl (.t (.t .d)) (Ph p ao cap r hr)) ?_
 refine OA 3 ?_
 refine Cy rfl (fun b=>?_) (fun b=>?_)
 ·refine OA 3 ?_
  refine O8 (YP rfl (en 143) rfl (.t (.t .d)) (HH p ao cap r 10)) ?_
  refine OA 2 ?_
  exact Cu (CB rfl rfl (.refl _) (by rw[CC.get,Ah b];exact⟨rfl,rfl⟩))
 have hl:r.at_+n<=8*r.b.length:=by
  have h2:=hr.at_
  by_cases hb:r.bad=0
  ·simp only[CC.left,hb,if_true]at b;omega
  ·simp only[CC.left,hb,if_false]at b;omega
 rw[CC.get,Aa b]
 refine OA 12 ?_
 refine CD (fun((i,x,r'):Nat×Nat×CC)=>[(0,Cr p),(5,.int .u64 x),(15,Cs n),(16,Cs i)]) (fun(_,_,r')=>[blk p (.cells [.slice ao r.b.length cap,Cs r'.at_,Cs r.bad].toArray 244 (0,0)),sq ao r.b.length cap 5 1 (r.b.map u8)]) (fun(i,x,r')=>i<=n/\x<18446744073709551616/\r'.b=r.b/\r'.bad=r.bad/\r'.at_=r.at_+i/\r'.bits x (n-i)=r.bits 0 n) (fun(i,_)=>n-i) (0,0,r) ?_ ?_
 ·exact⟨⟨by omega,by decide,rfl,rfl,rfl,rfl⟩,Sb4,.refl _⟩
 rintro⟨i,x,r'⟩ ⟨hi,hx,hb,hd,ha,he⟩
 conv=>arg 7;dsimp only
 conv=>arg 8;dsimp only
 refine OA 5 ?_
 refine Cy rfl (fun e=>?_) (fun e=>?_)
 ·refine OA 4 ?_
  refine CO (fun w hw=>hw.sqNN at1 (by omega)) fun⟨g,hg⟩=>?_
  subst hg
  have c:(r.b.map u8)[r'.at_/8]? =some (u8 (r.b.getD (r'.at_/8) 0)):=Ez (by omega)
  have hc:=hr.byt.getD (r'.at_/8)
  have hq:r.b.getD (r'.at_/8) 0/2 ^ (7-r'.at_%8)<256:=BA (Nat.div_le_self _ _) hc
  refine CS rfl (fun j=>false) ?_
  refine D1 0 rfl DC ?_
  refine D1 1 rfl (YT (ZZ rfl rfl rfl (by omega)) (JX (x:=x) (i:=1) (by decide))) ?_
  refine DA [2,3,4,5,6,7,8,9] ?_
  refine D1 10 rfl (YT (Zy rfl rfl rfl (by omega)) (DF (x:=r'.at_) (i:=3) (by decide))) ?_
  refine D1 11 rfl (Km (r'.at_/8) u53) ?_
  refine D1 12 rfl (YV u5 c) ?_
  refine DA [13,14,15,16] ?_
  refine D1 17 rfl (YT (Za rfl rfl rfl) (and7i (x:=r'.at_) (by omega))) ?_
  refine D1 18 rfl (YT (y:=((7-r'.at_%8:Nat):Int)) (Ct.sub rfl rfl rfl (by omega) (by omega)) (by omega)) ?_
  refine D1 19 rfl (YT (Zy rfl rfl rfl (by omega)) (DF (show 7-r'.at_%8<=8 by omega))) ?_
  refine D1 20 rfl (YT (Za rfl rfl rfl) (and1_8 hq)) ?_
  refine D1 21 rfl (Zw rfl rfl u5 u22 (u64_lt (by omega))) ?_
  refine D1 22 rfl (YT (Qaw rfl rfl rfl) (VG (By _ (by decide)) (by omega))) ?_
  refine D1 23 rfl FC ?_
  refine OA 15 ?_
  have d:r'.bit=r.b.getD (r'.at_/8) 0/2 ^ (7-r'.at_%8)%2:=by rw[CC.bit,hb]
  refine⟨(i+1,x*2%18446744073709551616|||r'.bit,r'.next),⟨⟨by omega,SV (By _ (by decide)) (by have:=r'.bit_lt;omega),hb,hd,by simp only[CC.next];omega,?_⟩,⟨rfl,Dd rfl (by rw[d]),rfl,rfl,trivial⟩,.refl _⟩,by simp only;omega⟩
  rw[<-he,show n-i=n-(i+1)+1 from by omega]
  rfl
 have f:i=n:=by omega
 subst f
 rw[Cb]at he
 refine OA 6 ?_
 exact Cu (CB rfl rfl (.refl _) (by rw[<-he];refine⟨rfl,?_⟩;simp only[Oa,CC.bits,hb,hd]))
theorem IX(p:Nat)(ao:A_)(cap:Nat)(r:CC)(hr:r.Ok):
  Sp P0 82 [Cr p] (Oa p ao cap r) fun v h=>v= .int .u64 r.num.1/\h=Oa p ao cap r.num.2:=by
 refine Sq Tryz.func82 fun w0 b_=>?_
 refine OA 10 ?_
 refine CD (fun((n,r'):Nat×CC)=>[(0,Cr p),(2,.int .u64 0),(3,Cs n)]) (fun(_,r')=>Oa p ao cap r') (fun(n,r')=>n<=64/\r'.Ok/\CC.numL (65-n) r' n=CC.numL 65 r 0) (fun(n,_)=>64-n) (0,r) ?_ ?_
 ·exact⟨⟨by omega,hr,rfl⟩,Sb3,.refl _⟩
 rintro⟨n,r'⟩ ⟨hn,g,he⟩
 conv=>arg 7;dsimp only
 conv=>arg 8;dsimp only
 rw[show 65-n=(64-n)+1 from by omega,CC.numL]at he
 refine OA 4 ?_
 refine O8 (YP rfl (en 142) rfl (.t (.t .d)) (JU p ao cap r' g 1 (by decide))) ?_
 refine OA 2 ?_
 refine Cy rfl (fun o=>?_) (fun o=>?_)
 ·rw[Aa (show ¬(r'.get 1).1≠0 by omega)]at he
  refine OA 11 ?_
  refine CH rfl (fun e=>?_) (fun e=>?_)
  ·rw[Ah e]at he
   refine OA 4 ?_
   exact Cu (CB rfl rfl (.refl _) (by rw[CC.num,<-he];exact⟨rfl,rfl⟩))
  rw[Aa (show ¬(r'.get 1).2.bad≠0 by omega)]at he
  refine OA 12 ?_
  refine Cy rfl (fun k=>?_) (fun k=>?_)
  ·rw[Ah (show 64<n+1 by omega)]at he
   refine OA 3 ?_
   refine O8 (YP rfl (en 143) rfl (.t (.t .d)) (HH p ao cap (r'.get 1).2 11)) ?_
   refine OA 2 ?_
   exact Cu (CB rfl rfl (.refl _) (by rw[CC.num,<-he];exact⟨rfl,rfl⟩))
  rw[Aa (show ¬64<n+1 by omega)]at he
  refine Tk ?_
  exact⟨(n+1,(r'.get 1).2),⟨⟨by omega,ZE g 1,by rw[<-he,show 65-(n+1)=64-n from by omega]⟩,Sb3,.refl _⟩,by simp only;omega⟩
 rw[Ah (show(r'.get 1).1≠0 by omega)]at he
 have d:r.num=(r'.get 1).2.numE n:=by rw[CC.num,<-he]
 rw[d]
 have hok:=ZE g 1
 obtain⟨q,hq⟩:∃q,q=(r'.get 1).2:=⟨_,rfl⟩
 rw[<-hq]at hok ⊢
 clear d he hq
 refine OA 7 ?_
 refine Cy rfl (fun l=>?_) (fun l=>?_)
 ·obtain rfl:n=64:=by omega
  rw[CC.numE,Ah rfl]
  refine OA 4 ?_
  refine O8 (YP rfl (en 142) rfl (.t (.t .d)) (JU p ao cap q hok 64 (by decide))) ?_
  refine OA 7 ?_
  refine CH rfl (fun m=>?_) (fun m=>?_)
  ·rw[Ah (show(q.get 64).1≠0 by omega)]
   refine OA 3 ?_
   refine O8 (YP rfl (en 143) rfl (.t (.t .d)) (HH p ao cap (q.get 64).2 11)) ?_
   refine OA 2 ?_
   exact Cu (Rr ⟨rfl,rfl⟩)
  rw[Aa (show ¬(q.get 64).1≠0 by omega)]
  refine OA 10 ?_
  refine CH rfl (fun b=>?_) (fun b=>?_)
  ·refine OA 4 ?_
   exact Cu (CB rfl rfl (.refl _) (by rw[Ah b];exact⟨rfl,rfl⟩))
  refine OA 5 ?_
  exact Cu (CB rfl rfl (.refl _) (by rw[Aa (fun h=>h b)];exact⟨rfl,rfl⟩))
 have j:n≠64:=by omega
 rw[CC.numE,Aa j]
 refine OA 5 ?_
 refine O8 (YP rfl (en 142) rfl (.t (.t .d)) (JU p ao cap q hok n hn)) ?_
 refine OA 11 ?_
 refine CH rfl (fun c=>?_) (fun c=>?_)
 ·refine OA 4 ?_
  exact Cu (CB rfl rfl (.refl _) (by rw[Ah c];exact⟨rfl,rfl⟩))
 refine OA 2 ?_
 have hgl:=q.get_lt n
 have f:2 ^ n<18446744073709551616:=by
  have:2 ^ n<=2 ^ 63:=BN (by decide) (by omega)
  omega
 have s:0<2 ^ n:=Nat.two_pow_pos n
 have hle:2 ^ n<=2 ^ n|||(q.get n).1:=Nat.left_le_or
 have hor:=SV f hgl
 refine OA 2 ?_
 refine O1 (YT (y:=((2 ^ n:Nat):Int)) (ZZ rfl rfl rfl (by omega)) ((JX (x:=1) (i:=n) (by omega)).trans (by rw[Nat.one_mul,Cp f]))) ?_
 refine O1 DC ?_
 refine O1 (YT (Qaw rfl rfl rfl) (VG f hgl)) ?_
 refine O1 (YT (y:=(((2 ^ n|||(q.get n).1)-1:Nat):Int)) (ZM rfl rfl rfl) (by rw[DJ (by omega) (by omega)];omega)) ?_
 refine OA 2 ?_
 exact Cu (CB rfl rfl (.refl _) (by rw[Aa (fun h=>h c)];exact⟨rfl,rfl⟩))
theorem Xh(p:Nat)(ao:A_)(cap:Nat)(r:CC)(hr:r.Ok):
  Sp P0 93 [Cr p] (Oa p ao cap r) fun v h=>v= Cs r.int.1/\h=Oa p ao cap r.int.2:=by
 refine Sq Tryz.func93 fun w0 b_=>?_
 refine OA 7 ?_
 refine O8 (YP rfl (en 82) rfl (.t (.t .d)) (IX p ao cap r hr)) ?_
 refine OA 5 ?_
 refine O1 (Zy rfl rfl rfl (by omega)) ?_
 refine OA 2 ?_
 refine O1 (Za rfl rfl rfl) ?_
 refine O1 (Ze rfl rfl u22 u3) ?_
 refine O1 (Ct.negG rfl rfl) ?_
 refine O1 (Qbd rfl rfl rfl) ?_
 refine OA 2 ?_
 exact Cu (Rr ⟨rfl,rfl⟩)
theorem Pv(p:Nat)(ao:A_)(cap:Nat)(r:CC)(hr:r.Ok):
  Sp P0 83 [Cr p] (Oa p ao cap r) fun v h=>v= Cs r.end_/\h=Oa p ao cap r:=by
 refine Sq Tryz.func83 fun w0 b_=>?_
 refine OA 13 ?_
 refine CH rfl (fun l=>?_) (fun l=>?_)
 ·refine OA 8 ?_
  exact Cu (CB rfl rfl (.refl _) ⟨by rw[CC.end_,Aa l],rfl⟩)
 refine OA 5 ?_
 refine O8 (YP rfl (en 144) rfl (.t (.t .d)) (Ph p ao cap r hr)) ?_
 refine OA 2 ?_
 have hb:r.bad=0:=by omega
 have m:r.left=8*(r.b.length:Int)-r.at_:=by rw[CC.left,Ah hb]
 have h1:=hr.len
 have h2:=hr.at_
 obtain⟨L,hL⟩:∃L:Nat,r.left=L:=⟨r.left.toNat,by omega⟩
 have e:r.tail=r.b.getD (r.b.length-1) 0&&&(2 ^ L-1):=by rw[CC.tail,hL];rfl
 have c:r.end_=if 7<(L:Int)∨0<(L:Int)/\r.tail≠0 then 12 else 0:=by unfold CC.end_;rw[Ah hb,hL]
 rw[hL]
 refine Ts (CQ 39 (7<(L:Int)∨0<(L:Int)/\r.tail≠0) ?_ ?_)
 ·refine CS rfl (fun j=>false) ?_
  refine DA [0,1,2] ?_
  refine Dy 17 rfl (fun f=>?_) (fun f=>?_)
  ·refine DA [3,4,5,6,7,8,9,10,11,12,13,14,15,16,17,18,19,20,21,22,23,24] ?_
   refine D0 ?_
   exact Ex
  refine DA [3,4,5] ?_
  refine Dy 20 rfl (fun k=>?_) (fun k=>?_)
  ·refine DA [6,7,8,9,10,11,12,13,14,15] ?_
   refine JW (fun w hw=>hw.sqNN at1 (by omega)) fun⟨g,hg⟩=>?_
   subst hg
   have d:(r.b.map u8)[r.b.length-1]? =some (u8 (r.b.getD (r.b.length-1) 0)):=Ez (by omega)
   have n:2 ^ L<=2 ^ 7:=BN (by decide) (by omega)
   have hp0:0<2 ^ L:=Nat.two_pow_pos L
   refine D1 16 rfl (Zj (r.b.length-1) rfl rfl rfl u53 rfl (by omega) (by omega)) ?_
   refine D1 17 rfl (YV u5 d) ?_
   refine D1 18 rfl DC ?_
   refine D1 19 rfl (YT (ZZ rfl rfl rfl (by omega)) (WE (x:=1) (i:=L) (by omega) (by omega))) ?_
   refine D1 20 rfl (YT (y:=((2 ^ L-1:Nat):Int)) (ZM rfl rfl rfl) (by rw[EM];omega)) ?_
   refine D1 21 rfl (YT (y:=((r.tail:Nat):Int)) (Za rfl rfl rfl) ((VP (hr.byt.getD _) (by omega)).trans (by rw[e]))) ?_
   refine DA [22,23,24] ?_
   refine D0 ?_
   exact Ex
  refine DA [6,7,8,9,10,11,12,13,14,15,16,17,18,19,20,21,22,23,24] ?_
  refine D0 ?_
  exact Ex
 refine Cy rfl (fun b=>?_) (fun b=>?_)
 ·refine OA 4 ?_
  exact Cu (CB rfl rfl (.refl _) ⟨by rw[c,Ah b],rfl⟩)
 refine OA 5 ?_
 exact Cu (CB rfl rfl (.refl _) ⟨by rw[c,Aa b],rfl⟩)
def Ia(x:Int):List Int:=[IntKind.u8.wrap (GN x 24 .u32),IntKind.u8.wrap (GN x 16 .u32),IntKind.u8.wrap (GN x 8 .u32),IntKind.u8.wrap x]
def FE(x:Int):N_:=(Ia x).map Int.toNat
theorem VR(x:Int):((IntKind.u8.wrap x).toNat:Int)=IntKind.u8.wrap x:=by rw[EM];omega
theorem fourN_u8(x:Int):(FE x).map u8=(Ia x).map QS:=by
 simp only[FE,Ia,List.map_cons,List.map_nil,u8,QS,VR]
theorem KA(x:Int):Eu (FE x):=by
 intro y hy
 obtain⟨z,hz,rfl⟩:=AZ.1 hy
 simp only[Ia,List.mem_cons,List.not_mem_nil,or_false]at hz
 rcases hz with rfl|rfl|rfl|rfl<;>rw[EM]<;>omega
def PS(b:N_):Int:=
 YH .u32 (YH .u32 (YH .u32 (FZ .u32 (IntKind.u32.wrap (b.getD 0 0)) 24) (FZ .u32 (IntKind.u32.wrap (b.getD 1 0)) 16)) (FZ .u32 (IntKind.u32.wrap (b.getD 2 0)) 8)) (IntKind.u32.wrap (b.getD 3 0))
def frX(k:Int)(n:Nat):Int:=YH .u32 (FZ .u32 (IntKind.u32.wrap k) 24) (IntKind.u32.wrap n)
def fr1(k:Int)(n:Nat):N_:=FE (frX k n)
def fr2(k:Int)(n:Nat):N_:=fr1 k n++FE (Hg 0 (fr1 k n))
def fr3(k:Int)(d:N_):N_:=fr2 k d.length++FE (Hg (Hg 0 (fr2 k d.length)) d)
def Dt(k:Int)(d:N_):N_×Int:=if k<0∨255<k then ([],14)else if 65536<d.length then ([],3)else (fr3 k d++d,0)
theorem Reads.blk{b T:Nat}{cs:V_}{c:Nat×Nat}:Reads (Cru.blk b (Obj.cells cs.toArray T c)) (Option.some ⟨b,0,none⟩) cs:=by
 intro H hp i u d
 have hp:H b=Option.some (Obj.cells cs.toArray T c):=hp
 refine⟨_,rfl,?_⟩
 rw[add_lit,AE]
 simp only[Gx,hp]
 simpa using d
theorem Lf(x:Int):Sp P0 188 [.int .u32 x] [] fun v h=>v= .agg ((Ia x).map QS).toArray/\h=[]:=by
 refine Sq Tryz.func188 fun w0 b_=>?_
 refine OA 2 ?_
 refine O6 (YQ zr295) fun b2=>?_
 refine OA 4 ?_
 refine O1 (Zy rfl rfl rfl (by omega)) ?_
 refine OA 2 ?_
 refine O1 (Zy rfl rfl rfl (by omega)) ?_
 refine OA 2 ?_
 refine O1 (Zy rfl rfl rfl (by omega)) ?_
 refine OA 3 ?_
 refine O1 (Xba [.int .u8 0,.int .u8 0,.int .u8 0,.int .u8 0] u295) ?_
 refine OA 2 ?_
 exact Cu (retC 0 rfl rfl rfl ⟨u295,rfl⟩ rfl rfl (An _) ⟨rfl,rfl⟩)
theorem KY(a:A_)(cap:Nat)(bs:N_)(x:Int)(hb:bs.length<17592186044416):
  Sp P0 145 [.slice a bs.length cap,.int .u32 x] [sq a bs.length cap 5 1 (bs.map u8)] fun v h=>∃b c,v= .slice b (bs++FE x).length c/\h=[sq b (bs++FE x).length c 5 1 ((bs++FE x).map u8)]:=by
 refine Sq Tryz.func145 fun w0 b_=>?_
 refine OA 7 ?_
 refine O5 (Zc rfl (en 188) rfl (Lf x)) ?_
 refine O6 (YQ zr295) fun d=>?_
 refine OA 5 ?_
 refine O1 (Ct.arrSl u295 (by decide)) ?_
 refine O2 (LO.app Jf) ?_
 rintro _ _ ⟨b,c,rfl,rfl⟩
 refine OA 2 ?_
 exact Cu (CB rfl rfl (Ax _ (An _)) ⟨b,c,by rw[Ac];rfl,by rw[AO,fourN_u8,Ac];rfl⟩)
theorem Yp(a:A_)(cap:Nat)(bs:N_)(r:CW)(hr:Reads r a (bs.map u8))(h4:4<=bs.length):
  Sp P0 189 [.slice a bs.length cap] [r] fun v h=>v= .int .u32 (PS bs)/\h=[r]:=by
 refine Sq Tryz.func189 fun w0 b_=>?_
 refine OA 5 ?_
 refine CM at0 hr (Ez (i:=0) (by omega)) fun ad b=>?_
 subst b
 refine CS rfl (fun j=>false) ?_
 refine D1 0 rfl DC ?_
 refine D1 1 rfl (GO (0) u53) ?_
 refine D1 2 rfl (Ct.reads (j:=0) rfl rfl at0 hr u5 rfl (Ez (i:=0) (by omega))) ?_
 refine D1 3 rfl (Ze rfl rfl u5 u248) ?_
 refine D1 4 rfl (ZZ rfl rfl rfl (by omega)) ?_
 refine D1 5 rfl DC ?_
 refine D1 6 rfl (GO (1) u53) ?_
 refine D1 7 rfl (Ct.reads (j:=1) rfl rfl at0 hr u5 rfl (Ez (i:=1) (by omega))) ?_
 refine D1 8 rfl (Ze rfl rfl u5 u248) ?_
 refine D1 9 rfl (ZZ rfl rfl rfl (by omega)) ?_
 refine D1 10 rfl (Qaw rfl rfl rfl) ?_
 refine D1 11 rfl DC ?_
 refine D1 12 rfl (GO (2) u53) ?_
 refine D1 13 rfl (Ct.reads (j:=2) rfl rfl at0 hr u5 rfl (Ez (i:=2) (by omega))) ?_
 refine D1 14 rfl (Ze rfl rfl u5 u248) ?_
 refine D1 15 rfl (ZZ rfl rfl rfl (by omega)) ?_
 refine D1 16 rfl (Qaw rfl rfl rfl) ?_
 refine D1 17 rfl DC ?_
 refine D1 18 rfl (GO (3) u53) ?_
 refine D1 19 rfl (Ct.reads (j:=3) rfl rfl at0 hr u5 rfl (Ez (i:=3) (by omega))) ?_
 refine D1 20 rfl (Ze rfl rfl u5 u248) ?_
 refine D1 21 rfl (Qaw rfl rfl rfl) ?_
 refine D1 22 rfl FC ?_
 refine D0 ?_
 exact Cu (Rr ⟨rfl,rfl⟩)
theorem Kf(k:Int)(f:A_)(g:Nat)(d:N_)(r:CW)(hr:Reads r f (d.map u8))(hd:d.length<17592186044416):
  Sp P0 85 [.agg ([Cs k,.slice f d.length g]:V_).toArray] [r] fun v h=>∃a c,v= .tuple #[.slice a (Dt k d).1.length c,Cs (Dt k d).2]/\h=[r,sq a (Dt k d).1.length c 5 1 ((Dt k d).1.map u8)]:=by
 refine Sq Tryz.func85 fun w0 b_=>?_
 refine OA 2 ?_
 refine O6 YR fun b1=>?_
 refine OA 6 ?_
 refine CQ 5 (k<0∨255<k) ?_ ?_
 ·refine OA 5 ?_
  refine CJ 9 rfl (fun i=>?_) (fun i=>?_)
  ·refine OA 6 ?_
   exact Ex
  refine OA 6 ?_
  exact Ex
 refine Cy rfl (fun b=>?_) (fun b=>?_)
 ·rw[Dt,Ah b]
  refine OA 5 ?_
  refine Ti (Cv.nil 5 1) ?_
  exact Cu (Dq rfl rfl rfl (Ax _ (Cj _ _)) ⟨_,_,rfl,rfl⟩)
 rw[Dt,Aa b]
 refine OA 8 ?_
 refine Cy rfl (fun e=>?_) (fun e=>?_)
 ·rw[Ah (show 65536<d.length by omega)]
  refine OA 5 ?_
  refine Ti (Cv.nil 5 1) ?_
  exact Cu (Dq rfl rfl rfl (Ax _ (Cj _ _)) ⟨_,_,rfl,rfl⟩)
 rw[Aa (show ¬65536<d.length by omega)]
 refine OA 6 ?_
 refine O1 (ZZ rfl rfl rfl (by omega)) ?_
 refine OA 4 ?_
 refine O1 (Qaw rfl rfl rfl) ?_
 refine Oi (Cv.nil 5 1) ?_
 refine O2 (YP rfl (en 145) rfl (.s2 (.t .d)) (KY none 0 [] (frX k d.length) (by decide))) ?_
 rintro _ _ ⟨_,⟨a1,c1,rfl,rfl⟩,rfl⟩
 refine OA 6 ?_
 refine O8 (YP rfl (en 146) rfl (.s2 (.t .d)) (IT a1 c1 (fr1 k d.length) _ .sq (by show 4<=maxLen;decide))) ?_
 refine O2 (YP rfl (en 145) rfl (.s2 (.t .d)) (KY a1 c1 (fr1 k d.length) (Hg 0 (fr1 k d.length)) (by show 4<_;decide))) ?_
 rintro _ _ ⟨_,⟨a2,c2,rfl,rfl⟩,rfl⟩
 refine OA 3 ?_
 refine Kr [blk b1 (.cells [Cs k,.slice f d.length g].toArray 171 (0,0))] (by (repeat' (first|exact Gp|refine all_cons (by repeat (first|exact List.Mem.head _|refine List.Mem.tail _ ?_)) ?_))) rfl (fun j=>false) ?_
 intro n
 refine DA [0,1,3,4] ?_
 refine Da 2 ?_
 refine D6 rfl (YP rfl (en 146) rfl (.s2 (.t .d)) (IT a2 c2 (fr2 k d.length) _ .sq (by show 8<=maxLen;decide))) ?_
 rintro _ _ ⟨_,⟨rfl,rfl⟩,rfl⟩
 refine ys (Da 5 ?_)
 refine D6 rfl (YP rfl (en 147) rfl (.t .d) (Lp (Hg 0 (fr2 k d.length)) f g d _ hr (by unfold maxLen;omega))) ?_
 rintro _ _ ⟨_,⟨rfl,rfl⟩,rfl⟩
 refine ys (Da 6 ?_)
 refine D6 rfl (YP rfl (en 145) rfl (.s (.t .d)) (KY a2 c2 (fr2 k d.length) (Hg (Hg 0 (fr2 k d.length)) d) (by show 8<_;decide))) ?_
 rintro _ _ ⟨_,⟨a3,o,rfl,rfl⟩,rfl⟩
 refine ys (D1 7 rfl FC ?_)
 refine D0 ?_
 have m:(fr2 k d.length++FE (Hg (Hg 0 (fr2 k d.length)) d)).length=12:=rfl
 refine OA 5 ?_
 refine O2 (ZH Jf hr) ?_
 rintro _ _ ⟨a4,l,rfl,rfl⟩
 refine OA 3 ?_
 refine Ti (QaY (.t .d)) ?_
 exact Cu (Dq rfl rfl rfl (Ax _ (Ax _ (An _))) ⟨a4,l,by rw[<-Ac];rfl,by rw[<-Ac,<-AO];rfl⟩)
def FD(b:N_):Nat:=(Fx .u32 (PS b) 16777215).toNat
def decK(b:N_):Int:=Pj (GN (PS b) 24 .u32)
def cI(b:N_):List Int:=b.map Int.ofNat
structure JV where
 kind:Int
 data:N_
def DD(b:N_):JV×Nat×Int:=
 if b.length<8 then (⟨0,[]⟩,0,10)
 else if cI (sl b 4 8)≠Ia (Hg 0 (sl b 0 4))then (⟨0,[]⟩,0,13)
 else if 65536<FD b then (⟨0,[]⟩,0,3)
 else if b.length<12+FD b then (⟨0,[]⟩,0,10)
 else if cI (sl b 8 12)≠Ia (Hg (Hg 0 (sl b 0 8)) (sl b 12 (12+FD b)))then (⟨0,[]⟩,0,13)
 else (⟨decK b,sl b 12 (12+FD b)⟩,12+FD b,0)
theorem RP(x y:Int):∃z:Nat,z<4294967296/\Fx .u32 x y=z:=by
 refine⟨(BitVec.ofInt 32 x&&&BitVec.ofInt 32 y).toNat,BitVec.isLt _,?_⟩
 show IntKind.u32.wrap _=_
 have h:=(BitVec.ofInt 32 x&&&BitVec.ofInt 32 y).isLt
 show IntKind.u32.wrap ((BitVec.ofInt 32 x&&&BitVec.ofInt 32 y).toNat:Int)=_
 rw[Rg];omega
theorem decN_eq(b:N_):Pj (Fx .u32 (PS b) 16777215)=FD b:=by
 obtain⟨z,hz,h⟩:=RP (PS b) 16777215
 rw[FD,h,IU (by omega) (by omega)];rfl
theorem decN_lt(b:N_):FD b<4294967296:=by
 obtain⟨z,hz,h⟩:=RP (PS b) 16777215
 rw[FD,h];exact hz
theorem cI_byI(b:N_):(cI b).map QS=b.map u8:=by rw[cI,List.map_map];rfl
theorem cI_at(b:N_)(lo hi:Nat):∀k u,((cI (sl b lo hi)).map QS)[k]? =some u->(b.map u8)[lo+k]? =some u:=fun k u c=>by
 rw[cI_byI,Aq]at c
 obtain⟨y,hy,rfl⟩:=Option.map_eq_some_iff.1 c
 rw[Aq,sl_at hy];rfl
theorem Re(a:A_)(cap:Nat)(b:N_)(r:CW)(hr:Reads r a (b.map u8))(hc:b.length<=cap)(hb:b.length<17592186044416):
  Sp P0 141 [.slice a b.length cap] [r] fun v h=>∃o p,v= .tuple #[.agg ([Cs (DD b).1.kind,.slice o (DD b).1.data.length p]:V_).toArray,Cs (DD b).2.1,Cs (DD b).2.2]/\h=[r,sq o (DD b).1.data.length p 5 1 ((DD b).1.data.map u8)]:=by
 refine Sq Tryz.func141 fun w0 b_=>?_
 refine OA 2 ?_
 refine O6 (YQ Wl) fun b2=>?_
 refine OA 10 ?_
 refine Cy rfl (fun k=>?_) (fun k=>?_)
 ·rw[show DD b=(⟨0,[]⟩,0,10) from Ah (by omega)]
  refine OA 7 ?_
  refine Ti (Cv.nil 5 1) ?_
  exact Cu (PG u171 (Ax _ (Cj _ _)) ⟨_,_,rfl,rfl⟩)
 have h8:8<=b.length:=by omega
 have f:DD b=if cI (sl b 4 8)≠Ia (Hg 0 (sl b 0 4))then (⟨0,[]⟩,0,13)else if 65536<FD b then (⟨0,[]⟩,0,3)else if b.length<12+FD b then (⟨0,[]⟩,0,10)else if cI (sl b 8 12)≠Ia (Hg (Hg 0 (sl b 0 8)) (sl b 12 (12+FD b)))then (⟨0,[]⟩,0,13)else (⟨decK b,sl b 12 (12+FD b)⟩,12+FD b,0):=Aa (by omega)
 rw[f]
 clear f
 refine CM at0 hr (Ez (i:=0) (by omega)) fun ad q=>?_
 subst q
 have u:(sl b 0 4).length=4:=HN (by omega)
 have x:(sl b 4 8).length=4:=HN h8
 have g:(cI (sl b 4 8)).length=4:=(AP _).trans x
 have w:(sl b 0 8).length=8:=HN h8
 refine OA 3 ?_
 refine Kr [r] (by (repeat' (first|exact Gp|refine all_cons (by repeat (first|exact List.Mem.head _|refine List.Mem.tail _ ?_)) ?_))) rfl (fun j=>false) ?_
 intro t
 refine D1 0 rfl DC ?_
 refine D1 1 rfl (ZQ 1 (4) (8) u53) ?_
 refine D1 2 rfl (Ct.s2a u295 (WD (show 4<cap by omega))) ?_
 refine D1 3 rfl (YW (j:=4) (cs:=(cI (sl b 4 8)).map QS) u295 hr (s:=4) (cI_at b 4 8) (by rw[AP];exact g)) ?_
 refine D1 4 rfl DC ?_
 refine D1 5 rfl (YK (ZR 1 4 u53) (by rw[<-u])) ?_
 refine Da 6 ?_
 refine D6 rfl (YP rfl (en 146) rfl (.t .d) (IT _ _ (sl b 0 4) r (hr.sl (by omega)) (by unfold maxLen;omega))) ?_
 rintro _ _ ⟨_,⟨rfl,rfl⟩,rfl⟩
 refine ys (Da 7 ?_)
 refine Gz rfl (Zc rfl (en 188) rfl (Lf _)) ?_
 refine D1 8 rfl (Ct.neqA u295 u5 rfl rfl g rfl) ?_
 refine D0 (CH rfl (fun c=>?_) (fun c=>?_))
 ·rw[Ah c]
  refine OA 7 ?_
  refine Ti (Cv.nil 5 1) ?_
  exact Cu (PG u171 (List.Sublist.cons _ (.refl _)) ⟨_,_,rfl,rfl⟩)
 rw[Aa (fun h=>h c)]
 refine OA 4 ?_
 refine O8 (YP rfl (en 189) rfl (.s (.t .d)) (Yp (some ad) cap b r hr (by omega))) ?_
 refine OA 5 ?_
 refine O1 (Za rfl rfl rfl) ?_
 refine O1 (YT (Ze rfl rfl u248 u3) (decN_eq b)) ?_
 refine OA 2 ?_
 have hn:=decN_lt b
 refine OA 8 ?_
 refine Cy rfl (fun l=>?_) (fun l=>?_)
 ·rw[Ah (show 65536<FD b by omega)]
  refine OA 7 ?_
  refine Ti (Cv.nil 5 1) (Ti (QaY (.t .d)) ?_)
  exact Cu (PG u171 (Ax _ (Ax _ (An _))) ⟨_,_,rfl,rfl⟩)
 rw[Aa (show ¬65536<FD b by omega)]
 refine OA 9 ?_
 refine Cy rfl (fun m=>?_) (fun m=>?_)
 ·rw[Ah (show b.length<12+FD b by omega)]
  refine OA 7 ?_
  refine Ti (Cv.nil 5 1) ?_
  exact Cu (PG u171 (List.Sublist.cons _ (.refl _)) ⟨_,_,rfl,rfl⟩)
 rw[Aa (show ¬b.length<12+FD b by omega)]
 have n:(sl b 8 12).length=4:=HN (by omega)
 have e:(cI (sl b 8 12)).length=4:=(AP _).trans n
 have y:(sl b 12 (12+FD b)).length=FD b:=(HN (by omega)).trans (by omega)
 refine OA 6 ?_
 refine O1 (YK (ZQ 1 12 (12+FD b) u53) (by rw[show 12+FD b-12=(sl b 12 (12+FD b)).length by omega])) ?_
 refine OA 4 ?_
 refine Kr [r] (by (repeat' (first|exact Gp|refine all_cons (by repeat (first|exact List.Mem.head _|refine List.Mem.tail _ ?_)) ?_))) rfl (fun j=>false) ?_
 intro t
 refine D1 0 rfl DC ?_
 refine D1 1 rfl (ZQ 1 (8) (12) u53) ?_
 refine D1 2 rfl (Ct.s2a u295 (WD (show 8<cap by omega))) ?_
 refine D1 3 rfl (YW (j:=8) (cs:=(cI (sl b 8 12)).map QS) u295 hr (s:=4) (cI_at b 8 12) (by rw[AP];exact e)) ?_
 refine D1 4 rfl DC ?_
 refine D1 5 rfl (YK (ZR 1 8 u53) (by rw[<-w])) ?_
 refine D1 7 rfl DC ?_
 refine Da 6 ?_
 refine D6 rfl (YP rfl (en 146) rfl (.s (.t .d)) (IT _ _ (sl b 0 8) r (hr.sl (by omega)) (by unfold maxLen;omega))) ?_
 rintro _ _ ⟨_,⟨rfl,rfl⟩,rfl⟩
 refine ys (Da 8 ?_)
 refine D6 rfl (YP rfl (en 147) rfl (.s (.t .d)) (Lp _ _ _ (sl b 12 (12+FD b)) r (hr.sl (by omega)) (by unfold maxLen;omega))) ?_
 rintro _ _ ⟨_,⟨rfl,rfl⟩,rfl⟩
 refine ys (Da 9 ?_)
 refine Gz rfl (Zc rfl (en 188) rfl (Lf _)) ?_
 refine D1 10 rfl (Ct.neqA u295 u5 rfl rfl e rfl) ?_
 refine D0 (CH rfl (fun d=>?_) (fun d=>?_))
 ·rw[Ah d]
  refine OA 7 ?_
  refine Ti (Cv.nil 5 1) ?_
  exact Cu (PG u171 (List.Sublist.cons _ (.refl _)) ⟨_,_,rfl,rfl⟩)
 rw[Aa (fun h=>h d)]
 refine OA 4 ?_
 refine O1 (Zy rfl rfl rfl (by omega)) ?_
 refine OA 2 ?_
 refine O2 (LO.clone Jf (hr.sl (cap:=cap) (lo:=12) (hi:=12+FD b) (by omega))) ?_
 rintro _ _ ⟨o,p,rfl,rfl⟩
 refine OA 7 ?_
 exact Cu (PG u171 (List.Sublist.cons _ (.refl _)) ⟨o,p,rfl,rfl⟩)
def GU(b:N_):Nat->List JV->Nat->List JV×Nat×Int
 |0,c,at_=>(c,at_,0)
 |k+1,c,at_=>
  if at_<b.length then
   if(DD (sl b at_ b.length)).2.2≠0 then (c,at_,(DD (sl b at_ b.length)).2.2)
   else GU b k (c++[(DD (sl b at_ b.length)).1]) (at_+(DD (sl b at_ b.length)).2.1)
  else (c,at_,0)
def FI(b:N_):List JV×Nat×Int:=GU b (b.length+1) [] 0
theorem Wh{b:N_}(h:(DD b).2.2=0):12<=(DD b).2.1/\(DD b).2.1<=b.length/\(DD b).2.1<=65548:=by
 unfold DD at h ⊢
 split at h
 ·cases h
 ·split at h
  ·cases h
  ·split at h
   ·cases h
   ·split at h
    ·cases h
    ·split at h
     ·cases h
     ·rename_i h1 h2 h3 h4 h5
      rw[Aa h1,Aa h2,Aa h3,Aa h4,Aa h5]
      simp only
      omega
theorem SK{b:N_}(h:Eu b):Eu (DD b).1.data:=by
 have h0:Eu []:=fun _ h=>by cases h
 unfold DD
 repeat' split
 all_goals first|exact h0|exact QF h _ _
def fvC(ps:List (JV×Value)):V_:=ps.flatMap fun p=>[Cs p.1.kind,p.2]
theorem fvC_snoc(ps:List (JV×Value))(p:JV×Value):fvC (ps++[p])=fvC ps++[Cs p.1.kind,p.2]:=by simp[fvC]
def Rt(L:PL)(ps:List (JV×Value)):Prop:=∀p∈ps,Bs L p.2 p.1.data
theorem Rt.le{L L':PL}(k:Le L L'){ps:List (JV×Value)}(h:Rt L ps):Rt L' ps:=fun p hp=>(h p hp).le k
theorem HO{b:N_}{i:Nat}:(sl b i b.length).length=b.length-i:=HN (Al _)
theorem YC(a:A_)(cap:Nat)(b:N_)(L:PL)(r:CW)(hr:Reads r a (b.map u8))(hc:b.length<=cap)(hb:b.length<17592186044416)(hB:Eu b):
  Sp P0 80 [.slice a b.length cap] [r,pool L] fun v h=>∃L' ps ao c,Le L L'/\ps.map (·.1)=(FI b).1/\Rt L' ps/\v= .tuple #[.slice ao ps.length c,Cs (FI b).2.1,Cs (FI b).2.2]/\h=[r,pool L',sq ao ps.length c 171 2 (fvC ps)]:=by
 refine Sq Tryz.func80 fun w0 b_=>?_
 refine OA 14 ?_
 refine Ti (Cv.nil 171 2) (OA 2 ?_)
 refine CD (fun((k,i,ps,ao,c,L'):Nat×Nat×List (JV×Value)×A_×Nat×PL)=>[(0,.slice a b.length cap),(5,.slice ao ps.length c),(6,Cs i)]) (fun(k,i,ps,ao,c,L')=>[r,pool L',sq ao ps.length c 171 2 (fvC ps)]) (fun(k,i,ps,ao,c,L')=>Le L L'/\Rt L' ps/\i<=b.length/\12*ps.length<=i/\b.length+1<=i+k/\GU b k (ps.map (·.1)) i=FI b) (fun(_,i,_)=>b.length-i) (b.length+1,0,[],none,0,L) ?_ ?_
 ·exact⟨⟨.refl _,(fun p hp=>by cases hp),Af _,by simp,by simp,rfl⟩,Sb3,.refl _⟩
 rintro⟨k,i,ps,ao,c,L'⟩ ⟨hL,hps,hi,s,hk,he⟩
 conv=>arg 7;dsimp only
 conv=>arg 8;dsimp only
 refine OA 8 ?_
 refine Cy rfl (fun f=>?_) (fun f=>?_)
 ·obtain⟨k,rfl⟩:∃q,k=q+1:=⟨k-1,by omega⟩
  rw[GU,Ah (by omega)]at he
  have hsl:=HO (b:=b) (i:=i)
  refine OA 6 ?_
  refine O1 (YK (ZB 1 i u53) (by rw[<-hsl])) ?_
  refine O2 (YP rfl (en 141) rfl (.t .d) (Re _ _ (sl b i b.length) r (hr.sl (by omega)) (by omega) (by omega))) ?_
  rintro _ _ ⟨_,⟨j,l,rfl,rfl⟩,rfl⟩
  refine CL (Cv.freeze (.t (.s2 (.t .d)))) ?_
  rintro _ ⟨L2,e,hd,rfl⟩
  have m:Bs L2 (.slice j (DD (sl b i b.length)).1.data.length l) (DD (sl b i b.length)).1.data:=⟨hd,SK (QF hB _ _)⟩
  refine OA 4 ?_
  refine O6 (YQ Wl) fun t=>?_
  refine OA 10 ?_
  refine CH rfl (fun d=>?_) (fun d=>?_)
  ·rw[Ah d]at he
   refine OA 9 ?_
   refine Ti (QaY (.t .d)) ?_
   exact Cu (ret3h rfl rfl rfl rfl (Ax _ (Ax _ (List.Sublist.cons _ (.refl _)))) ⟨L2,ps,ao,c,hL.trans e,by rw[<-he],hps.le e,by rw[<-he],rfl⟩)
  rw[Aa (fun h=>h d)]at he
  obtain⟨q1,q2,q3⟩:=Wh d
  refine OA 5 ?_
  refine O6 (YY u167) fun o=>?_
  refine O2 (LO.app el167) ?_
  rintro _ _ ⟨g,c2,rfl,rfl⟩
  refine OA 2 ?_
  refine Ti (QaY (.t .d)) ?_
  obtain⟨x,hx⟩:∃x:JV×Value,x=((DD (sl b i b.length)).1,.slice j (DD (sl b i b.length)).1.data.length l):=⟨_,rfl⟩
  have hx2:fvC ps++[Cs (DD (sl b i b.length)).1.kind,.slice j (DD (sl b i b.length)).1.data.length l]=fvC (ps++[x]):=by rw[fvC_snoc,hx]
  have n:ps.length+1=(ps++[x]).length:=by rw[Ac];rfl
  rw[hx2,n]
  refine OA 6 ?_
  exact⟨(k,i+(DD (sl b i b.length)).2.1,ps++[x],g,c2,L2),⟨⟨hL.trans e,fun p hp=>(AC.1 hp).elim (fun h=>(hps.le e) p h) (fun h=>by rw[Ap.1 h,hx];exact m),by omega,by omega,by omega,by rw[AO,hx];exact he⟩,Sb3,Ax _ (Ax _ (List.Sublist.cons _ (List.Sublist.cons _ (.refl _))))⟩,by simp only;omega⟩
 obtain⟨k,rfl⟩:∃q,k=q+1:=⟨k-1,by omega⟩
 rw[GU,Aa (by omega)]at he
 refine OA 9 ?_
 exact Cu (ret3h rfl rfl rfl rfl (.refl _) ⟨L',ps,ao,c,hL,by rw[<-he],hps,by rw[<-he],rfl⟩)
structure He where
 b:N_
 safe:Nat
 old:N_
 fresh:Bool
structure Dw where
 t0:He
 t1:He
 room:Nat
structure He.Ok(t:He):Prop where
 safe:t.safe<=t.b.length
 len:t.b.length<=4194304
 old:t.old.length<=4194304
 byt:Eu t.b
 oby:Eu t.old
structure Dw.Ok(d:Dw):Prop where
 t0:d.t0.Ok
 t1:d.t1.Ok
 room:d.room<=4194304
def Dw.tape(d:Dw):Nat->He
 |0=>d.t0
 |_=>d.t1
def Dw.set(d:Dw):Nat->He->Dw
 |0,x=>{d with t0:=x}
 |_,x=>{d with t1:=x}
def Dw.append(d:Dw)(t:Nat)(bs:N_):Dw×Int:=
 if d.room<bs.length+(d.tape t).b.length then (d,40)else (d.set t {d.tape t with b:=(d.tape t).b++bs},0)
def He.clear(t:He):He:=⟨[],0,if t.fresh then t.old else t.b.take t.safe,true⟩
def Dw.clear(d:Dw)(t:Nat):Dw:=d.set t (d.tape t).clear
def Dw.flush(d:Dw)(t:Nat):Dw:=d.set t ⟨(d.tape t).b,(d.tape t).b.length,[],false⟩
def He.crash(t:He)(keep:Int):He:=
 let b:=if t.fresh=true/\keep<0 then t.old else t.b.take (t.safe+(min (max keep 0) (t.b.length-t.safe:Nat)).toNat)
 ⟨b,b.length,[],false⟩
def Dw.crash(d:Dw)(keeps:List Int):Dw:={d with t0:=d.t0.crash (keeps.getD 0 0),t1:=d.t1.crash (keeps.getD 1 0)}
abbrev dkc(a b c d e f g h:Value)(j i:Int):V_:=
 [a,b,c,d,e,f,g,h,.slice none 0 0,Cs 0,.slice none 0 0,.bool false,.slice none 0 0,Cs 0,.slice none 0 0,.bool false,Cs j,Cs i,Cs 0,.bool false]
def DZ(p:Nat)(d:Dw)(rs:Mem):Prop:=∃(c e0 a1 e1:A_) (e f c1 f1:Nat) (b:Int),
 rs=[blk p (.cells (dkc (.slice c d.t0.b.length e) (Cs d.t0.safe) (.slice e0 d.t0.old.length f) (.bool d.t0.fresh) (.slice a1 d.t1.b.length c1) (Cs d.t1.safe) (.slice e1 d.t1.old.length f1) (.bool d.t1.fresh) d.room b).toArray 164 (0,0)),
  sq c d.t0.b.length e 5 1 (d.t0.b.map u8),sq e0 d.t0.old.length f 5 1 (d.t0.old.map u8),sq a1 d.t1.b.length c1 5 1 (d.t1.b.map u8),sq e1 d.t1.old.length f1 5 1 (d.t1.old.map u8)]
section
variable {P:Program}{n:Nat}{w0:World}{b_:N_}{l:Dh}{h hs:Mem}{o:Oper}{v:Value}
theorem Zm{x y:Operand}{T e len b m s:Nat}{k:IntKind}{i:Int}(j q:Nat)(d:P.underlying T=some (.array len e))(ho:o.op= .indexAddr T x y:=by rfl)(hx:ev l x=some (.pointer (some ⟨b,m,none⟩)):=by rfl)(hy:ev l y=some (.int k i):=by rfl)(c:(P.info? e).map (·.size)=some s:=by rfl)(hi:i=(j:Int):=by rfl)(hj:j<len:=by decide)(hq:m+j*s=q:=by rfl):Ct P n w0 b_ hs l o (.pointer (some ⟨b,q,none⟩)):=by
 have:=Ct.indexArr (n:=n) (w0:=w0) (b_:=b_) (hs:=hs) j ho hx hy d c hi hj
 rw[add_lit,hq]at this
 exact this
end
theorem EF(p:Nat)(a b c d e f g h:Value)(j i t:Int)(h0:0<=t)(h4:t<4):
  Sp P0 79 [Cr p,Cs t] [blk p (.cells (dkc a b c d e f g h j i).toArray 164 (0,0))] fun v q=>v= Cs 0/\q=[blk p (.cells (dkc a b c d e f g h j i).toArray 164 (0,0))]:=by
 refine Sq Tryz.func79 fun w0 b_=>?_
 refine OA 7 ?_
 refine CQ 5 (t<0∨4<=t) ?_ ?_
 ·refine OA 8 ?_
  refine CJ 12 rfl (fun k=>?_) (fun k=>?_)
  ·refine OA 5 ?_
   exact Ex
  refine OA 5 ?_
  exact Ex
 refine Cy rfl (fun l=>?_) (fun l=>?_)
 ·omega
 refine OA 14 ?_
 exact Cu (Rr ⟨rfl,rfl⟩)
theorem FX(p:Nat)(a b c d e f g h:Value)(j i:Int):
  Sp P0 148 [Cr p] [blk p (.cells (dkc a b c d e f g h j i).toArray 164 (0,0))] fun v q=>v= Cs 0/\∃i,q=[blk p (.cells (dkc a b c d e f g h j i).toArray 164 (0,0))]:=by
 refine Sq Tryz.func148 fun w0 b_=>?_
 refine OA 13 ?_
 refine Cy rfl (fun k=>?_) (fun k=>?_)
 ·omega
 refine OA 9 ?_
 refine O1 (Zq rfl rfl rfl) ?_
 refine OA 10 ?_
 refine O1 (Qar rfl rfl rfl) ?_
 refine OA 8 ?_
 exact Cu (Rr ⟨rfl,_,rfl⟩)
theorem Pg(b:Int)(h0:0<=b)(h1:b<=4194304):
  Sp P0 47 [Cs b] [] fun v q=>∃p S,v= .pointer (some ⟨p,0,none⟩)/\q=[cm S (DZ p ⟨⟨[],0,[],false⟩,⟨[],0,[],false⟩,b.toNat⟩)]:=by
 refine Sq Tryz.func47 fun w0 b_=>?_
 refine OA 7 ?_
 refine O1 (Zq rfl rfl rfl) ?_
 refine O1 (YT (y:=((b.toNat:Nat):Int)) (Zo rfl rfl rfl) (by omega)) ?_
 refine O1 (Xb bt164.h) ?_
 refine O6 YR fun c=>?_
 refine OA 2 ?_
 refine Tp (.t (.t .d) (.n (T:=5) (sz:=1) (.n (T:=5) (sz:=1) (.n (T:=5) (sz:=1) (.n (T:=5) (sz:=1) .e))))) (Ti (Zl (.t (.t (.t (.t (.t .d))))) (A:=DZ c ⟨⟨[],0,[],false⟩,⟨[],0,[],false⟩,b.toNat⟩) ⟨none,none,none,none,0,0,0,0,0,rfl⟩) ?_)
 exact Cu (CB rfl rfl (.refl _) ⟨_,_,rfl,rfl⟩)
theorem Ux(p:Nat)(S:N_)(d:Dw)(hd:d.Ok)(a:A_)(cap:Nat)(bs:N_)(r:CW)(hr:Reads r a (bs.map u8)):
  Sp P0 89 [Cr p,Cs 0,.slice a bs.length cap] [cm S (DZ p d),r] fun v q=>v= Cs (d.append 0 bs).2/\∃i,q=[r,cm i (DZ p (d.append 0 bs).1)]:=by
 have k0:=hd.t0.len
 have k1:=hd.t1.len
 have q0:=hd.t0.safe
 have q1:=hd.t1.safe
 have kr:=hd.room
 refine Sq Tryz.func89 fun w0 b_=>?_
 refine Cx (ZS (.t .d)) ?_
 rintro _ ⟨_,⟨l,e0,a1,e1,n,o,c1,f1,c,rfl⟩,rfl⟩
 refine OA 9 ?_
 refine O8 (YP rfl (en 79) rfl (.s (.t .d)) (EF p _ _ _ _ _ _ _ _ _ c 0 (by decide) (by decide))) ?_
 refine OA 7 ?_
 refine CH rfl (fun f=>?_) (fun f=>?_)
 ·omega
 refine OA 7 ?_
 refine O1 (Zm 0 0 u161) ?_
 refine OA 4 ?_
 refine CS rfl (fun j=>false) ?_
 refine DA [0,1,2,3,4,5,6,7,8,9,10,11,12] ?_
 refine D0 (Cy rfl (fun g=>?_) (fun g=>?_))
 ·have e:d.append 0 bs=(d,40):=Ah (show d.room<bs.length+d.t0.b.length by omega)
  rw[e]
  refine OA 4 ?_
  refine Tp (.t (.t .d) (.t (.s4 (.t .d)) (.t (.t .d) (.t (.t .d) (.t (.t .d) (.t (.t .d) .e)))))) (Ti (Zl (.s (.t (.t (.t (.t (.t .d)))))) (A:=DZ p (d)) ⟨_,_,_,_,_,_,_,_,_,rfl⟩) ?_)
  exact Cu (Rr ⟨rfl,_,rfl⟩)
 have e:d.append 0 bs=(d.set 0 {d.t0 with b:=d.t0.b++bs},0):=Aa (show ¬d.room<bs.length+d.t0.b.length by omega)
 rw[e]
 refine OA 9 ?_
 refine O2 (ZH Jf hr) ?_
 rintro _ _ ⟨k,m,rfl,rfl⟩
 refine OA 7 ?_
 refine O2 (YP rfl (en 148) rfl (.s5 (.t .d)) (FX p _ _ _ _ _ _ _ _ _ c)) ?_
 rintro _ _ ⟨_,⟨rfl,h,rfl⟩,rfl⟩
 refine OA 2 ?_
 rw[<-Ac,<-AO]
 refine Tp (.t (.t .d) (.t (.s4 (.t .d)) (.t (.t .d) (.t (.t .d) (.t (.t .d) (.t (.t .d) .e)))))) (Ti (Zl (.s (.t (.t (.t (.t (.t .d)))))) (A:=DZ p (d.set 0 {d.t0 with b:=d.t0.b++bs})) ⟨_,_,_,_,_,_,_,_,_,rfl⟩) ?_)
 exact Cu (Rr ⟨rfl,_,rfl⟩)
theorem Vv(p:Nat)(S:N_)(d:Dw)(hd:d.Ok):
  Sp P0 87 [Cr p,Cs 0] [cm S (DZ p d)] fun v q=>v= Cs 0/\∃l,q=[cm l (DZ p (d.clear 0))]:=by
 have k0:=hd.t0.len
 have k1:=hd.t1.len
 have q0:=hd.t0.safe
 have q1:=hd.t1.safe
 have kr:=hd.room
 refine Sq Tryz.func87 fun w0 b_=>?_
 refine Cx (ZS (.t .d)) ?_
 rintro _ ⟨_,⟨n,e0,a1,e1,o,r,c1,f1,c,rfl⟩,rfl⟩
 refine OA 9 ?_
 refine O8 (YP rfl (en 79) rfl (.t .d) (EF p _ _ _ _ _ _ _ _ _ c 0 (by decide) (by decide))) ?_
 refine OA 7 ?_
 refine CH rfl (fun g=>?_) (fun g=>?_)
 ·omega
 refine OA 7 ?_
 refine O1 (Zm 0 0 u161) ?_
 refine OA 11 ?_
 refine CE rfl (fun b=>?_) (fun b=>?_)
 ·have hf:d.t0.fresh=false:=by cases h:d.t0.fresh with
   |false=>rfl
   |true=>rw[h]at b;cases b
  have e:d.clear 0=d.set 0 ⟨[],0,d.t0.b.take d.t0.safe,true⟩:=by show d.set 0 d.t0.clear=_;unfold He.clear;rw[hf];rfl
  have i:(d.t0.b.take d.t0.safe).length=d.t0.safe:=by rw[AF];omega
  rw[e]
  refine CO (fun w hw=>hw.sqB at0) fun⟨hmc,_⟩=>?_
  refine CS rfl (fun j=>Nat.beq j 13 || Nat.beq j 14 || Nat.beq j 15 || Nat.beq j 16) ?_
  refine D1 0 rfl DC ?_
  refine D2 1 rfl (fun _=>DC) ?_
  refine DA [2,3,4,5,6,7,8,9] ?_
  refine D1 10 rfl (YK (ZR 1 d.t0.safe u53) (by rw[FN,<-i])) ?_
  refine D2 11 rfl (fun _=>Hl) ?_
  refine D1 12 rfl (Ct.fld 2 2 2 u160) ?_
  refine Da 13 ?_
  refine D8 rfl YO ?_
  refine DP [14,15] ?_
  refine Da 16 ?_
  refine D8 rfl YO ?_
  refine OA 15 ?_
  refine O2 (YP rfl (en 148) rfl (.s4 (.t .d)) (FX p _ _ _ _ _ _ _ _ _ c)) ?_
  rintro _ _ ⟨_,⟨rfl,f,rfl⟩,rfl⟩
  refine OA 2 ?_
  refine Ti (Cv.cut (a:=n) (m:=d.t0.b.length) (k:=d.t0.safe) (by omega)) ?_
  rw[<-List.map_take]
  have hg:=i.symm
  generalize d.t0.b.take d.t0.safe=old at hg ⊢
  rw[hg]
  refine Tp (.t (.s4 (.t .d)) (.n (T:=5) (sz:=1) (.t (.t .d) (.t (.s (.t .d)) (.t (.s (.t .d)) .e))))) (Ti (Zl (.t (.t (.t (.t (.t .d))))) (A:=DZ p (d.set 0 ⟨[],0,old,true⟩)) ⟨_,_,_,_,_,_,_,_,_,rfl⟩) ?_)
  exact Cu (Rr ⟨rfl,_,rfl⟩)
 have hf:d.t0.fresh=true:=by cases h:d.t0.fresh with
  |true=>rfl
  |false=>rw[h]at b;cases b
 have e:d.clear 0=d.set 0 ⟨[],0,d.t0.old,true⟩:=by show d.set 0 d.t0.clear=_;unfold He.clear;rw[hf];rfl
 rw[e,hf]
 refine OA 15 ?_
 refine O2 (YP rfl (en 148) rfl (.s4 (.t .d)) (FX p _ _ _ _ _ _ _ _ _ c)) ?_
 rintro _ _ ⟨_,⟨rfl,f,rfl⟩,rfl⟩
 refine OA 2 ?_
 refine Tp (.t (.s4 (.t .d)) (.n (T:=5) (sz:=1) (.t (.s (.t .d)) (.t (.s (.t .d)) (.t (.s (.t .d)) .e))))) (Ti (Zl (.t (.t (.t (.t (.t .d))))) (A:=DZ p (d.set 0 ⟨[],0,d.t0.old,true⟩)) ⟨_,_,_,_,_,_,_,_,_,rfl⟩) ?_)
 exact Cu (Rr ⟨rfl,_,rfl⟩)
theorem Uz(p:Nat)(S:N_)(d:Dw)(hd:d.Ok):
  Sp P0 91 [Cr p,Cs 0] [cm S (DZ p d)] fun v q=>v= Cs 0/\∃g,q=[cm g (DZ p (d.flush 0))]:=by
 have k0:=hd.t0.len
 have k1:=hd.t1.len
 have q0:=hd.t0.safe
 have q1:=hd.t1.safe
 have kr:=hd.room
 refine Sq Tryz.func91 fun w0 b_=>?_
 refine Cx (ZS (.t .d)) ?_
 rintro _ ⟨_,⟨h,e0,a1,e1,i,j,c1,f1,b,rfl⟩,rfl⟩
 refine OA 9 ?_
 refine O8 (YP rfl (en 79) rfl (.t .d) (EF p _ _ _ _ _ _ _ _ _ b 0 (by decide) (by decide))) ?_
 refine OA 7 ?_
 refine CH rfl (fun c=>?_) (fun c=>?_)
 ·omega
 refine OA 5 ?_
 refine O2 (YP rfl (en 148) rfl (.s4 (.t .d)) (FX p _ _ _ _ _ _ _ _ _ b)) ?_
 rintro _ _ ⟨_,⟨rfl,f,rfl⟩,rfl⟩
 refine OA 7 ?_
 refine CH rfl (fun e=>?_) (fun e=>?_)
 ·omega
 refine OA 7 ?_
 refine O1 (Zm 0 0 u161) ?_
 refine OA 26 ?_
 refine Tp (.t (.s4 (.t .d)) (.t (.t .d) (.n (T:=5) (sz:=1) (.t (.s (.t .d)) (.t (.s (.t .d)) .e))))) (Ti (Zl (.t (.t (.t (.t (.t .d))))) (A:=DZ p (d.flush 0)) ⟨_,_,_,_,_,_,_,_,_,rfl⟩) ?_)
 exact Cu (Rr ⟨rfl,_,rfl⟩)
theorem Yr(p:Nat)(S:N_)(d:Dw)(hd:d.Ok):
  Sp P0 37 [Cr p,Cs 0] [cm S (DZ p d)] fun v q=>∃a c f,v= .tuple #[.slice a d.t0.b.length c,Cs 0]/\q=[sq a d.t0.b.length c 5 1 (d.t0.b.map u8),cm f (DZ p d)]:=by
 have k0:=hd.t0.len
 have k1:=hd.t1.len
 have q0:=hd.t0.safe
 have q1:=hd.t1.safe
 have kr:=hd.room
 refine Sq Tryz.func37 fun w0 b_=>?_
 refine Cx (ZS (.t .d)) ?_
 rintro _ ⟨_,⟨g,e0,a1,e1,h,i,c1,f1,b,rfl⟩,rfl⟩
 refine OA 10 ?_
 refine O8 (YP rfl (en 79) rfl (.t .d) (EF p _ _ _ _ _ _ _ _ _ b 0 (by decide) (by decide))) ?_
 refine OA 7 ?_
 refine CH rfl (fun e=>?_) (fun e=>?_)
 ·omega
 refine OA 7 ?_
 refine O1 (Zm 0 0 u161) ?_
 refine OA 2 ?_
 refine O2 (YP rfl (en 77) rfl (.t .d) (Eb g d.t0.b.length h (d.t0.b.map u8) _ .sq (by simp) (EU _) (by omega))) ?_
 rintro _ _ ⟨_,⟨a,c,rfl,rfl⟩,rfl⟩
 refine OA 3 ?_
 refine Tp (.t (.s5 (.t .d)) (.t (.s3 (.t .d)) (.t (.s3 (.t .d)) (.t (.t .d) (.t (.t .d) (.t (.t .d) .e)))))) (Ti (Zl (.s (.t (.t (.t (.t (.t .d)))))) (A:=DZ p (d)) ⟨_,_,_,_,_,_,_,_,_,rfl⟩) ?_)
 exact Cu (Dq rfl rfl rfl (.refl _) ⟨a,c,_,rfl,rfl⟩)
theorem Ur(p:Nat)(S:N_)(d:Dw)(hd:d.Ok)(a:A_)(cap:Nat)(bs:N_)(r:CW)(hr:Reads r a (bs.map u8)):
  Sp P0 89 [Cr p,Cs 1,.slice a bs.length cap] [cm S (DZ p d),r] fun v q=>v= Cs (d.append 1 bs).2/\∃i,q=[r,cm i (DZ p (d.append 1 bs).1)]:=by
 have k0:=hd.t0.len
 have k1:=hd.t1.len
 have q0:=hd.t0.safe
 have q1:=hd.t1.safe
 have kr:=hd.room
 refine Sq Tryz.func89 fun w0 b_=>?_
 refine Cx (ZS (.t .d)) ?_
 rintro _ ⟨_,⟨l,e0,a1,e1,n,o,c1,f1,c,rfl⟩,rfl⟩
 refine OA 9 ?_
 refine O8 (YP rfl (en 79) rfl (.s (.t .d)) (EF p _ _ _ _ _ _ _ _ _ c 1 (by decide) (by decide))) ?_
 refine OA 7 ?_
 refine CH rfl (fun f=>?_) (fun f=>?_)
 ·omega
 refine OA 7 ?_
 refine O1 (Zm 1 4 u161) ?_
 refine OA 4 ?_
 refine CS rfl (fun j=>false) ?_
 refine DA [0,1,2,3,4,5,6,7,8,9,10,11,12] ?_
 refine D0 (Cy rfl (fun g=>?_) (fun g=>?_))
 ·have e:d.append 1 bs=(d,40):=Ah (show d.room<bs.length+d.t1.b.length by omega)
  rw[e]
  refine OA 4 ?_
  refine Tp (.t (.t .d) (.t (.s4 (.t .d)) (.t (.t .d) (.t (.t .d) (.t (.t .d) (.t (.t .d) .e)))))) (Ti (Zl (.s (.t (.t (.t (.t (.t .d)))))) (A:=DZ p (d)) ⟨_,_,_,_,_,_,_,_,_,rfl⟩) ?_)
  exact Cu (Rr ⟨rfl,_,rfl⟩)
 have e:d.append 1 bs=(d.set 1 {d.t1 with b:=d.t1.b++bs},0):=Aa (show ¬d.room<bs.length+d.t1.b.length by omega)
 rw[e]
 refine OA 9 ?_
 refine O2 (ZH Jf hr) ?_
 rintro _ _ ⟨k,m,rfl,rfl⟩
 refine OA 7 ?_
 refine O2 (YP rfl (en 148) rfl (.s5 (.t .d)) (FX p _ _ _ _ _ _ _ _ _ c)) ?_
 rintro _ _ ⟨_,⟨rfl,h,rfl⟩,rfl⟩
 refine OA 2 ?_
 rw[<-Ac,<-AO]
 refine Tp (.t (.t .d) (.t (.s4 (.t .d)) (.t (.t .d) (.t (.t .d) (.t (.t .d) (.t (.t .d) .e)))))) (Ti (Zl (.s (.t (.t (.t (.t (.t .d)))))) (A:=DZ p (d.set 1 {d.t1 with b:=d.t1.b++bs})) ⟨_,_,_,_,_,_,_,_,_,rfl⟩) ?_)
 exact Cu (Rr ⟨rfl,_,rfl⟩)
theorem UL(p:Nat)(S:N_)(d:Dw)(hd:d.Ok):
  Sp P0 87 [Cr p,Cs 1] [cm S (DZ p d)] fun v q=>v= Cs 0/\∃l,q=[cm l (DZ p (d.clear 1))]:=by
 have k0:=hd.t0.len
 have k1:=hd.t1.len
 have q0:=hd.t0.safe
 have q1:=hd.t1.safe
 have kr:=hd.room
 refine Sq Tryz.func87 fun w0 b_=>?_
 refine Cx (ZS (.t .d)) ?_
 rintro _ ⟨_,⟨n,e0,a1,e1,o,r,c1,f1,c,rfl⟩,rfl⟩
 refine OA 9 ?_
 refine O8 (YP rfl (en 79) rfl (.t .d) (EF p _ _ _ _ _ _ _ _ _ c 1 (by decide) (by decide))) ?_
 refine OA 7 ?_
 refine CH rfl (fun g=>?_) (fun g=>?_)
 ·omega
 refine OA 7 ?_
 refine O1 (Zm 1 4 u161) ?_
 refine OA 11 ?_
 refine CE rfl (fun b=>?_) (fun b=>?_)
 ·have hf:d.t1.fresh=false:=by cases h:d.t1.fresh with
   |false=>rfl
   |true=>rw[h]at b;cases b
  have e:d.clear 1=d.set 1 ⟨[],0,d.t1.b.take d.t1.safe,true⟩:=by show d.set 1 d.t1.clear=_;unfold He.clear;rw[hf];rfl
  have i:(d.t1.b.take d.t1.safe).length=d.t1.safe:=by rw[AF];omega
  rw[e]
  refine CO (fun w hw=>hw.sqB at2) fun⟨hmc,_⟩=>?_
  refine CS rfl (fun j=>Nat.beq j 13 || Nat.beq j 14 || Nat.beq j 15 || Nat.beq j 16) ?_
  refine D1 0 rfl DC ?_
  refine D2 1 rfl (fun _=>DC) ?_
  refine DA [2,3,4,5,6,7,8,9] ?_
  refine D1 10 rfl (YK (ZR 1 d.t1.safe u53) (by rw[FN,<-i])) ?_
  refine D2 11 rfl (fun _=>Hl) ?_
  refine D1 12 rfl (Ct.fld 2 2 6 u160) ?_
  refine Da 13 ?_
  refine D8 rfl YO ?_
  refine DP [14,15] ?_
  refine Da 16 ?_
  refine D8 rfl YO ?_
  refine OA 15 ?_
  refine O2 (YP rfl (en 148) rfl (.s4 (.t .d)) (FX p _ _ _ _ _ _ _ _ _ c)) ?_
  rintro _ _ ⟨_,⟨rfl,f,rfl⟩,rfl⟩
  refine OA 2 ?_
  refine Ti (Cv.cut (a:=a1) (m:=d.t1.b.length) (k:=d.t1.safe) (by omega)) ?_
  rw[<-List.map_take]
  have hg:=i.symm
  generalize d.t1.b.take d.t1.safe=old at hg ⊢
  rw[hg]
  refine Tp (.t (.s4 (.t .d)) (.t (.t .d) (.t (.t .d) (.n (T:=5) (sz:=1) (.t (.t .d) .e))))) (Ti (Zl (.t (.t (.t (.t (.t .d))))) (A:=DZ p (d.set 1 ⟨[],0,old,true⟩)) ⟨_,_,_,_,_,_,_,_,_,rfl⟩) ?_)
  exact Cu (Rr ⟨rfl,_,rfl⟩)
 have hf:d.t1.fresh=true:=by cases h:d.t1.fresh with
  |true=>rfl
  |false=>rw[h]at b;cases b
 have e:d.clear 1=d.set 1 ⟨[],0,d.t1.old,true⟩:=by show d.set 1 d.t1.clear=_;unfold He.clear;rw[hf];rfl
 rw[e,hf]
 refine OA 15 ?_
 refine O2 (YP rfl (en 148) rfl (.s4 (.t .d)) (FX p _ _ _ _ _ _ _ _ _ c)) ?_
 rintro _ _ ⟨_,⟨rfl,f,rfl⟩,rfl⟩
 refine OA 2 ?_
 refine Tp (.t (.s4 (.t .d)) (.t (.t .d) (.t (.t .d) (.n (T:=5) (sz:=1) (.t (.s (.t .d)) .e))))) (Ti (Zl (.t (.t (.t (.t (.t .d))))) (A:=DZ p (d.set 1 ⟨[],0,d.t1.old,true⟩)) ⟨_,_,_,_,_,_,_,_,_,rfl⟩) ?_)
 exact Cu (Rr ⟨rfl,_,rfl⟩)
theorem Vw(p:Nat)(S:N_)(d:Dw)(hd:d.Ok):
  Sp P0 91 [Cr p,Cs 1] [cm S (DZ p d)] fun v q=>v= Cs 0/\∃g,q=[cm g (DZ p (d.flush 1))]:=by
 have k0:=hd.t0.len
 have k1:=hd.t1.len
 have q0:=hd.t0.safe
 have q1:=hd.t1.safe
 have kr:=hd.room
 refine Sq Tryz.func91 fun w0 b_=>?_
 refine Cx (ZS (.t .d)) ?_
 rintro _ ⟨_,⟨h,e0,a1,e1,i,j,c1,f1,b,rfl⟩,rfl⟩
 refine OA 9 ?_
 refine O8 (YP rfl (en 79) rfl (.t .d) (EF p _ _ _ _ _ _ _ _ _ b 1 (by decide) (by decide))) ?_
 refine OA 7 ?_
 refine CH rfl (fun c=>?_) (fun c=>?_)
 ·omega
 refine OA 5 ?_
 refine O2 (YP rfl (en 148) rfl (.s4 (.t .d)) (FX p _ _ _ _ _ _ _ _ _ b)) ?_
 rintro _ _ ⟨_,⟨rfl,f,rfl⟩,rfl⟩
 refine OA 7 ?_
 refine CH rfl (fun e=>?_) (fun e=>?_)
 ·omega
 refine OA 7 ?_
 refine O1 (Zm 1 4 u161) ?_
 refine OA 26 ?_
 refine Tp (.t (.s4 (.t .d)) (.t (.t .d) (.t (.t .d) (.t (.t .d) (.n (T:=5) (sz:=1) .e))))) (Ti (Zl (.t (.t (.t (.t (.t .d))))) (A:=DZ p (d.flush 1)) ⟨_,_,_,_,_,_,_,_,_,rfl⟩) ?_)
 exact Cu (Rr ⟨rfl,_,rfl⟩)
theorem Xi(p:Nat)(S:N_)(d:Dw)(hd:d.Ok):
  Sp P0 37 [Cr p,Cs 1] [cm S (DZ p d)] fun v q=>∃a c f,v= .tuple #[.slice a d.t1.b.length c,Cs 0]/\q=[sq a d.t1.b.length c 5 1 (d.t1.b.map u8),cm f (DZ p d)]:=by
 have k0:=hd.t0.len
 have k1:=hd.t1.len
 have q0:=hd.t0.safe
 have q1:=hd.t1.safe
 have kr:=hd.room
 refine Sq Tryz.func37 fun w0 b_=>?_
 refine Cx (ZS (.t .d)) ?_
 rintro _ ⟨_,⟨g,e0,a1,e1,h,i,c1,f1,b,rfl⟩,rfl⟩
 refine OA 10 ?_
 refine O8 (YP rfl (en 79) rfl (.t .d) (EF p _ _ _ _ _ _ _ _ _ b 1 (by decide) (by decide))) ?_
 refine OA 7 ?_
 refine CH rfl (fun e=>?_) (fun e=>?_)
 ·omega
 refine OA 7 ?_
 refine O1 (Zm 1 4 u161) ?_
 refine OA 2 ?_
 refine O2 (YP rfl (en 77) rfl (.s2 (.t .d)) (Eb a1 d.t1.b.length c1 (d.t1.b.map u8) _ .sq (by simp) (EU _) (by omega))) ?_
 rintro _ _ ⟨_,⟨a,c,rfl,rfl⟩,rfl⟩
 refine OA 3 ?_
 refine Tp (.t (.s5 (.t .d)) (.t (.s3 (.t .d)) (.t (.t .d) (.t (.t .d) (.t (.s (.t .d)) (.t (.t .d) .e)))))) (Ti (Zl (.s (.t (.t (.t (.t (.t .d)))))) (A:=DZ p (d)) ⟨_,_,_,_,_,_,_,_,_,rfl⟩) ?_)
 exact Cu (Dq rfl rfl rfl (.refl _) ⟨a,c,_,rfl,rfl⟩)
theorem Ii{ks:List Int}{i:Nat}(h:i<ks.length):(iv ks)[i]? =some (Cs (ks.getD i 0)):=by
 rw[iv,Aq,Ae h,AB,Ae h];rfl
theorem Ms{ks:List Int}{i:Nat}(h:¬i<ks.length):ks.getD i 0=0:=by
 rw[AB,Bn (by omega)];rfl
theorem Qaz{t:He}(h:t.Ok)(k:Int):(t.crash k).b.length<=4194304:=by
 have:=h.len;have:=h.old
 unfold He.crash
 simp only
 split
 ·assumption
 ·rw[AF];omega
theorem LF:Sp P0 77 [.slice none 0 0] [] fun v h=>v= .slice none 0 0/\h=[]:=by
 refine Sq Tryz.func77 fun w0 b_=>?_
 refine OA 8 ?_
 refine O1 (ZO rfl rfl rfl u53) ?_
 refine OA 6 ?_
 exact Cu (Rr ⟨rfl,rfl⟩)
theorem RH(p:Nat)(S:N_)(d:Dw)(hd:d.Ok)(B:A_)(H:Nat)(ks:List Int)(r:CW)(hr:Reads r B (iv ks))(hk:ks.length<=maxLen):
  Sp P0 33 [Cr p,.slice B ks.length H] [cm S (DZ p d),r] fun v q=>v= .tuple #[]/\∃N,q=[r,cm N (DZ p (d.crash ks))]:=by
 have k0:=hd.t0.len
 have k1:=hd.t1.len
 have q0:=hd.t0.safe
 have q1:=hd.t1.safe
 unfold maxLen at hk
 refine Sq Tryz.func33 fun w0 b_=>?_
 refine Cx (ZS (.t .d)) ?_
 rintro _ ⟨_,⟨K,e0,a1,e1,M,L,c1,f1,f,rfl⟩,rfl⟩
 refine OA 14 ?_
 refine Ho 5 ?_
 refine Dv ?_
 refine OA 20 ?_
 refine O1 (Zm 0 0 u161) ?_
 refine OA 11 ?_
 refine CP (fun _:Unit=>[(0,Cr p),(1,.slice B ks.length H),(4,Cs 0),(5,Cr p),(6,Cs (ks.getD 0 0)),(9,Cs 0)]) (fun _=>[r,blk p (.cells (dkc (.slice K d.t0.b.length M) (Cs d.t0.safe) (.slice e0 d.t0.old.length L) (.bool d.t0.fresh) (.slice a1 d.t1.b.length c1) (Cs d.t1.safe) (.slice e1 d.t1.old.length f1) (.bool d.t1.fresh) d.room f).toArray 164 (0,0)),sq K d.t0.b.length M 5 1 (d.t0.b.map u8),sq e0 d.t0.old.length L 5 1 (d.t0.old.map u8),sq a1 d.t1.b.length c1 5 1 (d.t1.b.map u8),sq e1 d.t1.old.length f1 5 1 (d.t1.old.map u8)]) (fun _=>True) ?_ ?_
 ·refine Cy rfl (fun b=>?_) (fun b=>?_)
  ·refine CM at0 hr (Ii (i:=0) (by omega)) fun ad n=>?_
   subst n
   refine OA 3 ?_
   refine O1 (GO 0 u28) ?_
   refine O1 (Ct.reads (j:=0) rfl rfl at0 hr u3 rfl (Ii (i:=0) (by omega))) ?_
   refine OA 2 ?_
   exact⟨(),trivial,Sb6,.refl _⟩
  refine Tk ?_
  exact⟨(),trivial,⟨rfl,rfl,rfl,rfl,Dd rfl (Ms (by omega)).symm,rfl,trivial⟩,.refl _⟩
 intro _ _
 refine OA 2 ?_
 refine DX [25,26,27,28,29,30,31,32] 32 (d.t0.fresh=true/\ks.getD 0 0<0) ?_ ?_
 ·refine OA 6 ?_
  refine Df 29 rfl (fun c=>?_) (fun c=>?_)
  ·refine OA 4 ?_
   exact leX rfl (congrArg Value.bool (by simp[c]))
  refine OA 4 ?_
  exact leX rfl (congrArg Value.bool (by simp[c]))
 refine CP (fun((o,u,C,I,E):A_×Nat×A_×Nat×Nat)=>[(0,Cr p),(1,.slice B ks.length H),(4,Cs 0),(5,Cr p),(6,Cs (ks.getD 0 0)),(9,Cs 0)]) (fun(o,u,C,I,E)=>[r,blk p (.cells (dkc (.slice o (d.t0.crash (ks.getD 0 0)).b.length u) (Cs d.t0.safe) (.slice C I E) (.bool d.t0.fresh) (.slice a1 d.t1.b.length c1) (Cs d.t1.safe) (.slice e1 d.t1.old.length f1) (.bool d.t1.fresh) d.room f).toArray 164 (0,0)),sq o (d.t0.crash (ks.getD 0 0)).b.length u 5 1 ((d.t0.crash (ks.getD 0 0)).b.map u8),sq a1 d.t1.b.length c1 5 1 (d.t1.b.map u8),sq e1 d.t1.old.length f1 5 1 (d.t1.old.map u8)]) (fun _=>True) ?_ ?_
 ·refine Cy rfl (fun e=>?_) (fun e=>?_)
  ·have g:(d.t0.crash (ks.getD 0 0)).b=d.t0.old:=by unfold He.crash;exact Ah e
   refine Tp (.t (.t .d) (.t (.t .d) (.t (.s (.t .d)) (.t (.s (.t .d)) (.t (.s (.t .d)) .e))))) ?_
   rw[<-g]
   refine OA 10 ?_
   exact⟨(e0,L,e0,(d.t0.crash (ks.getD 0 0)).b.length,L),trivial,Sb6,.refl _⟩
  have g:(d.t0.crash (ks.getD 0 0)).b=d.t0.b.take (d.t0.safe+(min (max (ks.getD 0 0) 0) (d.t0.b.length-d.t0.safe:Nat)).toNat):=by unfold He.crash;exact Aa e
  have hcl:(d.t0.crash (ks.getD 0 0)).b.length=d.t0.safe+(min (max (ks.getD 0 0) 0) (d.t0.b.length-d.t0.safe:Nat)).toNat:=by rw[g,AF];omega
  refine CO (fun w hw=>hw.sqB (ao:=K) (m:=d.t0.b.length) at2) fun⟨hmc,_⟩=>?_
  refine Ti (Cv.cut (a:=K) (m:=d.t0.b.length) (k:=d.t0.safe+(min (max (ks.getD 0 0) 0) (d.t0.b.length-d.t0.safe:Nat)).toNat) (by omega)) ?_
  rw[<-List.map_take,<-g,<-hcl]
  refine Tp (.t (.t .d) (.t (.t .d) (.t (.t .d) (.t (.s (.t .d)) (.t (.s (.t .d)) .e))))) (CS rfl (fun j=>Nat.beq j 26) ?_)
  refine DA [0,1,2,3,4,5,6,7,8,9] ?_
  refine D1 10 rfl (Zq rfl rfl rfl) ?_
  refine DA [11,12,13,14,15,16,17,18,19,20] ?_
  refine D1 21 rfl (Zo rfl rfl rfl) ?_
  refine D1 22 rfl SX ?_
  refine D1 23 rfl (YK (ZR 1 (d.t0.safe+(min (max (ks.getD 0 0) 0) (d.t0.b.length-d.t0.safe:Nat)).toNat) u53) (by rw[FN,<-hcl])) ?_
  refine D2 24 rfl (fun _=>Hl) ?_
  refine D1 25 rfl (Ct.fld 0 0 0 u160) ?_
  refine Da 26 ?_
  refine D8 rfl YO ?_
  refine D0 ?_
  exact⟨(K,_,e0,d.t0.old.length,L),trivial,Sb6,.refl _⟩
 rintro⟨o,u,C,I,E⟩ _
 have hbl:(d.t0.crash (ks.getD 0 0)).b.length<=4194304:=Qaz hd.t0 _
 refine Cw (.s (.t .d)) rfl (fun j=>Nat.beq j 13) ?_
 intro G
 refine DA [0,1,2,3,4,6,7,8,9,10] ?_
 refine Da 5 ?_
 refine D6 rfl (YP rfl (en 77) rfl ((.s2 (.t .d))) (Eb _ _ _ _ _ .sq (by simp) (EU _) (by omega))) ?_
 rintro _ _ ⟨_,⟨h,l,rfl,rfl⟩,rfl⟩
 refine ys (DA [11,12] ?_)
 refine Da 13 ?_
 refine D8 rfl YO ?_
 refine D0 (Tp (.t (.t .d) (.t (.t .d) (.t (.s3 (.t .d)) (.t (.t .d) (.t (.t .d) .e))))) (OA 4 ?_))
 refine Dv ?_
 refine OA 20 ?_
 refine O1 (Zm 1 4 u161) ?_
 refine OA 11 ?_
 refine CP (fun _:Unit=>[(0,Cr p),(1,.slice B ks.length H),(4,Cs 1),(5,.pointer (some ⟨p,4,none⟩)),(6,Cs (ks.getD 1 0)),(9,Cs 1)]) (fun _=>[r,blk p (.cells (dkc (.slice h (d.t0.crash (ks.getD 0 0)).b.length l) (Cs (d.t0.crash (ks.getD 0 0)).b.length) (.slice none 0 0) (.bool false) (.slice a1 d.t1.b.length c1) (Cs d.t1.safe) (.slice e1 d.t1.old.length f1) (.bool d.t1.fresh) d.room f).toArray 164 (0,0)),sq h (d.t0.crash (ks.getD 0 0)).b.length l 5 1 ((d.t0.crash (ks.getD 0 0)).b.map u8),sq a1 d.t1.b.length c1 5 1 (d.t1.b.map u8),sq e1 d.t1.old.length f1 5 1 (d.t1.old.map u8)]) (fun _=>True) ?_ ?_
 ·refine Cy rfl (fun b=>?_) (fun b=>?_)
  ·refine CM at0 hr (Ii (i:=1) (by omega)) fun ad n=>?_
   subst n
   refine OA 3 ?_
   refine O1 (GO 1 u28) ?_
   refine O1 (Ct.reads (j:=1) rfl rfl at0 hr u3 rfl (Ii (i:=1) (by omega))) ?_
   refine OA 2 ?_
   exact⟨(),trivial,Sb6,.refl _⟩
  refine Tk ?_
  exact⟨(),trivial,⟨rfl,rfl,rfl,rfl,Dd rfl (Ms (by omega)).symm,rfl,trivial⟩,.refl _⟩
 intro _ _
 refine OA 2 ?_
 refine DX [25,26,27,28,29,30,31,32] 32 (d.t1.fresh=true/\ks.getD 1 0<0) ?_ ?_
 ·refine OA 6 ?_
  refine Df 29 rfl (fun c=>?_) (fun c=>?_)
  ·refine OA 4 ?_
   exact leX rfl (congrArg Value.bool (by simp[c]))
  refine OA 4 ?_
  exact leX rfl (congrArg Value.bool (by simp[c]))
 refine CP (fun((s,x,D,J,F):A_×Nat×A_×Nat×Nat)=>[(0,Cr p),(1,.slice B ks.length H),(4,Cs 1),(5,.pointer (some ⟨p,4,none⟩)),(6,Cs (ks.getD 1 0)),(9,Cs 1)]) (fun(s,x,D,J,F)=>[r,blk p (.cells (dkc (.slice h (d.t0.crash (ks.getD 0 0)).b.length l) (Cs (d.t0.crash (ks.getD 0 0)).b.length) (.slice none 0 0) (.bool false) (.slice s (d.t1.crash (ks.getD 1 0)).b.length x) (Cs d.t1.safe) (.slice D J F) (.bool d.t1.fresh) d.room f).toArray 164 (0,0)),sq h (d.t0.crash (ks.getD 0 0)).b.length l 5 1 ((d.t0.crash (ks.getD 0 0)).b.map u8),sq s (d.t1.crash (ks.getD 1 0)).b.length x 5 1 ((d.t1.crash (ks.getD 1 0)).b.map u8)]) (fun _=>True) ?_ ?_
 ·refine Cy rfl (fun e=>?_) (fun e=>?_)
  ·have g:(d.t1.crash (ks.getD 1 0)).b=d.t1.old:=by unfold He.crash;exact Ah e
   refine Tp (.t (.t .d) (.t (.t .d) (.t (.t .d) (.t (.s (.t .d)) .e)))) ?_
   rw[<-g]
   refine OA 10 ?_
   exact⟨(e1,f1,e1,(d.t1.crash (ks.getD 1 0)).b.length,f1),trivial,Sb6,.refl _⟩
  have g:(d.t1.crash (ks.getD 1 0)).b=d.t1.b.take (d.t1.safe+(min (max (ks.getD 1 0) 0) (d.t1.b.length-d.t1.safe:Nat)).toNat):=by unfold He.crash;exact Aa e
  have hcl:(d.t1.crash (ks.getD 1 0)).b.length=d.t1.safe+(min (max (ks.getD 1 0) 0) (d.t1.b.length-d.t1.safe:Nat)).toNat:=by rw[g,AF];omega
  refine CO (fun w hw=>hw.sqB (ao:=a1) (m:=d.t1.b.length) at3) fun⟨hmc,_⟩=>?_
  refine Ti (Cv.cut (a:=a1) (m:=d.t1.b.length) (k:=d.t1.safe+(min (max (ks.getD 1 0) 0) (d.t1.b.length-d.t1.safe:Nat)).toNat) (by omega)) ?_
  rw[<-List.map_take,<-g,<-hcl]
  refine Tp (.t (.t .d) (.t (.t .d) (.t (.t .d) (.t (.t .d) .e)))) (CS rfl (fun j=>Nat.beq j 26) ?_)
  refine DA [0,1,2,3,4,5,6,7,8,9] ?_
  refine D1 10 rfl (Zq rfl rfl rfl) ?_
  refine DA [11,12,13,14,15,16,17,18,19,20] ?_
  refine D1 21 rfl (Zo rfl rfl rfl) ?_
  refine D1 22 rfl SX ?_
  refine D1 23 rfl (YK (ZR 1 (d.t1.safe+(min (max (ks.getD 1 0) 0) (d.t1.b.length-d.t1.safe:Nat)).toNat) u53) (by rw[FN,<-hcl])) ?_
  refine D2 24 rfl (fun _=>Hl) ?_
  refine D1 25 rfl (Ct.fld 0 0 4 u160) ?_
  refine Da 26 ?_
  refine D8 rfl YO ?_
  refine D0 ?_
  exact⟨(a1,_,e1,d.t1.old.length,f1),trivial,Sb6,.refl _⟩
 rintro⟨s,x,D,J,F⟩ _
 have hbl:(d.t1.crash (ks.getD 1 0)).b.length<=4194304:=Qaz hd.t1 _
 refine Cw (.s (.t .d)) rfl (fun j=>Nat.beq j 13) ?_
 intro G
 refine DA [0,1,2,3,4,6,7,8,9,10] ?_
 refine Da 5 ?_
 refine D6 rfl (YP rfl (en 77) rfl ((.s3 (.t .d))) (Eb _ _ _ _ _ .sq (by simp) (EU _) (by omega))) ?_
 rintro _ _ ⟨_,⟨t,y,rfl,rfl⟩,rfl⟩
 refine ys (DA [11,12] ?_)
 refine Da 13 ?_
 refine D8 rfl YO ?_
 refine D0 (Tp (.t (.t .d) (.t (.t .d) (.t (.t .d) (.t (.s (.t .d)) .e)))) (OA 4 ?_))
 refine Dv ?_
 refine OA 20 ?_
 refine O1 (Zm 2 8 u161) ?_
 refine OA 11 ?_
 refine CP (fun _:Unit=>[(0,Cr p),(1,.slice B ks.length H),(4,Cs 2),(5,.pointer (some ⟨p,8,none⟩)),(6,Cs (ks.getD 2 0)),(9,Cs 2)]) (fun _=>[r,blk p (.cells (dkc (.slice h (d.t0.crash (ks.getD 0 0)).b.length l) (Cs (d.t0.crash (ks.getD 0 0)).b.length) (.slice none 0 0) (.bool false) (.slice t (d.t1.crash (ks.getD 1 0)).b.length y) (Cs (d.t1.crash (ks.getD 1 0)).b.length) (.slice none 0 0) (.bool false) d.room f).toArray 164 (0,0)),sq h (d.t0.crash (ks.getD 0 0)).b.length l 5 1 ((d.t0.crash (ks.getD 0 0)).b.map u8),sq t (d.t1.crash (ks.getD 1 0)).b.length y 5 1 ((d.t1.crash (ks.getD 1 0)).b.map u8)]) (fun _=>True) ?_ ?_
 ·refine Cy rfl (fun b=>?_) (fun b=>?_)
  ·refine CM at0 hr (Ii (i:=2) (by omega)) fun ad n=>?_
   subst n
   refine OA 3 ?_
   refine O1 (GO 2 u28) ?_
   refine O1 (Ct.reads (j:=2) rfl rfl at0 hr u3 rfl (Ii (i:=2) (by omega))) ?_
   refine OA 2 ?_
   exact⟨(),trivial,Sb6,.refl _⟩
  refine Tk ?_
  exact⟨(),trivial,⟨rfl,rfl,rfl,rfl,Dd rfl (Ms (by omega)).symm,rfl,trivial⟩,.refl _⟩
 intro _ _
 refine OA 13 ?_
 refine CS rfl (fun j=>Nat.beq j 26) ?_
 refine DA [0,1,2,3,4,5,6,7,8,9] ?_
 refine D1 10 rfl (Zq rfl rfl rfl) ?_
 refine DA [11,12,13,14,15,16,17,18,19,20] ?_
 refine D1 21 rfl (Zo rfl rfl rfl) ?_
 refine D1 22 rfl SX ?_
 refine D1 23 rfl (YK (v':=.slice none 0 0) (ZR 1 0 u53) rfl) ?_
 refine D2 24 rfl (fun _=>Hl) ?_
 refine D1 25 rfl (Ct.fld 0 0 8 u160) ?_
 refine Da 26 ?_
 refine D8 rfl YO ?_
 refine D0 (Cw (.s (.t .d)) rfl (fun j=>Nat.beq j 13) ?_)
 intro G
 refine DA [0,1,2,3,4,6,7,8,9,10] ?_
 refine Da 5 ?_
 refine Gz rfl (Zc rfl (en 77) rfl (LF)) ?_
 refine DA [11,12] ?_
 refine Da 13 ?_
 refine D8 rfl YO ?_
 refine OA 5 ?_
 refine Dv ?_
 refine OA 20 ?_
 refine O1 (Zm 3 12 u161) ?_
 refine OA 11 ?_
 refine CP (fun _:Unit=>[(0,Cr p),(1,.slice B ks.length H),(4,Cs 3),(5,.pointer (some ⟨p,12,none⟩)),(6,Cs (ks.getD 3 0)),(9,Cs 3)]) (fun _=>[r,blk p (.cells (dkc (.slice h (d.t0.crash (ks.getD 0 0)).b.length l) (Cs (d.t0.crash (ks.getD 0 0)).b.length) (.slice none 0 0) (.bool false) (.slice t (d.t1.crash (ks.getD 1 0)).b.length y) (Cs (d.t1.crash (ks.getD 1 0)).b.length) (.slice none 0 0) (.bool false) d.room f).toArray 164 (0,0)),sq h (d.t0.crash (ks.getD 0 0)).b.length l 5 1 ((d.t0.crash (ks.getD 0 0)).b.map u8),sq t (d.t1.crash (ks.getD 1 0)).b.length y 5 1 ((d.t1.crash (ks.getD 1 0)).b.map u8)]) (fun _=>True) ?_ ?_
 ·refine Cy rfl (fun b=>?_) (fun b=>?_)
  ·refine CM at0 hr (Ii (i:=3) (by omega)) fun ad n=>?_
   subst n
   refine OA 3 ?_
   refine O1 (GO 3 u28) ?_
   refine O1 (Ct.reads (j:=3) rfl rfl at0 hr u3 rfl (Ii (i:=3) (by omega))) ?_
   refine OA 2 ?_
   exact⟨(),trivial,Sb6,.refl _⟩
  refine Tk ?_
  exact⟨(),trivial,⟨rfl,rfl,rfl,rfl,Dd rfl (Ms (by omega)).symm,rfl,trivial⟩,.refl _⟩
 intro _ _
 refine OA 13 ?_
 refine CS rfl (fun j=>Nat.beq j 26) ?_
 refine DA [0,1,2,3,4,5,6,7,8,9] ?_
 refine D1 10 rfl (Zq rfl rfl rfl) ?_
 refine DA [11,12,13,14,15,16,17,18,19,20] ?_
 refine D1 21 rfl (Zo rfl rfl rfl) ?_
 refine D1 22 rfl SX ?_
 refine D1 23 rfl (YK (v':=.slice none 0 0) (ZR 1 0 u53) rfl) ?_
 refine D2 24 rfl (fun _=>Hl) ?_
 refine D1 25 rfl (Ct.fld 0 0 12 u160) ?_
 refine Da 26 ?_
 refine D8 rfl YO ?_
 refine D0 (Cw (.s (.t .d)) rfl (fun j=>Nat.beq j 13) ?_)
 intro G
 refine DA [0,1,2,3,4,6,7,8,9,10] ?_
 refine Da 5 ?_
 refine Gz rfl (Zc rfl (en 77) rfl (LF)) ?_
 refine DA [11,12] ?_
 refine Da 13 ?_
 refine D8 rfl YO ?_
 refine OA 5 ?_
 refine Dv ?_
 refine OA 17 ?_
 refine Dk rfl (Cv.then (YN (.t (.t .d) (.t (.t .d) (.t (.t .d) (.n (T:=5) (sz:=1) (.t (.t .d) (.n (T:=5) (sz:=1) .e))))))) ?_)
 rintro _ rfl
 refine Cv.then (Zl (.s (.t (.t (.t (.t (.t .d)))))) (A:=DZ p (d.crash ks)) ⟨_,_,_,_,_,_,_,_,_,rfl⟩) ?_
 rintro _ rfl
 exact YM ⟨rfl,_,rfl⟩
theorem Eu.append{a b:N_}(ha:Eu a)(hb:Eu b):Eu (a++b):=fun x hx=>(AC.1 hx).elim (ha x) (hb x)
theorem Eu.nil:Eu []:=fun _ h=>by cases h
theorem Eu.take{a:N_}(ha:Eu a)(n:Nat):Eu (a.take n):=fun x hx=>ha x (Bx hx)
theorem JO(k:Int){d:N_}(h:Eu d):Eu (Dt k d).1:=by
 unfold Dt
 split
 ·exact .nil
 ·split
  ·exact .nil
  ·exact Eu.append (Eu.append (Eu.append (KA _) (KA _)) (KA _)) h
theorem Dw.Ok.tape{d:Dw}(h:d.Ok)(t:Nat):(d.tape t).Ok:=by
 unfold Dw.tape;split
 ·exact h.t0
 ·exact h.t1
theorem Dw.Ok.set{d:Dw}(h:d.Ok)(t:Nat){x:He}(hx:x.Ok):(d.set t x).Ok:=by
 unfold Dw.set;split
 ·exact⟨hx,h.t1,h.room⟩
 ·exact⟨h.t0,hx,h.room⟩
theorem He.Ok.clear{t:He}(h:t.Ok):t.clear.Ok:=by
 have h1:=h.len
 refine⟨Af _,Af _,?_,.nil,?_⟩
 ·unfold He.clear;simp only;split
  ·exact h.old
  ·rw[AF];omega
 ·unfold He.clear;simp only;split
  ·exact h.oby
  ·exact h.byt.take _
theorem Dw.Ok.clear{d:Dw}(h:d.Ok)(t:Nat):(d.clear t).Ok:=h.set t (h.tape t).clear
theorem Dw.Ok.append{d:Dw}(h:d.Ok)(t:Nat){bs:N_}(hb:Eu bs):(d.append t bs).1.Ok:=by
 unfold Dw.append
 split
 ·exact h
 ·have k:=h.tape t
  have k1:=k.safe
  have k2:=h.room
  exact h.set t ⟨by simp only[List.length_append];omega,by simp only[List.length_append];omega,k.old,k.byt.append hb,k.oby⟩
theorem Dw.Ok.flush{d:Dw}(h:d.Ok)(t:Nat):(d.flush t).Ok:=by
 have k:=h.tape t
 exact h.set t ⟨Al _,k.len,Af _,k.byt,.nil⟩
theorem He.Ok.crash{t:He}(h:t.Ok)(k:Int):(t.crash k).Ok:=by
 refine⟨Al _,Qaz h k,Af _,?_,.nil⟩
 unfold He.crash;simp only;split
 ·exact h.oby
 ·exact h.byt.take _
theorem Dw.Ok.crash{d:Dw}(h:d.Ok)(ks:List Int):(d.crash ks).Ok:=⟨h.t0.crash _,h.t1.crash _,h.room⟩
structure EA where
 turn:Nat
 state:N_
 notes:List N_
def Fh(turn notes:Nat):N_:=(((CF.mk [] 0).num turn).num notes).b
def headD(turn notes:Nat)(state:N_):N_:=[(Fh turn notes).length]++Fh turn notes++state
def Ie(turn notes:Nat)(state:N_):N_×Int:=Dt 1 (headD turn notes state)
def EA.append(l:EA)(d:Dw)(b:N_):EA×Dw×Int:=
 if(Dt 2 b).2≠0 then (l,d,(Dt 2 b).2)
 else if(d.append (l.turn%2) (Dt 2 b).1).2≠0 then (l,d,(d.append (l.turn%2) (Dt 2 b).1).2)
 else ({l with notes:=l.notes++[b]},(d.append (l.turn%2) (Dt 2 b).1).1,0)
def EA.sync(l:EA)(d:Dw):Dw:=d.flush (l.turn%2)
def Dz(L:PL)(c:V_)(ns:List N_):Prop:=c.length=ns.length/\∀(i:Nat) (v:Value) (b:N_),c[i]? =some v->ns[i]? =some b->Bs L v b
theorem Dz.le{L L':PL}(k:Le L L'){c:V_}{ns:List N_}(h:Dz L c ns):Dz L' c ns:=⟨h.1,fun i v b hv hb=>(h.2 i v b hv hb).le k⟩
theorem Dz.nil(L:PL):Dz L [] []:=⟨rfl,fun i v b hv _=>by cases hv⟩
theorem Dz.snoc{L:PL}{d:V_}{ns:List N_}{v:Value}{b:N_}(h:Dz L d ns)(hb:Bs L v b):Dz L (d++[v]) (ns++[b]):=by
 refine⟨by simp[h.1],fun i u c e hc=>?_⟩
 rcases Nat.lt_trichotomy i d.length with hi|hi|hi
 ·rw[Bh hi]at e
  rw[Bh (by rw[<-h.1];exact hi)]at hc
  exact h.2 i u c e hc
 ·subst hi
  rw[Bl (Al _),Cb]at e
  rw[h.1,Bl (Al _),Cb]at hc
  cases e;cases hc;exact hb
 ·rw[Bn (by simp;omega)]at e;cases e
theorem Bs.sh{L:PL}{v:Value}{b:N_}(h:Bs L v b):∃a c,v= .slice a b.length c/\b.length<=c/\b.length<=maxLen:=by
 obtain⟨⟨a,c,e,h1,h2,_⟩,_⟩:=h
 exact⟨a,c,e,h1,h2⟩
theorem Dz.sh{L:PL}{d:V_}{ns:List N_}(h:Dz L d ns):∀u∈d,EL u=true:=by
 intro u e
 obtain⟨i,hi⟩:=BU.1 e
 have hil:=(Ab.1 hi).1
 obtain⟨b,hb⟩:∃b,ns[i]? =some b:=⟨_,Ae (by rw[<-h.1];exact hil)⟩
 obtain⟨a,c,rfl,_⟩:=(h.2 i u b hi hb).sh
 rfl
abbrev OY(b turn:Nat)(vs c:Value):V_:=[Cr b,Cs turn,vs,c,.bool false]
def Ey(p f:Nat)(L:PL)(l:EA)(rs:Mem):Prop:=∃(e c:A_) (sc d:Nat) (b:V_),
 rs=[blk p (.cells (OY f l.turn (.slice e l.state.length sc) (.slice c b.length d)).toArray 111 (0,0)),sq c b.length d 53 1 b]/\Bs L (.slice e l.state.length sc) l.state/\Dz L b l.notes
theorem Ey.le{p c:Nat}{L L':PL}{l:EA}(k:Le L L'):∀rs,Ey p c L l rs->Ey p c L' l rs:=by
 rintro rs ⟨g,d,sc,f,b,e,h1,h2⟩
 exact⟨g,d,sc,f,b,e,h1.le k,h2.le k⟩
theorem Gw(turn notes:Nat)(h1:turn<18446744073709551616)(h2:notes<18446744073709551616):(Fh turn notes).length<=33/\Eu (Fh turn notes):=by
 have h0:(CF.mk [] 0).Ok:=⟨rfl,fun _ h=>by cases h⟩
 have k1:=CF.num_ok h0 turn
 have k2:=CF.num_ok k1 notes
 have n1:=ZA (w:=CF.mk [] 0) h1
 have n2:=ZA (w:=(CF.mk [] 0).num turn) h2
 have hl:=k2.len
 refine⟨?_,k2.byt⟩
 unfold Fh
 simp only at n1
 omega
theorem Qo(k:Int)(d:N_):(Dt k d).1.length<=65548:=by
 unfold Dt
 split
 ·show 0<=_;omega
 ·split
  ·show 0<=_;omega
  ·show(fr3 k d++d).length<=_
   rw[Ac,show(fr3 k d).length=12 from rfl];omega
theorem Oy(t:Nat)(ht:t<2)(p:Nat)(S:N_)(d:Dw)(hd:d.Ok)(a:A_)(cap:Nat)(bs:N_)(r:CW)(hr:Reads r a (bs.map u8)):
  Sp P0 89 [Cr p,Cs t,.slice a bs.length cap] [cm S (DZ p d),r] fun v q=>v= Cs (d.append t bs).2/\∃b,q=[r,cm b (DZ p (d.append t bs).1)]:=by
 match t,ht with
 |0,_=>exact Ux p S d hd a cap bs r hr
 |1,_=>exact Ur p S d hd a cap bs r hr
theorem Yy(t:Nat)(ht:t<2)(p:Nat)(S:N_)(d:Dw)(hd:d.Ok):
  Sp P0 87 [Cr p,Cs t] [cm S (DZ p d)] fun v q=>v= Cs 0/\∃b,q=[cm b (DZ p (d.clear t))]:=by
 match t,ht with
 |0,_=>exact Vv p S d hd
 |1,_=>exact UL p S d hd
theorem PP(t:Nat)(ht:t<2)(p:Nat)(S:N_)(d:Dw)(hd:d.Ok):
  Sp P0 91 [Cr p,Cs t] [cm S (DZ p d)] fun v q=>v= Cs 0/\∃b,q=[cm b (DZ p (d.flush t))]:=by
 match t,ht with
 |0,_=>exact Uz p S d hd
 |1,_=>exact Vw p S d hd
theorem HW(n:Nat)(hn:n<9223372036854775808):Sp P0 39 [Cs n] [] fun v h=>v= Cs ((n%2:Nat):Int)/\h=[]:=by
 refine Sq Tryz.func39 fun w0 b_=>?_
 refine OA 7 ?_
 refine O1 (YT (Za rfl rfl rfl) (and1i hn)) ?_
 refine OA 2 ?_
 exact Cu (Rr ⟨rfl,rfl⟩)
theorem GG(p b turn:Nat)(vs c:Value)(e:Int)(he:e≠2):Sp P0 92 [Cr p,Cs e] [blk p (.cells (OY b turn vs c).toArray 111 (0,0))] fun v h=>v= Cs e/\h=[blk p (.cells (OY b turn vs c).toArray 111 (0,0))]:=by
 refine Sq Tryz.func92 fun w0 b_=>?_
 refine OA 13 ?_
 refine O1 (YK (v':=.bool false) (Ct.eql rfl rfl rfl) (by rw[AX he])) ?_
 refine OA 10 ?_
 exact Cu (Rr ⟨rfl,rfl⟩)
theorem IE(p b turn:Nat)(vs c:Value):Sp P0 151 [Cr p] [blk p (.cells (OY b turn vs c).toArray 111 (0,0))] fun v h=>v= Cs 0/\h=[blk p (.cells (OY b turn vs c).toArray 111 (0,0))]:=by
 refine Sq Tryz.func151 fun w0 b_=>?_
 refine OA 27 ?_
 exact Cu (Rr ⟨rfl,rfl⟩)
theorem Uw(p b turn:Nat)(vs c:Value):Sp P0 50 [Cr p] [blk p (.cells (OY b turn vs c).toArray 111 (0,0))] fun v h=>v= .bool false/\h=[blk p (.cells (OY b turn vs c).toArray 111 (0,0))]:=by
 refine Sq Tryz.func50 fun w0 b_=>?_
 refine OA 16 ?_
 exact Cu (Rr ⟨rfl,rfl⟩)
theorem Vo(p b turn:Nat)(vs c:Value)(ht:turn<9223372036854775808)(S:N_)(d:Dw)(hd:d.Ok):
  Sp P0 103 [Cr p] [blk p (.cells (OY b turn vs c).toArray 111 (0,0)),cm S (DZ b d)] fun v h=>v= Cs 0/\∃e,h=[blk p (.cells (OY b turn vs c).toArray 111 (0,0)),cm e (DZ b (d.flush (turn%2)))]:=by
 refine Sq Tryz.func103 fun w0 b_=>?_
 refine OA 8 ?_
 refine O8 (YP rfl (en 151) rfl (.t .d) (IE p b turn vs c)) ?_
 refine OA 7 ?_
 refine CH rfl (fun f=>?_) (fun f=>?_)
 ·omega
 refine OA 2 ?_
 refine Cw (.s (.t .d)) rfl (fun j=>false) ?_
 intro g
 refine DA [0,1,2,3,4,5,6,7,8] ?_
 refine Da 9 ?_
 refine Gz rfl (Zc rfl (en 39) rfl (HW turn ht)) ?_
 refine Da 10 ?_
 refine D6 rfl (YP rfl (en 91) rfl (.t .d) (PP (turn%2) (by omega) b S d hd)) ?_
 rintro _ _ ⟨_,⟨rfl,e,rfl⟩,rfl⟩
 refine ys (Da 11 ?_)
 refine D6 rfl (YP rfl (en 92) rfl (.t .d) (GG p b turn vs c 0 (by decide))) ?_
 rintro _ _ ⟨_,⟨rfl,rfl⟩,rfl⟩
 refine ys (D1 12 rfl FC ?_)
 refine D0 (Ti (QaY (.t .d)) ?_)
 exact Cu (Rr ⟨rfl,e,rfl⟩)
theorem OH(turn notes:Nat)(ht:turn<9223372036854775808)(hn:notes<9223372036854775808)(a:A_)(c:Nat)(st:N_)(r:CW)(hr:Reads r a (st.map u8))(hs:st.length<8796093022208):
  Sp P0 84 [Cs turn,Cs notes,.slice a st.length c] [r] fun v h=>∃f g,v= .tuple #[.slice f (Ie turn notes st).1.length g,Cs (Ie turn notes st).2]/\h=[r,sq f (Ie turn notes st).1.length g 5 1 ((Ie turn notes st).1.map u8)]:=by
 have h0:(CF.mk [] 0).Ok:=⟨rfl,fun _ h=>by cases h⟩
 have k1:=CF.num_ok h0 turn
 have k2:=CF.num_ok k1 notes
 have n1:=ZA (w:=CF.mk [] 0) (x:=turn) (by omega)
 have hb:=(Gw turn notes (by omega) (by omega)).1
 refine Sq Tryz.func84 fun w0 b_=>?_
 refine OA 8 ?_
 refine O6 YR fun d=>?_
 refine OA 2 ?_
 refine Ti (Cv.nil 5 1) (OA 4 ?_)
 refine O1 (Zw rfl rfl u3 u22 (Eh (by omega))) ?_
 refine O2 (YP rfl (en 121) rfl (.s (.t (.t .d))) (JP d none 0 ⟨[],0⟩ h0 (by decide) turn (by omega))) ?_
 rintro _ _ ⟨_,⟨rfl,a1,c1,rfl⟩,rfl⟩
 refine OA 5 ?_
 refine O1 (Zw rfl rfl u3 u22 (Eh (by omega))) ?_
 refine O2 (YP rfl (en 121) rfl (.s (.t (.t .d))) (JP d a1 c1 _ k1 (by simp only at n1;omega) notes (by omega))) ?_
 rintro _ _ ⟨_,⟨rfl,a2,c2,rfl⟩,rfl⟩
 refine OA 4 ?_
 refine O2 (YP rfl (en 123) rfl (.s (.t (.t .d))) (LS d a2 c2 _ (by show(Fh turn notes).length<_;omega))) ?_
 rintro _ _ ⟨_,⟨a3,i,rfl,rfl⟩,rfl⟩
 obtain⟨B,hB⟩:∃B,B=Fh turn notes:=⟨_,rfl⟩
 rw[show(((CF.mk [] 0).num turn).num notes).b=B from hB.symm]
 rw[<-hB]at hb
 have l:Ie turn notes st=Dt 1 ([B.length]++B++st):=by rw[hB];rfl
 refine OA 6 ?_
 refine O1 (Zw rfl rfl u3 u5 (u8_lt (show B.length<256 by omega))) ?_
 refine O6 (YY u53) fun e=>?_
 refine CL (Cv.asSq (b:=e) 1 1 (by decide) (hc:=rfl)) ?_
 rintro _ rfl
 refine O1 DC ?_
 refine O2 (ZH Jf (.sq (ao:=a3) (m:=B.length) (cap:=i) (T:=5) (sz:=1) (xs:=B.map u8))) ?_
 rintro _ _ ⟨a4,n,rfl,rfl⟩
 refine O1 DC ?_
 refine O2 (ZH Jf hr) ?_
 rintro _ _ ⟨a5,j,rfl,rfl⟩
 rw[show 1+B.length+st.length=([B.length]++B++st).length from by simp only[List.length_append,List.length_singleton],show [Value.int .u8 (B.length:Int)]++B.map u8++st.map u8=([B.length]++B++st).map u8 from by simp only[List.map_append,List.map_cons,List.map_nil,u8]]
 have hlen:([B.length]++B++st).length<17592186044416:=by simp only[List.length_append,List.length_singleton];omega
 refine O1 (Xb bt171.h) ?_
 refine O2 (YP rfl (en 85) rfl (.s4 (.t .d)) (Kf 1 a5 j ([B.length]++B++st) _ .sq hlen)) ?_
 rintro _ _ ⟨_,⟨a6,k,rfl,rfl⟩,rfl⟩
 refine OA 5 ?_
 rw[l]
 exact Cu (Dq rfl rfl rfl (Ax _ (List.Sublist.cons _ (List.Sublist.cons _ (List.Sublist.cons _ (List.Sublist.cons _ (.refl _)))))) ⟨a6,k,rfl,rfl⟩)
theorem Ww(d:Dw)(t:Nat)(bs:N_):(d.append t bs).2≠2:=by
 unfold Dw.append
 split
 ·show(40:Int)≠2;decide
 ·show(0:Int)≠2;decide
theorem VX{d:Dw}{t:Nat}{bs:N_}(h:¬(d.append t bs).2=0):(d.append t bs).1=d:=by
 unfold Dw.append at h ⊢
 split
 ·rfl
 ·rename_i q;rw[Aa q]at h;exact absurd rfl h
theorem Xx(p i:Nat)(S s:N_)(L:PL)(l:EA)(d:Dw)(hd:d.Ok)(ht:l.turn<9223372036854775808)(hn:l.notes.length<1099511627776)(a:A_)(c:Nat)(b:N_)(hb:Bs L (.slice a b.length c) b)(hbl:b.length<8796093022208):
  Sp P0 101 [Cr p,.slice a b.length c] [cm S (Ey p i L l),cm s (DZ i d),pool L] fun v h=>∃L' y S2',Le L L'/\v= Cs (l.append d b).2.2/\h=[cm y (Ey p i L' (l.append d b).1),cm S2' (DZ i (l.append d b).2.1),pool L']:=by
 have hr:=Reads.pool hb.1
 refine Sq Tryz.func101 fun w0 b_=>?_
 refine Cx (ZS (.t .d)) ?_
 rintro _ ⟨_,⟨r,w,sc,x,k,rfl,hst,hns⟩,rfl⟩
 have hvl:=hns.1
 refine OA 8 ?_
 refine O8 (Zd rfl (en 151) rfl (.p2 .d) (IE p i _ _ _)) ?_
 refine OA 7 ?_
 refine CH rfl (fun n=>?_) (fun n=>?_)
 ·omega
 refine OA 5 ?_
 refine Oc rfl (en 85) rfl (.p1 .d) (Kf 2 a c b _ hr (by omega)) ?_
 rintro _ _ ⟨a1,c1,rfl,rfl⟩
 refine OA 12 ?_
 refine CH rfl (fun g=>?_) (fun g=>?_)
 ·have e:l.append d b=(l,d,(Dt 2 b).2):=Ah g
  rw[e]
  refine OA 5 ?_
  refine Ti (Zb (.p2 (.p1 .d)) (A:=Ey p i L l) ⟨r,w,sc,x,k,rfl,hst,hns⟩) (Tp (.t3 (.t0 (.t0 .e))) ?_)
  exact Cu (CB rfl rfl (.refl _) ⟨L,_,_,.refl _,rfl,rfl⟩)
 have e1:l.append d b=if(d.append (l.turn%2) (Dt 2 b).1).2≠0 then (l,d,(d.append (l.turn%2) (Dt 2 b).1).2)else ({l with notes:=l.notes++[b]},(d.append (l.turn%2) (Dt 2 b).1).1,0):=Aa (fun h=>h g)
 rw[e1]
 refine OA 3 ?_
 refine Cw (.s2 (.t .d)) rfl (fun j=>false) ?_
 intro q
 refine DA [0,1,2,3,4,5,6,7,8,10] ?_
 refine Da 9 ?_
 refine Gz rfl (Zc rfl (en 39) rfl (HW l.turn ht)) ?_
 refine Da 11 ?_
 refine DB rfl rfl (en 89) rfl (.p0 (.p3 .d)) (Oy (l.turn%2) (by omega) i s d hd a1 c1 (Dt 2 b).1 _ .sq) ?_
 rintro _ _ ⟨rfl,t,rfl⟩
 refine ys (Da 12 ?_)
 refine DB rfl rfl (en 92) rfl (.p1 .d) (GG p i _ _ _ (d.append (l.turn%2) (Dt 2 b).1).2 (Ww _ _ _)) ?_
 rintro _ _ ⟨rfl,rfl⟩
 refine ys (D1 13 rfl FC ?_)
 refine OA 6 ?_
 refine CH rfl (fun f=>?_) (fun f=>?_)
 ·rw[Ah f]
  refine OA 5 ?_
  refine Ti (Zb (.p4 (.p0 .d)) (A:=Ey p i L l) ⟨r,w,sc,x,k,rfl,hst,hns⟩) (Tp (.t3 (.t2 (.t0 .e))) ?_)
  exact Cu (CB rfl rfl (.refl _) ⟨L,_,t,.refl _,rfl,by rw[VX f]⟩)
 rw[Aa (fun h=>h f)]
 refine OA 2 ?_
 refine Cw (.s4 (.t .d)) rfl (fun j=>Nat.beq j 11) ?_
 intro q
 refine DA [0,1,2,3,4,5] ?_
 refine Da 6 ?_
 refine DB rfl rfl (en 77) rfl (.p1 .d) (Eb _ _ _ _ _ hr (by simp) (EU _) (by omega)) ?_
 rintro _ _ ⟨a5,u,rfl,rfl⟩
 refine ys (Da 7 ?_)
 refine D6 rfl (YY u40) ?_
 rintro _ _ ⟨B,rfl,rfl⟩
 refine ys (Da 8 ?_)
 refine D6 rfl (LO.app KR) ?_
 rintro _ _ ⟨a6,C,rfl,rfl⟩
 refine ys (D2 9 rfl (fun _=>Hl) ?_)
 refine D1 10 rfl (Ct.fld 3 3 3 u111) ?_
 refine Da 11 ?_
 refine D8 rfl YO ?_
 refine OA 5 ?_
 refine Cx (Zg (.p4 (.p4 .d))) ?_
 rintro _ ⟨L2,m,hps,rfl⟩
 have o:Bs L2 (.slice a5 b.length u) b:=⟨hps,hb.2⟩
 rw[show k.length+1=(k++[Value.slice a5 b.length u]).length from by rw[Ac];rfl]
 refine Ti (Zb (.p3 (.p0 .d)) (A:=Ey p i L2 {l with notes:=l.notes++[b]}) ⟨r,a6,sc,C,_,rfl,hst.le m,(hns.le m).snoc o⟩) (Tp (.t4 (.t1 (.t2 .e))) ?_)
 exact Cu (CB rfl rfl (.refl _) ⟨L2,_,t,m,rfl,rfl⟩)
theorem Dz.at{L:PL}{d:V_}{ns:List N_}(h:Dz L d ns){i:Nat}{b:N_}(hb:ns[i]? =some b):∃a c,d[i]? =some (.slice a b.length c)/\Bs L (.slice a b.length c) b/\b.length<=c:=by
 obtain⟨v,hv⟩:∃v,d[i]? =some v:=⟨_,Ae (by rw[h.1];exact(Ab.1 hb).1)⟩
 have hB:=h.2 i v b hv hb
 obtain⟨a,c,rfl,hc,_⟩:=hB.sh
 exact⟨a,c,hv,hB,hc⟩
theorem EI.of{L:PL}{v:Value}{m:Nat}{b:V_}{ns:List N_}(hp:PSl L v m b)(hm:m=ns.length)(h:Dz L b ns):EI L v ns:=⟨b,h.1,hm▸hp,h.2⟩
theorem Dg{α:Type}{l:List α}{i:Nat}{x:α}(h:l[i]? =some x):l.take (i+1)=l.take i++[x]:=by rw[List.take_add_one,h];rfl
theorem Lu(p r:Nat)(S:N_)(L:PL)(l:EA)(hn:l.notes.length<1099511627776)(hst:l.state.length<8796093022208)(hns:∀b∈l.notes,b.length<8796093022208):
  Sp P0 44 [Cr p] [cm S (Ey p r L l),pool L] fun v h=>∃L' x o sc f n,Le L L'/\Bs L' (.slice o l.state.length sc) l.state/\EI L' (.slice f l.notes.length n) l.notes/\v= .tuple #[.slice o l.state.length sc,.slice f l.notes.length n]/\h=[cm x (Ey p r L' l),pool L']:=by
 refine Sq Tryz.func44 fun w0 b_=>?_
 refine Cx (Cv.op (.p0 .d)) ?_
 rintro _ ⟨_,⟨o,f,sc,n,d,rfl,m,k⟩,rfl⟩
 have hvl:=k.1
 refine OA 27 ?_
 refine Ti (Cv.nil 53 1) (Tb (CD (fun((i,L',oa,oc,c):Nat×PL×A_×Nat×V_)=>[(0,Cr p),(4,.slice oa c.length oc),(12,.slice f d.length n),(13,Cs d.length),(14,Cs i)]) (fun(i,L',oa,oc,c)=>[pool L',blk p (.cells (OY r l.turn (.slice o l.state.length sc) (.slice f d.length n)).toArray 111 (0,0)),sq f d.length n 53 1 d,sq oa c.length oc 53 1 c]) (fun(i,L',oa,oc,c)=>Le L L'/\i<=d.length/\c.length=i/\Dz L' c (l.notes.take i)) (fun(i,_)=>d.length-i) (0,L,none,0,[]) ?_ ?_))
 ·exact⟨⟨.refl _,Af _,rfl,Dz.nil _⟩,Sb5,.refl _⟩
 rintro⟨i,L',oa,oc,c⟩ ⟨hL,hi,s,ho⟩
 conv=>arg 7;dsimp only
 conv=>arg 8;dsimp only
 refine OA 5 ?_
 refine Cy rfl (fun q=>?_) (fun q=>?_)
 ·obtain⟨b,hb⟩:∃b,l.notes[i]? =some b:=⟨_,Ae (by omega)⟩
  obtain⟨B,C,hv,hB,E⟩:=(k.le hL).at hb
  have hbl:=hns b (Aj hb)
  refine CO (fun w hw=>hw.sqNN (ao:=f) at2 (by omega)) fun⟨g,hg⟩=>?_
  subst hg
  refine OA 5 ?_
  refine O1 (Km i u40) ?_
  refine O1 (YV u53 hv) ?_
  refine OA 5 ?_
  refine Oc rfl (en 77) rfl (.p0 .d) (Eb B b.length C (b.map u8) _ (.pool hB.1) (by simp) (EU _) (by omega)) ?_
  rintro _ _ ⟨a2,c2,rfl,rfl⟩
  refine O6 (YY u40) fun y=>?_
  refine O2 (LO.app (ao:=oa) KR) ?_
  rintro _ _ ⟨a3,D,rfl,rfl⟩
  refine OA 2 ?_
  refine Cx (Zg (.p3 (.p3 .d))) ?_
  rintro _ ⟨L2,e,hps,rfl⟩
  have hB2:Bs L2 (.slice a2 b.length c2) b:=⟨hps,hB.2⟩
  rw[show c.length+1=(c++[Value.slice a2 b.length c2]).length from by rw[Ac];rfl]
  refine Tp (.t4 (.t0 (.t0 (.t0 .e)))) (OA 4 ?_)
  exact⟨(i+1,L2,a3,D,c++[.slice a2 b.length c2]),⟨⟨hL.trans e,by omega,by rw[Ac,s];rfl,by rw[Dg hb];exact(ho.le e).snoc hB2⟩,Sb5,.refl _⟩,by simp only;omega⟩
 have F:i=d.length:=by omega
 rw[AU (by omega)]at ho
 refine OA 7 ?_
 refine Oc rfl (en 77) rfl (.p0 .d) (Eb o l.state.length sc (l.state.map u8) _ (.pool (m.le hL).1) (by simp) (EU _) (by omega)) ?_
 rintro _ _ ⟨a2,c2,rfl,rfl⟩
 refine OA 4 ?_
 refine Cx (Zg (.p3 (.p3 .d))) ?_
 rintro _ ⟨L2,e,hps,rfl⟩
 refine Cx (Zg (.p3 (.p2 .d))) ?_
 rintro _ ⟨u,j,t,rfl⟩
 have hL03:=(hL.trans e).trans j
 refine Ti (Zb (.p0 (.p0 .d)) (A:=Ey p r u l) ⟨o,f,sc,n,d,rfl,m.le hL03,k.le hL03⟩) (Tp (.t1 (.t0 .e)) ?_)
 exact Cu (Dq rfl rfl (CT rfl (by rw[show c.length=l.notes.length by omega])) (.refl _) ⟨u,_,a2,c2,oa,oc,hL03,(show Bs L2 (.slice a2 l.state.length c2) l.state from⟨hps,m.2⟩).le j,EI.of ((show c.length=l.notes.length by omega)▸t) rfl ((ho.le e).le j),rfl,rfl⟩)
def Ht:List JV->Bool
 |[]=>true
 |f::_=>decide (f.kind≠1) || decide (f.data.length=0) || decide (f.data.length<=f.data.getD 0 0)
theorem GZ{α:Type}{ps:List (JV×α)}(h:(ps.length:Int)=0):Ht (ps.map (·.1))=true:=by
 cases ps with
 |nil=>rfl
 |cons x r=>simp at h;omega
theorem DN{α:Type}(f:JV)(v:α)(r:List (JV×α)):Ht (((f,v)::r).map (·.1))=true↔(f.kind≠1∨f.data.length=0∨f.data.length<=f.data.getD 0 0):=by
 simp[Ht,or_assoc]
def TN(f:JV):CC:=⟨sl f.data 1 (f.data.getD 0 0+1),0,0⟩
def ldT(f:JV):Nat:=(TN f).num.1
def ldN(f:JV):Nat:=(TN f).num.2.num.1
def ldE(f:JV):Int:=(TN f).num.2.num.2.end_
def LX(b:N_):Option (Nat×N_×List N_×Nat):=
 if Ht (FI b).1=true then none
 else match (FI b).1 with
  |[]=>none
  |f::c=>if ldE f≠0∨1099511627776<ldT f∨ldT f<1∨c.length<ldN f then none
   else some (ldT f,sl f.data (f.data.getD 0 0+1) f.data.length,c.map (·.data),(FI b).2.1)
theorem Ju{b:N_}{f:JV}{c:List JV}(h:(FI b).1=f::c)(h2:¬Ht (f::c)=true):LX b=if ldE f≠0∨1099511627776<ldT f∨ldT f<1∨c.length<ldN f then none else some (ldT f,sl f.data (f.data.getD 0 0+1) f.data.length,c.map (·.data),(FI b).2.1):=by
 unfold LX;rw[h,Aa h2]
theorem Zp(L:PL):Bs L (.slice none 0 0) []:=⟨⟨none,0,rfl,Al _,Af _,fun i u h=>by cases h⟩,fun _ h=>by cases h⟩
theorem sl_sub{b:N_}{lo hi:Nat}:(sl b lo hi).map u8=((b.map u8).take hi).drop lo:=sl_u8 ..
theorem Dz.frs{L:PL}{ps:List (JV×Value)}(h:∀q∈ps,Bs L q.2 q.1.data):Dz L (ps.map (·.2)) (ps.map (·.1.data)):=by
 refine⟨by simp,fun j v c hv hc=>?_⟩
 rw[Aq]at hv hc
 cases hq:ps[j]? with
 |none=>rw[hq]at hv;cases hv
 |some q=>
  rw[hq]at hv hc
  cases hv;cases hc
  exact h q (Aj hq)
theorem PF(b:N_):∀(k:Nat) (c:List JV) (i:Nat),12*c.length<=i->i<=b.length->12*(GU b k c i).1.length<=b.length
 |0,c,i,h,hi=>by unfold GU;simp only;omega
 |k+1,c,i,h,hi=>by
  unfold GU
  split
  ·split
   ·simp only;omega
   ·rename_i hc
    obtain⟨q1,q2,q3⟩:=Wh (Decidable.byContradiction hc)
    have hsl:=HO (b:=b) (i:=i)
    exact PF b k _ _ (by simp;omega) (by omega)
  ·simp only;omega
theorem OP(b:N_):12*(FI b).1.length<=b.length:=PF b _ [] 0 (by simp) (Af _)
theorem fvC_at{ps:List (JV×Value)}{p:JV×Value}:∀ {i:Nat},ps[i]? =some p->(fvC ps)[i*2]? =some (Cs p.1.kind)/\(fvC ps)[i*2+1]? =some p.2:=by
 induction ps with
 |nil=>intro i h;cases h
 |cons q r ih=>
  intro i h
  cases i with
  |zero=>cases h;exact⟨rfl,rfl⟩
  |succ i=>
   obtain⟨a,b⟩:=ih (i:=i) h
   rw[show(i+1)*2=i*2+2 from by omega]
   exact⟨a,b⟩
def GQ(b:N_):Nat×N_×List N_×Nat×Bool:=match LX b with
 |none=>(0,[],[],0,false)
 |some (t,st,ns,e)=>(t,st,ns,e,true)
section
variable {P:Program}{n:Nat}{w0:World}{b_:N_}{l:Dh}{h hs:Mem}{o:Oper}{v:Value}
theorem Qav{x y:Operand}{T e b len cap s:Nat}{k:IntKind}{i:Int}(j q:Nat)(d:P.underlying T=some (.slice e))(ho:o.op= .indexAddr T x y:=by rfl)(hx:ev l x=some (.slice (some ⟨b,0,none⟩) len cap):=by rfl)(hy:ev l y=some (.int k i):=by rfl)(c:(P.info? e).map (·.size)=some s:=by rfl)(hi:i=(j:Int):=by first|rfl|omega)(hj:j<len:=by omega)(hq:j*s=q:=by rfl):Ct P n w0 b_ hs l o (.pointer (some ⟨b,q,none⟩)):=
 hq▸Qbj j ho hx hy d c hi hj
end
theorem ret5h{P:Program}{n:Nat}{w0:World}{b_:N_}{l:Dh}{h:Mem}{g:Func}{R:Value->Mem->Prop}{h0:Mem}{a b c d e:Nat}{v1 v2 v3 v4 v5:Value}(hr:g.results= #[.tmp a,.tmp b,.tmp c,.tmp d,.tmp e])(h1:fnd l a=some v1)(h2:fnd l b=some v2)(h3:fnd l c=some v3)(h4:fnd l d=some v4)(h5:fnd l e=some v5)(f:h0.Sublist h)(i:R (.tuple #[v1,v2,v3,v4,v5]) h0):Hb P n w0 b_ g R .ret l h:=
 ⟨_,fun j w hf _=>by simp[results,hr,Array.getD_eq_getD_getElem?,hf.has a v1 h1,hf.has b v2 h2,hf.has c v3 h3,hf.has d v4 h4,hf.has e v5 h5],fun _ hw=>⟨h0,i,hw.drop f⟩⟩
theorem wrapN{x:Nat}(h:x<=1099511627776):IntKind.i64.wrap (x:Int)=x:=wrap_i64 (by omega) (by omega)
theorem WL(a:A_)(cap:Nat)(b:N_)(L:PL)(r:CW)(hr:Reads r a (b.map u8))(hc:b.length<=cap)(hb:b.length<17592186044416)(hB:Eu b):
  Sp P0 38 [.slice a b.length cap] [r,pool L] fun v h=>∃L' sa sc na nc o,Le L L'/\Bs L' (.slice sa (GQ b).2.1.length sc) (GQ b).2.1/\Dz L' o (GQ b).2.2.1/\v= .tuple #[Cs (GQ b).1,.slice sa (GQ b).2.1.length sc,.slice na o.length nc,Cs (GQ b).2.2.2.1,.bool (GQ b).2.2.2.2]/\h=[r,pool L',sq na o.length nc 53 1 o]:=by
 refine Sq Tryz.func38 fun w0 b_=>?_
 refine OA 11 ?_
 refine Oc rfl (en 80) rfl (.p0 (.p0 .d)) (YC a cap b L r hr hc hb hB) ?_
 rintro _ _ ⟨L1,ps,X,M,y,hps,hfi,rfl,rfl⟩
 refine OA 10 ?_
 refine CQ 55 (Ht (ps.map (·.1))=true) ?_ ?_
 ·refine CS rfl (fun j=>false) ?_
  refine DA [0,1,2,3] ?_
  refine Dy 26 rfl (fun d=>?_) (fun d=>?_)
  ·refine DA [4,5,6,7,8,9,10,11,12,13,14,15,16,17,18,19,20,21,22,23,24,25,26,27,28,29,30,31,32] ?_
   refine D0 ?_
   (refine Zt (And.intro (by (repeat' (first|exact trivial|refine⟨rfl,?_⟩))) (And.intro ?_ rfl));first|exact CT rfl (congrArg Value.bool (AG (GZ d)).symm)|(refine CT rfl (congrArg Value.bool (AG ((DN f _ _).2 ?_)).symm);dsimp only at*;omega)|(refine CT rfl (congrArg Value.bool (AN.2 (Iff.trans ?_ (DN f _ _).symm)));dsimp only at*;omega))
  obtain⟨⟨f,N⟩,rest,rfl⟩:∃x rest,ps=x::rest:=by
   cases ps with
   |nil=>exact absurd rfl d
   |cons x rest=>exact⟨x,rest,rfl⟩
  have hfb:Bs L1 N f.data:=hfi _ Ar
  obtain⟨da,K,rfl,O,hdl⟩:=hfb.sh
  refine JW (fun w hw=>hw.sqNN (ao:=X) at2 (by simp)) fun⟨g,hg⟩=>?_
  subst hg
  refine D1 4 rfl DC ?_
  refine D1 5 rfl (Qav 0 0 u167 (hj:=Nat.succ_pos _)) ?_
  refine D1 6 rfl (Ct.fld 0 0 0 u171) ?_
  refine D1 7 rfl (YV u3 rfl) ?_
  refine DA [8,9,10] ?_
  refine IN 33 rfl (fun C=>?_) (fun C=>?_)
  ·refine DA [11,12,13,14,15,16,17,18,19,20,21,22,23,24,25,26,27,28,29,30,31,32] ?_
   refine D0 ?_
   (refine Zt (And.intro (by (repeat' (first|exact trivial|refine⟨rfl,?_⟩))) (And.intro ?_ rfl));first|exact CT rfl (congrArg Value.bool (AG (GZ d)).symm)|(refine CT rfl (congrArg Value.bool (AG ((DN f _ _).2 ?_)).symm);dsimp only at*;omega)|(refine CT rfl (congrArg Value.bool (AN.2 (Iff.trans ?_ (DN f _ _).symm)));dsimp only at*;omega))
  refine D1 11 rfl DC ?_
  refine D1 12 rfl (Qav 0 0 u167 (hj:=Nat.succ_pos _)) ?_
  refine D1 13 rfl (Ct.fld 1 1 1 u171) ?_
  refine D1 14 rfl (YV u53 rfl) ?_
  refine DA [15,16,17,18] ?_
  refine Dy 41 rfl (fun D=>?_) (fun D=>?_)
  ·refine DA [19,20,21,22,23,24,25,26,27,28,29,30,31,32] ?_
   refine D0 ?_
   (refine Zt (And.intro (by (repeat' (first|exact trivial|refine⟨rfl,?_⟩))) (And.intro ?_ rfl));first|exact CT rfl (congrArg Value.bool (AG (GZ d)).symm)|(refine CT rfl (congrArg Value.bool (AG ((DN f _ _).2 ?_)).symm);dsimp only at*;omega)|(refine CT rfl (congrArg Value.bool (AN.2 (Iff.trans ?_ (DN f _ _).symm)));dsimp only at*;omega))
  have m:0<f.data.length:=by omega
  have l:(f.data.map u8)[0]? =some (u8 (f.data.getD 0 0)):=Ez m
  refine JW (fun w hw=>(Reads.pool hfb.1).some (hw.mine (pool L1) (by simp)) l) fun⟨ad,had⟩=>?_
  subst had
  refine D1 19 rfl DC ?_
  refine D1 20 rfl (Qav 0 0 u167 (hj:=Nat.succ_pos _)) ?_
  refine D1 21 rfl (Ct.fld 1 1 1 u171) ?_
  refine D1 22 rfl (YV u53 rfl) ?_
  refine D1 23 rfl (GO (0) u53) ?_
  refine D1 24 rfl (Ct.reads (j:=0) rfl rfl at1 (.pool hfb.1) u5 rfl l) ?_
  refine D1 25 rfl (Zw rfl rfl u5 u3 (wrapN (by have:=hfb.2 _ (Aj (getD_some m));omega))) ?_
  refine D1 26 rfl DC ?_
  refine D1 27 rfl (Qav 0 0 u167 (hj:=Nat.succ_pos _)) ?_
  refine D1 28 rfl (Ct.fld 1 1 1 u171) ?_
  refine D1 29 rfl (YV u53 rfl) ?_
  refine DA [30,31,32] ?_
  refine D0 ?_
  (refine Zt (And.intro (by (repeat' (first|exact trivial|refine⟨rfl,?_⟩))) (And.intro ?_ rfl));first|exact CT rfl (congrArg Value.bool (AG (GZ d)).symm)|(refine CT rfl (congrArg Value.bool (AG ((DN f _ _).2 ?_)).symm);dsimp only at*;omega)|(refine CT rfl (congrArg Value.bool (AN.2 (Iff.trans ?_ (DN f _ _).symm)));dsimp only at*;omega))
 refine Cy rfl (fun k=>?_) (fun k=>?_)
 ·have e:LX b=none:=by unfold LX;rw[<-hps];exact Ah k
  rw[GQ,e]
  refine OA 8 ?_
  refine Tp (.t0 (.t0 (.n (T:=53) (sz:=1) .e))) ?_
  exact Cu (ret5h rfl rfl rfl rfl rfl rfl (.refl _) ⟨L1,none,0,none,0,[],y,Zp _,Dz.nil _,rfl,rfl⟩)
 obtain⟨⟨f,N⟩,rest,rfl⟩:∃x rest,ps=x::rest:=by
  cases ps with
  |nil=>exact absurd rfl k
  |cons x rest=>exact⟨x,rest,rfl⟩
 have hbd:=fun h=>k ((DN f N rest).2 h)
 have hk1:f.kind=1:=Decidable.byContradiction fun h=>hbd (.inl h)
 have m:0<f.data.length:=Nat.pos_of_ne_zero fun h=>hbd (.inr (.inl h))
 have Y:f.data.getD 0 0<f.data.length:=Nat.lt_of_not_le fun h=>hbd (.inr (.inr h))
 have hfb:Bs L1 N f.data:=hfi _ Ar
 have hfr:∀q∈rest,Bs L1 q.2 q.1.data:=fun q hq=>hfi _ (Aw _ hq)
 obtain⟨da,K,rfl,O,hdl⟩:=hfb.sh
 refine CO (fun w hw=>hw.sqNN (ao:=X) at2 (by simp)) fun⟨g,hg⟩=>?_
 subst hg
 refine CO (fun w hw=>hw.sqB at2) fun⟨hfc,hfm⟩=>?_
 have l:(f.data.map u8)[0]? =some (u8 (f.data.getD 0 0)):=Ez m
 have a1:f.data.getD 0 0<256:=hfb.2 _ (Aj (getD_some m))
 refine CO (fun w hw=>(Reads.pool hfb.1).some (hw.mine (pool L1) (by simp)) l) fun⟨ad,had⟩=>?_
 subst had
 have hsl:(sl f.data 1 (f.data.getD 0 0+1)).length=f.data.getD 0 0+1-1:=HN (by omega)
 have hml:maxLen=9223372036854775807:=rfl
 have A:Eu f.data:=hfb.2
 have k0:(TN f).Ok:=⟨QF A _ _,by show(sl f.data 1 (f.data.getD 0 0+1)).length<_;omega,Af _⟩
 have k1:=CC.num_ok k0
 have k2:=CC.num_ok k1
 have hrl:((f,Value.slice (some ad) f.data.length K)::rest).length=rest.length+1:=rfl
 rw[hrl]at hfc hfm
 have Z:12*(rest.length+1)<=b.length:=by have:=OP b;rw[<-hps,AP,hrl]at this;exact this
 refine OA 4 ?_
 refine O1 (Qav 0 0 u167 (hj:=Nat.succ_pos _)) ?_
 refine O1 (Ct.fld 1 1 1 u171) ?_
 refine O1 (YV u53 rfl) ?_
 refine O1 (GO (0) u53) ?_
 refine O1 (Ct.reads (j:=0) rfl rfl at1 (.pool hfb.1) u5 rfl l) ?_
 refine O1 (Zw rfl rfl u5 u3 (wrapN (by omega))) ?_
 refine OA 5 ?_
 refine O1 (Qav 0 0 u167 (hj:=Nat.succ_pos _)) ?_
 refine O1 (Ct.fld 1 1 1 u171) ?_
 refine O1 (YV u53 rfl) ?_
 refine OA 2 ?_
 refine O1 (YK (ZQ 1 1 (f.data.getD 0 0+1) u53) (by rw[<-hsl])) ?_
 refine Oc rfl (en 81) rfl (.p1 .d) (Hi _ _ (sl f.data 1 (f.data.getD 0 0+1)) _ ((Reads.pool hfb.1).sl (by omega)) (by omega)) ?_
 rintro _ _ ⟨V,S,U,rfl,rfl⟩
 refine OA 5 ?_
 refine O8 (Zd rfl (en 82) rfl (.p3 (.p3 .d)) (IX V S U (TN f) k0)) ?_
 refine O1 DC ?_
 refine O8 (Zd rfl (en 82) rfl (.p3 (.p3 .d)) (IX V S U (TN f).num.2 k1)) ?_
 refine OA 5 ?_
 refine CQ 93 ((TN f).num.2.num.2.end_≠0∨1099511627776<(TN f).num.1∨(TN f).num.1<1∨rest.length<(TN f).num.2.num.1) ?_ ?_
 ·refine OA 2 ?_
  refine O8 (Zd rfl (en 83) rfl (.p3 (.p3 .d)) (Pv V S U (TN f).num.2.num.2 k2)) ?_
  refine OA 2 ?_
  refine IQ 78 rfl (fun E=>?_) (fun E=>?_)
  ·refine OA 16 ?_
   exact Ex
  refine OA 4 ?_
  refine CJ 82 rfl (fun F=>?_) (fun F=>?_)
  ·refine OA 12 ?_
   exact Ex
  refine OA 4 ?_
  refine CJ 86 rfl (fun G=>?_) (fun G=>?_)
  ·refine OA 8 ?_
   exact Ex
  refine OA 4 ?_
  refine O1 (Zw rfl rfl u3 u22 (DJ (by omega) (by omega))) ?_
  refine OA 3 ?_
  exact Ex
 refine Cy rfl (fun n=>?_) (fun n=>?_)
 ·have e:LX b=none:=by rw[Ju hps.symm k,AP];exact Ah n
  rw[GQ,e]
  refine OA 8 ?_
  refine Tp (.t0 (.t1 (.n (T:=53) (sz:=1) .e))) ?_
  exact Cu (ret5h rfl rfl rfl rfl rfl rfl (.refl _) ⟨L1,none,0,none,0,[],y,Zp _,Dz.nil _,rfl,rfl⟩)
 have e:LX b=some (ldT f,sl f.data (f.data.getD 0 0+1) f.data.length,rest.map (·.1.data),(FI b).2.1):=by
  rw[Ju hps.symm k,AP,List.map_map]
  exact Aa n
 rw[GQ,e]
 refine Tp (.t0 (.t1 (.t0 .e))) (Ti (Cv.nil 53 1) (OA 9 ?_))
 refine O1 (YK (ZB 2 1 u167) rfl) ?_
 obtain⟨J,t⟩:∃x,x=EH (some ⟨g,0,none⟩) M 1 2:=⟨_,rfl⟩
 rw[<-t]
 have P:0<rest.length->J=some ⟨g,2,none⟩:=fun h=>by rw[t];unfold EH;rw[Aa (by omega)];rfl
 refine OA 4 ?_
 refine CD (fun((i,oa,oc,c):Nat×A_×Nat×V_)=>[(7,.slice (some ⟨g,0,none⟩) (rest.length+1) M),(8,Cs (FI b).2.1),(10,Cs (f.data.getD 0 0:Nat)),(12,.int .u64 (TN f).num.1),(14,.slice oa c.length oc),(95,.slice J rest.length (M-1)),(96,Cs rest.length),(97,Cs i)]) (fun(i,oa,oc,c)=>[r,pool L1,sq (some ⟨g,0,none⟩) (rest.length+1) M 171 2 (fvC ((f,Value.slice (some ad) f.data.length K)::rest)),sq oa c.length oc 53 1 c]) (fun(i,oa,oc,c)=>i<=rest.length/\c=(rest.take i).map (·.2)) (fun(i,_)=>rest.length-i) (0,none,0,[]) ?_ ?_
 ·exact⟨⟨Af _,rfl⟩,Sb8,.refl _⟩
 rintro⟨i,oa,oc,c⟩ ⟨hi,ho⟩
 conv=>arg 7;dsimp only
 conv=>arg 8;dsimp only
 refine OA 5 ?_
 refine Cy rfl (fun H=>?_) (fun H=>?_)
 ·have hol:c.length=i:=by rw[ho];simp;omega
  obtain rfl:=P (by omega)
  obtain⟨q,hq⟩:∃q,rest[i]? =some q:=⟨_,Ae (by omega)⟩
  have hqb:=hfr q (Aj hq)
  obtain⟨Q,R,B,a3,a4⟩:=hqb.sh
  obtain⟨f1,f2⟩:=fvC_at (ps:=(f,Value.slice (some ad) f.data.length K)::rest) (p:=q) (i:=i+1) hq
  refine OA 5 ?_
  refine O1 (YK (Qab (s:=2) (a:=⟨g,2,none⟩) i rfl rfl rfl u167 rfl (by omega) (by omega)) (show _=Value.pointer (some ⟨g,(i+1)*2,none⟩) from by rw[add_lit,show 2+i*2=(i+1)*2 from by omega])) ?_
  refine O1 (Ct.sqLoadN (cs:=[Cs q.1.kind,.slice Q q.1.data.length R]) 2 rfl rfl rfl u171 rfl rfl rfl (fun j u I=>by
   match j,I with
   |0,I=>cases I;exact f1
   |1,I=>cases I;exact B▸f2)) ?_
  refine O6 (YQ Wl) fun a0=>?_
  refine OA 6 ?_
  refine O6 (YY u40) fun W=>?_
  refine O2 (LO.app KR) ?_
  rintro _ _ ⟨a6,c6,rfl,rfl⟩
  refine OA 2 ?_
  rw[show c.length+1=(c++[Value.slice Q q.1.data.length R]).length from by rw[Ac];rfl]
  refine Tp (.t0 (.t0 (.t0 (.t0 .e)))) (OA 4 ?_)
  exact⟨(i+1,a6,c6,c++[.slice Q q.1.data.length R]),⟨⟨by omega,by rw[ho,Dg hq,AO,<-B];rfl⟩,Sb8,.refl _⟩,by simp only;omega⟩
 have a2:i=rest.length:=by omega
 rw[AU (by omega)]at ho
 refine OA 2 ?_
 refine CS rfl (fun j=>false) ?_
 refine D1 0 rfl DC ?_
 refine D1 1 rfl (Zw rfl rfl u22 u3 (wrapN (by omega))) ?_
 refine D1 2 rfl DC ?_
 refine D1 3 rfl (Qav 0 0 u167 (hj:=Nat.succ_pos _)) ?_
 refine D1 4 rfl (Ct.fld 1 1 1 u171) ?_
 refine D1 5 rfl (YV u53 rfl) ?_
 refine DA [6,7] ?_
 refine D1 8 rfl (YK (ZB 1 (f.data.getD 0 0+1) u53) (by rw[<-HO])) ?_
 refine DA [9,10,11,12,13,14,15] ?_
 refine D0 ?_
 subst ho
 refine Tp (.t0 (.t0 (.t1 .e))) ?_
 exact Cu (ret5h rfl rfl rfl rfl rfl rfl (.refl _) ⟨L1,_,_,oa,oc,_,y,⟨by rw[sl_sub,HO];have:=hfb.1.sub (j:=f.data.getD 0 0+1) (q:=f.data.length) (by omega) (Al _);exact this,QF A _ _⟩,Dz.frs hfr,rfl,rfl⟩)
def Vu:N_->List N_->N_×Int
 |b,[]=>(b,0)
 |b,x::ns=>if(Dt 2 x).2≠0 then (b,(Dt 2 x).2)else Vu (b++(Dt 2 x).1) ns
def EA.layb(l:EA):N_×Int:=Vu (Ie (l.turn+1) l.notes.length l.state).1 l.notes
def EA.lay(l:EA)(d:Dw):EA×Dw×Int:=
 if(Ie (l.turn+1) l.notes.length l.state).2≠0 then (l,d,(Ie (l.turn+1) l.notes.length l.state).2)
 else if l.layb.2≠0 then (l,d,l.layb.2)
 else if((d.clear ((l.turn+1)%2)).append ((l.turn+1)%2) l.layb.1).2≠0 then (l,d.clear ((l.turn+1)%2),((d.clear ((l.turn+1)%2)).append ((l.turn+1)%2) l.layb.1).2)
 else ({l with turn:=l.turn+1},((d.clear ((l.turn+1)%2)).append ((l.turn+1)%2) l.layb.1).1.flush ((l.turn+1)%2),0)
section
variable {P:Program}{n:Nat}{w0:World}{b_:N_}{l:Dh}{h hs:Mem}{o:Oper}{v:Value}
theorem Qaa{f:Fn}{ys:List Operand}{vs:V_}(ho:o.op= .makeFunc f #[] ys.toArray)(hv:ys.map (ev l)=vs.map some):Ct P n w0 b_ hs l o (.func f #[] vs.toArray):=
 Ct.of (s:=Instr.makeFunc f #[] vs.toArray) (fun b hf=>by unfold execOp;simp only[ho,Fg hf hv,Array.map_empty]) fun _ _=>rfl
theorem Yv{f:FuncId}{x:Operand}{ys:List Operand}{ts:Array TypeId}{vs cs:V_}(ho:o.op= .call {callee:=.value x,args:=ys.toArray,argTypes:=ts})(hc:Fc P f){a:Act}(hf:Fr n l a)(hx:ev l x=some (.func (.func f) #[] cs.toArray))(hv:ys.map (ev l)=vs.map some)(w:World):
  (execOp a.eval o).run P w= .ok (.enter f (vs++cs).toArray) w:=by
 unfold execOp
 simp only[ho,resolve,Fg hf hv,hf.eval hx]
 show(invoke (.fn (.func f) cs.toArray) (#[]++vs.toArray)).run P w=_
 have:=hc (vs++cs).toArray w
 simpa [invoke] using this
theorem LO.spv{f:FuncId}{x:Operand}{ys:List Operand}{ts:Array TypeId}{vs cs:V_}{R:Value->Mem->Prop}{a b:Mem}(ho:o.op= .call {callee:=.value x,args:=ys.toArray,argTypes:=ts})(hc:Fc P f)(hx:ev l x=some (.func (.func f) #[] cs.toArray))(hv:ys.map (ev l)=vs.map some)
  (hs:Ps h a b) (hg:Sp P f (vs++cs) a R):LO P n w0 b_ h l o fun u h'=>∃h1,R u h1/\h'=b++h1:=
 Qao (f:=f) (vs:=vs++cs) (fun _ hf w=>Yv ho hc hf hx hv w) fun w c=>
  Calls.mono (hg w (c.lendP hs)) fun _ _ ⟨v,h1,he,hR,ho1⟩=>⟨v,b++h1,he,⟨h1,hR,rfl⟩,c.calledP hs ho1⟩
end
theorem WW(p b turn t q1 q2:Nat)(vs e:Value)(ht:t<2)(S:N_)(d:Dw)(hd:d.Ok):
  Sp P0 86 [Cr q1,Cr q2] [blk q1 (.cells [Cr p].toArray 46 (0,0)),blk q2 (.cells [Cs t].toArray 3 (0,0)),blk p (.cells (OY b turn vs e).toArray 111 (0,0)),cm S (DZ b d)] fun v h=>v= Cs 0/\∃c,h=[blk q1 (.cells [Cr p].toArray 46 (0,0)),blk q2 (.cells [Cs t].toArray 3 (0,0)),blk p (.cells (OY b turn vs e).toArray 111 (0,0)),cm c (DZ b (d.clear t))]:=by
 refine Sq Tryz.func86 fun w0 b_=>?_
 refine OA 5 ?_
 refine Cw (.t (.t (.t .d))) rfl (fun j=>false) ?_
 intro f
 refine DA [0,1,2,3,4] ?_
 refine Da 5 ?_
 refine DB rfl rfl (en 87) rfl (.p3 .d) (Yy t ht b S d hd) ?_
 rintro _ _ ⟨rfl,c,rfl⟩
 refine ys (D1 6 rfl FC ?_)
 refine D0 ?_
 exact Cu (Rr ⟨rfl,c,rfl⟩)
theorem XN(p e turn t q1 q2 q3:Nat)(vs g:Value)(ht:t<2)(S:N_)(d:Dw)(hd:d.Ok)(a:A_)(c:Nat)(b:N_):
  Sp P0 88 [Cr q1,Cr q2,Cr q3] [blk q1 (.cells [Cr p].toArray 46 (0,0)),blk q2 (.cells [Cs t].toArray 3 (0,0)),blk p (.cells (OY e turn vs g).toArray 111 (0,0)),blk q3 (.cells [.slice a b.length c].toArray 53 (0,0)),sq a b.length c 5 1 (b.map u8),cm S (DZ e d)] fun v h=>v= Cs (d.append t b).2/\∃f,h=[blk q1 (.cells [Cr p].toArray 46 (0,0)),blk q2 (.cells [Cs t].toArray 3 (0,0)),blk p (.cells (OY e turn vs g).toArray 111 (0,0)),blk q3 (.cells [.slice a b.length c].toArray 53 (0,0)),sq a b.length c 5 1 (b.map u8),cm f (DZ e (d.append t b).1)]:=by
 refine Sq Tryz.func88 fun w0 b_=>?_
 refine OA 5 ?_
 refine Cw (.t (.t (.t (.t .d)))) rfl (fun j=>false) ?_
 intro i
 refine DA [0,1,2,3,4,5] ?_
 refine Da 6 ?_
 refine DB rfl rfl (en 89) rfl (.p5 (.p4 .d)) (Oy t ht e S d hd a c b _ .sq) ?_
 rintro _ _ ⟨rfl,f,rfl⟩
 refine ys (D1 7 rfl FC ?_)
 refine D0 ?_
 exact Cu (Rr ⟨rfl,f,rfl⟩)
theorem Ye(p b turn t q1 q2:Nat)(vs e:Value)(ht:t<2)(S:N_)(d:Dw)(hd:d.Ok):
  Sp P0 90 [Cr q1,Cr q2] [blk q1 (.cells [Cr p].toArray 46 (0,0)),blk q2 (.cells [Cs t].toArray 3 (0,0)),blk p (.cells (OY b turn vs e).toArray 111 (0,0)),cm S (DZ b d)] fun v h=>v= Cs 0/\∃c,h=[blk q1 (.cells [Cr p].toArray 46 (0,0)),blk q2 (.cells [Cs t].toArray 3 (0,0)),blk p (.cells (OY b turn vs e).toArray 111 (0,0)),cm c (DZ b (d.flush t))]:=by
 refine Sq Tryz.func90 fun w0 b_=>?_
 refine OA 5 ?_
 refine Cw (.t (.t (.t .d))) rfl (fun j=>false) ?_
 intro f
 refine DA [0,1,2,3,4] ?_
 refine Da 5 ?_
 refine DB rfl rfl (en 91) rfl (.p3 .d) (PP t ht b S d hd) ?_
 rintro _ _ ⟨rfl,c,rfl⟩
 refine ys (D1 6 rfl FC ?_)
 refine D0 ?_
 exact Cu (Rr ⟨rfl,c,rfl⟩)
theorem Pn(p n:Nat)(S C:N_)(L:PL)(l:EA)(d:Dw)(hd:d.Ok)(ht:l.turn<4611686018427387904)(hn:l.notes.length<1073741824)(hst:l.state.length<8796093022208)(hnl:∀x∈l.notes,x.length<17592186044416):
  Sp P0 40 [Cr p] [cm S (Ey p n L l),cm C (DZ n d),pool L] fun v h=>∃I S2',v= Cs (l.lay d).2.2/\h=[cm I (Ey p n L (l.lay d).1),cm S2' (DZ n (l.lay d).2.1),pool L]:=by
 refine Sq Tryz.func40 fun w0 b_=>?_
 refine Cx (Cv.op (.p0 .d)) ?_
 rintro _ ⟨_,⟨y,D,sc,t,f,rfl,hs,hns⟩,rfl⟩
 have hvl:=hns.1
 obtain⟨s,u⟩:∃x,x=Ie (l.turn+1) l.notes.length l.state:=⟨_,rfl⟩
 have Q:s.1.length<=65548:=by rw[u];exact Qo _ _
 have G:Eu s.1:=by rw[u];exact JO _ ((Eu.append (fun x hx=>by rw[Ap.1 hx];have:=Gw (l.turn+1) l.notes.length (by omega) (by omega);omega) (Gw (l.turn+1) l.notes.length (by omega) (by omega)).2).append hs.2)
 have E:l.layb=Vu s.1 l.notes:=by rw[u];rfl
 refine OA 2 ?_
 refine O6 YR fun b1=>?_
 refine OA 3 ?_
 refine CP (fun((b3,a,c):Nat×A_×Nat)=>[(1,Cr b1),(2,Cs 0),(3,Cr b3),(4,Cs s.2)]) (fun(b3,a,c)=>[cm C (DZ n d),pool L,blk p (.cells (OY n l.turn (.slice y l.state.length sc) (.slice D f.length t)).toArray 111 (0,0)),sq D f.length t 53 1 f,blk b1 (.cells [Cr p].toArray 46 (0,0)),blk b3 (.cells [.slice a s.1.length c].toArray 53 (0,0)),sq a s.1.length c 5 1 (s.1.map u8)]) (fun _=>True) ?_ ?_
 ·refine Cw (.s2 (.t (.s (.t .d)))) rfl (fun j=>Nat.beq j 19 || Nat.beq j 20) ?_
  intro B
  refine DA [0,1,2,3,4,5,6,7,8,9,10,11,12,13] ?_
  refine Jy 14 18 ?_ ?_
  ·refine DB rfl rfl (en 84) rfl (.p1 .d) (OH (l.turn+1) f.length (by omega) (by omega) y sc l.state _ (Reads.pool hs.1) hst) ?_
   rintro _ _ ⟨a1,c1,rfl,rfl⟩
   refine ys ?_
   rw[hvl,<-u]
   refine DA [15,16] ?_
   refine D2 17 rfl (fun _=>Yo) ?_
   refine Da 18 ?_
   refine D6 rfl (YQ zr53) ?_
   rintro _ _ ⟨b3,rfl,rfl⟩
   refine ys (Da 19 ?_)
   refine D8 rfl YO ?_
   refine D2 20 rfl (fun _=>FC) ?_
   refine Di (YN (.t0 (.t3 (.t0 (.t0 (.t0 (.t1 (.t0 .e)))))))) ?_
   refine D0 ?_
   exact⟨(b3,a1,c1),trivial,Sb4,.refl _⟩
  refine D6 rfl (YQ zr53) ?_
  rintro _ _ ⟨b3,rfl,rfl⟩
  refine ys (Da 14 ?_)
  refine DB rfl rfl (en 84) rfl (.p1 .d) (OH (l.turn+1) f.length (by omega) (by omega) y sc l.state _ (Reads.pool hs.1) hst) ?_
  rintro _ _ ⟨a1,c1,rfl,rfl⟩
  refine ys ?_
  rw[hvl,<-u]
  refine DA [15,16] ?_
  refine D2 17 rfl (fun _=>Yo) ?_
  refine Da 19 ?_
  refine D8 rfl YO ?_
  refine D2 20 rfl (fun _=>FC) ?_
  refine Di (YN (.t0 (.t4 (.t0 (.t0 (.t0 (.t0 (.t0 .e)))))))) ?_
  refine D0 ?_
  exact⟨(b3,a1,c1),trivial,Sb4,.refl _⟩
 rintro⟨b3,a,c⟩ -
 conv=>arg 4;dsimp only
 conv=>arg 5;dsimp only
 refine OA 6 ?_
 refine CH rfl (fun r=>?_) (fun r=>?_)
 ·have e:l.lay d=(l,d,s.2):=by rw[u];exact Ah (by rw[<-u];exact r)
  rw[e]
  refine OA 5 ?_
  refine Ti (Zb (.p2 (.p2 .d)) (A:=Ey p n L l) ⟨y,_,sc,t,f,rfl,hs,hns⟩) (Tp (.t5 (.t0 (.t0 .e))) ?_)
  exact Cu (CB rfl rfl (.refl _) ⟨_,C,rfl,rfl⟩)
 have e1:l.lay d=if l.layb.2≠0 then (l,d,l.layb.2)
  else if((d.clear ((l.turn+1)%2)).append ((l.turn+1)%2) l.layb.1).2≠0 then (l,d.clear ((l.turn+1)%2),((d.clear ((l.turn+1)%2)).append ((l.turn+1)%2) l.layb.1).2)
  else ({l with turn:=l.turn+1},((d.clear ((l.turn+1)%2)).append ((l.turn+1)%2) l.layb.1).1.flush ((l.turn+1)%2),0):=Aa (by rw[<-u];exact fun h=>h r)
 rw[e1]
 refine OA 12 ?_
 refine CD (fun((i,a,c,bs):Nat×A_×Nat×N_)=>[(1,Cr b1),(3,Cr b3),(37,.slice D f.length t),(38,Cs f.length),(39,Cs i)]) (fun(i,a,c,bs)=>[cm C (DZ n d),pool L,blk p (.cells (OY n l.turn (.slice y l.state.length sc) (.slice D f.length t)).toArray 111 (0,0)),sq D f.length t 53 1 f,blk b1 (.cells [Cr p].toArray 46 (0,0)),blk b3 (.cells [.slice a bs.length c].toArray 53 (0,0)),sq a bs.length c 5 1 (bs.map u8)]) (fun(i,a,c,bs)=>i<=f.length/\bs.length<=65548*(i+1)/\Eu bs/\Vu bs (l.notes.drop i)=l.layb) (fun(i,_)=>f.length-i) (0,a,c,s.1) ?_ ?_
 ·exact⟨⟨Af _,by omega,G,by rw[E];rfl⟩,Sb5,.refl _⟩
 rintro⟨i,a,c,bs⟩ ⟨hi,hbl,hbb,o⟩
 conv=>arg 7;dsimp only
 conv=>arg 8;dsimp only
 refine OA 5 ?_
 refine Cy rfl (fun F=>?_) (fun F=>?_)
 ·obtain⟨x,hx⟩:∃b,l.notes[i]? =some b:=⟨_,Ae (by omega)⟩
  obtain⟨N,O,hv,hB,R⟩:=hns.at hx
  have hxl:=hnl x (Aj hx)
  have hel:=Qo 2 x
  rw[Ay (by omega),show l.notes[i]'(by omega)=x from(Ab.1 hx).2,Vu]at o
  refine CO (fun w hw=>hw.sqNN (ao:=D) at3 (by omega)) fun⟨g,hg⟩=>?_
  subst hg
  refine OA 5 ?_
  refine O1 (Km i u40) ?_
  refine O1 (YV u53 hv) ?_
  refine OA 6 ?_
  refine Oc rfl (en 85) rfl (.p1 .d) (Kf 2 N O x _ (Reads.pool hB.1) hxl) ?_
  rintro _ _ ⟨a2,c2,rfl,rfl⟩
  refine OA 12 ?_
  refine CH rfl (fun q=>?_) (fun q=>?_)
  ·rw[Ah q]at o
   rw[<-o,Ah q]
   refine OA 5 ?_
   refine Ti (Zb (.p1 (.p1 .d)) (A:=Ey p n L l) ⟨y,_,sc,t,f,rfl,hs,hns⟩) (Tp (.t6 (.t0 (.t3 .e))) ?_)
   exact Cu (CB rfl rfl (.refl _) ⟨_,C,rfl,rfl⟩)
  rw[Aa (fun h=>h q)]at o
  refine OA 4 ?_
  refine O2 (ZH Jf (.sq (ao:=a2) (m:=(Dt 2 x).1.length) (cap:=c2) (T:=5) (sz:=1) (xs:=(Dt 2 x).1.map u8))) ?_
  rintro _ _ ⟨a3,P,rfl,rfl⟩
  refine OA 2 ?_
  rw[show bs.length+(Dt 2 x).1.length=(bs++(Dt 2 x).1).length from by rw[Ac],<-AO]
  refine Tp (.t0 (.t5 (.t0 (.t0 (.t0 (.t0 (.t0 .e))))))) (OA 4 ?_)
  exact⟨(i+1,a3,P,bs++(Dt 2 x).1),⟨⟨by omega,by rw[Ac];omega,hbb.append (JO 2 hB.2),o⟩,Sb5,.refl _⟩,by simp only;omega⟩
 rw[BB (by omega),Vu]at o
 rw[<-o,Aa (fun h=>h rfl)]
 refine OA 8 ?_
 refine O5 (Zc rfl (en 39) rfl (HW (l.turn+1) (by omega))) ?_
 refine O6 (YQ zr3) fun U=>?_
 refine OA 5 ?_
 refine O1 (Qaa (ys:=[.tmp 1,.tmp 9]) (vs:=[_,_]) rfl rfl) ?_
 refine O1 (Qaa (ys:=[.tmp 1,.tmp 9,.tmp 3]) (vs:=[_,_,_]) rfl rfl) ?_
 refine O1 (Qaa (ys:=[.tmp 1,.tmp 9]) (vs:=[_,_]) rfl rfl) ?_
 refine O6 (Lbs [.nilFunc,.nilFunc,.nilFunc] u178) fun M=>?_
 refine OA 4 ?_
 refine Ho 4 ?_
 refine Dv ?_
 refine OA 11 ?_
 refine O1 (Zj 0 rfl rfl rfl u178 rfl rfl (by decide)) ?_
 refine OA 4 ?_
 refine Cw (.s4 (.t .d)) rfl (fun j=>false) ?_
 intro B
 refine DA [0,1] ?_
 refine Da 2 ?_
 refine D6 rfl (LO.spv (ys:=[]) (vs:=[]) rfl (en 86) rfl rfl (.p4 (.p6 (.p2 (.p0 .d)))) (WW p n l.turn ((l.turn+1)%2) b1 _ _ _ (by omega) C d hd)) ?_
 rintro _ _ ⟨_,⟨rfl,J,rfl⟩,rfl⟩
 refine ys (Da 3 ?_)
 refine DB rfl rfl (en 92) rfl (.p7 .d) (GG p n _ _ _ 0 (by decide)) ?_
 rintro _ _ ⟨rfl,rfl⟩
 refine ys (D1 4 rfl FC ?_)
 refine OA 6 ?_
 refine CH rfl (fun k=>absurd rfl k) fun k=>?_
 refine OA 5 ?_
 refine Dv ?_
 refine OA 11 ?_
 refine O1 (Zj 1 rfl rfl rfl u178 rfl rfl (by decide)) ?_
 refine OA 4 ?_
 refine Cw (.s5 (.t .d)) rfl (fun j=>false) ?_
 intro B
 refine DA [0,1] ?_
 refine Da 2 ?_
 refine D6 rfl (LO.spv (ys:=[]) (vs:=[]) rfl (en 88) rfl rfl (.p5 (.p5 (.p6 (.p2 (.p2 (.p3 .d)))))) (XN p n l.turn ((l.turn+1)%2) b1 _ _ _ _ (by omega) J _ (hd.clear _) _ _ bs)) ?_
 rintro _ _ ⟨_,⟨rfl,H,rfl⟩,rfl⟩
 refine ys (Da 3 ?_)
 refine DB rfl rfl (en 92) rfl (.p5 .d) (GG p n _ _ _ ((d.clear ((l.turn+1)%2)).append ((l.turn+1)%2) bs).2 (Ww _ _ _)) ?_
 rintro _ _ ⟨rfl,rfl⟩
 refine ys (D1 4 rfl FC ?_)
 refine OA 6 ?_
 refine CH rfl (fun k=>?_) (fun k=>?_)
 ·rw[Ah k]
  refine OA 5 ?_
  refine Ti (Zb (.p8 (.p1 .d)) (A:=Ey p n L l) ⟨y,_,sc,t,f,rfl,hs,hns⟩) (Tp (.t7 (.t6 (.t0 .e))) ?_)
  exact Cu (CB rfl rfl (.refl _) ⟨_,H,rfl,by rw[VX k]⟩)
 rw[Aa (fun h=>h k)]
 refine OA 5 ?_
 refine Dv ?_
 refine OA 11 ?_
 refine O1 (Zj 2 rfl rfl rfl u178 rfl rfl (by decide)) ?_
 refine OA 4 ?_
 refine Cw (.s3 (.t .d)) rfl (fun j=>false) ?_
 intro B
 refine DA [0,1] ?_
 refine Da 2 ?_
 refine D6 rfl (LO.spv (ys:=[]) (vs:=[]) rfl (en 90) rfl rfl (.p3 (.p3 (.p6 (.p5 .d)))) (Ye p n l.turn ((l.turn+1)%2) b1 _ _ _ (by omega) H _ ((hd.clear _).append _ hbb))) ?_
 rintro _ _ ⟨_,⟨rfl,K,rfl⟩,rfl⟩
 refine ys (Da 3 ?_)
 refine DB rfl rfl (en 92) rfl (.p7 .d) (GG p n _ _ _ 0 (by decide)) ?_
 rintro _ _ ⟨rfl,rfl⟩
 refine ys (D1 4 rfl FC ?_)
 refine OA 6 ?_
 refine CH rfl (fun k=>absurd rfl k) fun k=>?_
 refine OA 5 ?_
 refine Dv ?_
 refine OA 22 ?_
 refine Ti (Zb (.p8 (.p1 .d)) (A:=Ey p n L {l with turn:=l.turn+1}) ⟨y,_,sc,t,f,rfl,hs,hns⟩) (Tp (.t7 (.t6 (.t0 .e))) ?_)
 exact Cu (CB rfl rfl (.refl _) ⟨_,K,rfl,rfl⟩)
def EA.check(l:EA)(d:Dw)(b:N_):EA×Dw×Int:=
 if 65516<b.length then (l,d,3)
 else if(EA.lay {l with state:=b,notes:=[]} d).2.2≠0 then (l,(EA.lay {l with state:=b,notes:=[]} d).2.1,(EA.lay {l with state:=b,notes:=[]} d).2.2)
 else EA.lay {l with state:=b,notes:=[]} d
theorem lay_id{l:EA}{d:Dw}(h:(l.lay d).2.2≠0):(l.lay d).1=l:=by
 unfold EA.lay at h ⊢
 split
 ·rfl
 ·split
  ·rfl
  ·split
   ·rfl
   ·rename_i h1 h2 h3
    rw[Aa h1,Aa h2,Aa h3]at h
    exact absurd rfl h
theorem RO(p g:Nat)(S o:N_)(L:PL)(l:EA)(d:Dw)(hd:d.Ok)(ht:l.turn<4611686018427387904)(a:A_)(c:Nat)(b:N_)(r:CW)(hr:Reads r a (b.map u8))(hB:Eu b):
  Sp P0 160 [Cr p,.slice a b.length c] [cm S (Ey p g L l),cm o (DZ g d),pool L,r] fun v h=>∃L' C S2',Le L L'/\v= Cs (l.check d b).2.2/\h=[cm C (Ey p g L' (l.check d b).1),cm S2' (DZ g (l.check d b).2.1),pool L',r]:=by
 refine Sq Tryz.func160 fun w0 b_=>?_
 refine Cx (Cv.op (.p0 .d)) ?_
 rintro _ ⟨_,⟨y,J,sc,w,n,rfl,hs,hns⟩,rfl⟩
 have hvl:=hns.1
 refine OA 8 ?_
 refine O8 (Zd rfl (en 151) rfl (.p3 .d) (IE p g _ _ _)) ?_
 refine OA 7 ?_
 refine CH rfl (fun k=>absurd rfl k) fun k=>?_
 refine OA 8 ?_
 refine Cy rfl (fun m=>?_) (fun m=>?_)
 ·have e:l.check d b=(l,d,3):=Ah (by omega)
  rw[e]
  refine OA 4 ?_
  refine Ti (Zb (.p4 (.p3 .d)) (A:=Ey p g L l) ⟨y,_,sc,w,n,rfl,hs,hns⟩) (Tp (.t3 (.t0 (.t0 (.t0 .e)))) ?_)
  exact Cu (CB rfl rfl (.refl _) ⟨L,_,o,.refl _,rfl,rfl⟩)
 have e1:l.check d b=if(EA.lay {l with state:=b,notes:=[]} d).2.2≠0 then (l,(EA.lay {l with state:=b,notes:=[]} d).2.1,(EA.lay {l with state:=b,notes:=[]} d).2.2)
  else EA.lay {l with state:=b,notes:=[]} d:=Aa (by omega)
 rw[e1]
 refine OA 2 ?_
 refine CS rfl (fun j=>false) ?_
 refine DA [0,1,2,3,4,5,6,7,8,9] ?_
 refine OA 6 ?_
 refine Oc rfl (en 77) rfl (.p2 .d) (Eb _ _ _ _ _ hr (by simp) (EU _) (by omega)) ?_
 rintro _ _ ⟨a5,t,rfl,rfl⟩
 refine OA 7 ?_
 refine Cx (Zg (.p1 (.p4 .d))) ?_
 rintro _ ⟨L2,i,hps,rfl⟩
 have q:Bs L2 (.slice a5 b.length t) b:=⟨hps,hB⟩
 refine Ti (Cv.nil 53 1) (Ti (Zb (.p2 (.p4 .d)) (A:=Ey p g L2 {l with state:=b,notes:=[]}) ⟨a5,none,t,0,[],rfl,q,.nil _⟩) (OA 3 ?_))
 refine Oc rfl (en 40) rfl (.p4 (.p0 (.p2 .d))) (Pn p g _ o L2 {l with state:=b,notes:=[]} d hd ht (by show 0<_;decide) (by show b.length<_;omega) (fun x hx=>by cases hx)) ?_
 rintro _ _ ⟨D,s,rfl,rfl⟩
 refine OA 8 ?_
 refine CH rfl (fun f=>?_) (fun f=>?_)
 ·rw[Ah f,lay_id f]
  refine Cx (Cv.op (.p2 .d)) ?_
  rintro _ ⟨_,⟨H,F,I,G,B,rfl,E,u⟩,rfl⟩
  refine OA 17 ?_
  refine Ti (Zb (.p4 (.p0 .d)) (A:=Ey p g L2 l) ⟨y,_,sc,w,n,rfl,hs.le i,hns.le i⟩) (Tp (.t4 (.t1 (.t1 (.t0 .e)))) ?_)
  exact Cu (CB rfl rfl (.refl _) ⟨L2,_,s,i,rfl,rfl⟩)
 rw[Aa (fun h=>h f)]
 refine OA 6 ?_
 refine Tp (.t2 (.t2 (.t2 (.t1 .e)))) ?_
 exact Cu (CB rfl rfl (.refl _) ⟨L2,D,s,i,rfl,rfl⟩)
theorem sl_le(b:N_)(i j:Nat):(sl b i j).length<=b.length:=by unfold sl;simp;omega
theorem XX(b:N_):(DD b).1.data.length<=b.length:=by
 unfold DD
 repeat' split
 all_goals first|exact sl_le _ _ _|exact Af _
theorem NC(b:N_):∀(k:Nat) (c:List JV) (i:Nat),(∀f∈c,f.data.length<=b.length)->∀f∈(GU b k c i).1,f.data.length<=b.length
 |0,c,i,h=>h
 |k+1,c,i,h=>by
  unfold GU
  split
  ·split
   ·exact h
   ·exact NC b k _ _ fun f hf=>(AC.1 hf).elim (h f) fun h1=>by rw[Ap.1 h1];exact AA (XX _) (sl_le _ _ _)
  ·exact h
structure EA.Sm(l:EA)(T n m:Nat):Prop where
 turn:l.turn<=T
 state:l.state.length<=m
 notes:l.notes.length<=n
 note:∀x∈l.notes,x.length<=m
theorem ldM_sm(b:N_):(EA.mk (GQ b).1 (GQ b).2.1 (GQ b).2.2.1).Sm 1099511627776 b.length b.length:=by
 unfold GQ
 split
 ·exact⟨Af _,Af _,Af _,fun _ h=>by cases h⟩
 ·rename_i t st ns e h
  unfold LX at h
  have hlen:=OP b
  have hd:=NC b (b.length+1) [] 0 (fun _ h=>by cases h)
  split at h
  ·cases h
  ·rename_i hb
   split at h
   ·cases h
   ·rename_i f d hs
    split at h
    ·cases h
    ·rename_i hc
     cases h
     rw[hs]at hlen
     have c:∀g∈f::d,g.data.length<=b.length:=hs▸hd
     refine⟨by simp only;omega,AA (sl_le _ _ _) (c f Ar),by simp only[List.length_map,List.length_cons]at*;omega,fun x hx=>?_⟩
     obtain⟨g,hg,rfl⟩:=AZ.1 hx
     exact c g (Aw _ hg)
def Ir(b:N_)(t:Nat)(x:EA×Bool):EA×Bool:=
 if(GQ b).2.2.2.2=true/\x.1.turn<(GQ b).1/\(GQ b).1%2=t then (⟨(GQ b).1,(GQ b).2.1,(GQ b).2.2.1⟩,decide ((GQ b).2.2.2.1<b.length))else x
def Lm(d:Dw):Nat->EA×Bool
 |0=>(⟨0,[],[]⟩,false)
 |k+1=>Ir (d.tape k).b k (Lm d k)
def Dw.open_(d:Dw):EA×Dw×Int:=if(Lm d 2).1.turn=0∨(Lm d 2).2=true then (Lm d 2).1.lay d else ((Lm d 2).1,d,0)
theorem WG{d:Dw}(hd:d.Ok):∀k,(Lm d k).1.Sm 1099511627776 4194304 4194304
 |0=>⟨Af _,Af _,Af _,fun _ h=>by cases h⟩
 |k+1=>by
  unfold Lm Ir
  split
  ·have h:=ldM_sm (d.tape k).b
   have:=(hd.tape k).len
   exact⟨h.turn,AA h.state this,AA h.notes this,fun x hx=>AA (h.note x hx) this⟩
  ·exact WG hd k
theorem drd_spec(t:Nat)(ht:t<2)(p:Nat)(S:N_)(d:Dw)(hd:d.Ok):
  Sp P0 37 [Cr p,Cs t] [cm S (DZ p d)] fun v q=>∃a c b,v= .tuple #[.slice a (d.tape t).b.length c,Cs 0]/\q=[sq a (d.tape t).b.length c 5 1 ((d.tape t).b.map u8),cm b (DZ p d)]:=by
 match t,ht with
 |0,_=>exact Yr p S d hd
 |1,_=>exact Xi p S d hd
theorem NA(k:Nat)(S:N_)(L:PL)(d:Dw)(hd:d.Ok):
  Sp P0 11 [Cr k] [cm S (DZ k d),pool L] fun v h=>∃L' e,Le L L'/\((d.open_.2.2≠0/\v= .tuple #[.pointer none,Cs d.open_.2.2]/\h=[cm e (DZ k d.open_.2.1),pool L'])∨(d.open_.2.2=0/\∃p F,v= .tuple #[Cr p,Cs 0]/\h=[cm e (DZ k d.open_.2.1),pool L',cm F (Ey p k L' d.open_.1)])):=by
 refine Sq Tryz.func11 fun w0 b_=>?_
 refine OA 9 ?_
 refine O6 YR fun G=>?_
 obtain⟨p,hpb⟩:∃p,p=G:=⟨_,rfl⟩;subst hpb
 refine OA 11 ?_
 refine Ti (Cv.nil 53 1) (Tb (CD (fun((i,e,L',l,j,g,sc,n,f,b):Nat×N_×PL×EA×Bool×A_×Nat×A_×Nat×V_)=>[(0,Cr k),(4,Cr p),(5,.bool j),(18,Cs i)]) (fun(i,e,L',l,j,g,sc,n,f,b)=>[cm e (DZ k d),pool L',blk p (.cells (OY k l.turn (.slice g l.state.length sc) (.slice n b.length f)).toArray 111 (0,0)),sq n b.length f 53 1 b]) (fun(i,e,L',l,j,g,sc,n,f,b)=>i<=2/\Le L L'/\Lm d i=(l,j)/\Bs L' (.slice g l.state.length sc) l.state/\Dz L' b l.notes) (fun(i,e,L',l,j,g,sc,n,f,b)=>2-i) (0,S,L,⟨0,[],[]⟩,false,none,0,none,0,[]) ?_ ?_))
 ·exact⟨⟨Af _,.refl _,rfl,Zp _,Dz.nil _⟩,Sb4,.refl _⟩
 rintro⟨i,e,L',l,j,g,sc,n,f,b⟩ ⟨hi,hL,m,hs,hns⟩
 conv=>arg 7;dsimp only
 conv=>arg 8;dsimp only
 refine OA 5 ?_
 refine Cy rfl (fun B=>?_) (fun B=>?_)
 ·have hbl:=(hd.tape i).len
  have hby:=(hd.tape i).byt
  have hld:=ldM_sm (d.tape i).b
  have P:(GQ (d.tape i).b).1<=1099511627776:=hld.turn
  refine OA 12 ?_
  refine Oc rfl (en 37) rfl (.p0 .d) (drd_spec i (by omega) k e d hd) ?_
  rintro _ _ ⟨a1,c1,F,rfl,rfl⟩
  refine OA 12 ?_
  refine CH rfl (fun s=>absurd rfl s) fun s=>?_
  refine OA 2 ?_
  refine CO (fun w hw=>hw.sqB at3) fun⟨hq,_⟩=>?_
  refine OA 2 ?_
  refine Oc rfl (en 38) rfl (.p3 (.p0 .d)) (WL a1 c1 (d.tape i).b L' _ .sq hq (by omega) hby) ?_
  rintro _ _ ⟨L2,M,N,J,K,E,r,I,y,rfl,rfl⟩
  refine OA 13 ?_
  refine CQ 52 ((GQ (d.tape i).b).2.2.2.2=true/\l.turn<(GQ (d.tape i).b).1/\(GQ (d.tape i).b).1%2=i) ?_ ?_
  ·refine OA 3 ?_
   refine Df 39 rfl (fun c=>?_) (fun c=>?_)
   ·refine OA 8 ?_
    refine CJ 47 rfl (fun C=>?_) (fun C=>?_)
    ·refine O1 DC ?_
     refine O5 (Zc rfl (en 39) rfl (HW (GQ (d.tape i).b).1 (by omega))) ?_
     refine OA 4 ?_
     first|exact EW rfl (congrArg Value.bool (AN.2 ⟨fun h=>⟨c,by omega,by omega⟩,fun h=>by have:=h.2.2;omega⟩))|exact EW rfl (congrArg Value.bool (AX (fun h=>by have:=h.2.1;omega)).symm)|exact EW rfl (congrArg Value.bool (AX (fun h=>by rw[h.1]at c;cases c)).symm)
    refine OA 6 ?_
    first|exact EW rfl (congrArg Value.bool (AN.2 ⟨fun h=>⟨c,by omega,by omega⟩,fun h=>by have:=h.2.2;omega⟩))|exact EW rfl (congrArg Value.bool (AX (fun h=>by have:=h.2.1;omega)).symm)|exact EW rfl (congrArg Value.bool (AX (fun h=>by rw[h.1]at c;cases c)).symm)
   refine OA 14 ?_
   first|exact EW rfl (congrArg Value.bool (AN.2 ⟨fun h=>⟨c,by omega,by omega⟩,fun h=>by have:=h.2.2;omega⟩))|exact EW rfl (congrArg Value.bool (AX (fun h=>by have:=h.2.1;omega)).symm)|exact EW rfl (congrArg Value.bool (AX (fun h=>by rw[h.1]at c;cases c)).symm)
  refine CP (fun((e,L',l,j,g,sc,n,f,b):N_×PL×EA×Bool×A_×Nat×A_×Nat×V_)=>[(0,Cr k),(4,Cr p),(5,.bool j),(18,Cs i)]) (fun(e,L',l,j,g,sc,n,f,b)=>[cm e (DZ k d),pool L',blk p (.cells (OY k l.turn (.slice g l.state.length sc) (.slice n b.length f)).toArray 111 (0,0)),sq n b.length f 53 1 b]) (fun(e,L',l,j,g,sc,n,f,b)=>Le L L'/\Lm d (i+1)=(l,j)/\Bs L' (.slice g l.state.length sc) l.state/\Dz L' b l.notes) ?_ ?_
  ·refine Cy rfl (fun o=>?_) (fun o=>?_)
   ·refine OA 24 ?_
    refine Oi (YN (.t2 (.t3 (.t0 (.t2 .e))))) ?_
    refine On ?_
    exact⟨(F,L2,⟨(GQ (d.tape i).b).1,(GQ (d.tape i).b).2.1,(GQ (d.tape i).b).2.2.1⟩,decide ((GQ (d.tape i).b).2.2.2.1<(d.tape i).b.length),M,N,J,K,E),⟨hL.trans r,by rw[Lm,Ir,m];exact Ah o,I,y⟩,⟨rfl,rfl,CT rfl (congrArg Value.bool (AN.2 (by omega))),rfl,trivial⟩,.refl _⟩
   refine Tp (.t2 (.t3 (.t0 (.t0 .e)))) (Tk ?_)
   exact⟨(F,L2,l,j,g,sc,n,f,b),⟨hL.trans r,by rw[Lm,Ir,m];exact Aa o,hs.le r,hns.le r⟩,Sb4,.refl _⟩
  clear m hs hns hL
  rintro⟨e,L',l,j,g,sc,n,f,b⟩ ⟨hL,m,hs,hns⟩
  conv=>arg 4;dsimp only
  conv=>arg 5;dsimp only
  refine OA 4 ?_
  exact⟨(i+1,e,L',l,j,g,sc,n,f,b),⟨⟨by omega,hL,m,hs,hns⟩,Sb4,.refl _⟩,by simp only;omega⟩
 obtain rfl:i=2:=by omega
 have hsm:=WG hd 2
 rw[m]at hsm
 have H:d.open_=if l.turn=0∨j=true then l.lay d else (l,d,0):=by unfold Dw.open_;rw[m]
 rw[H]
 refine OA 3 ?_
 refine CQ 77 (l.turn=0∨j=true) ?_ ?_
 ·refine OA 7 ?_
  refine CJ 75 rfl (fun D=>?_) (fun D=>?_)
  ·refine OA 3 ?_
   first|exact EW rfl (congrArg Value.bool (AG (.inl (by omega))).symm)|exact EW rfl (congrArg Value.bool (by have:¬l.turn=0:=(by omega);simp[this]))
  refine OA 3 ?_
  first|exact EW rfl (congrArg Value.bool (AG (.inl (by omega))).symm)|exact EW rfl (congrArg Value.bool (by have:¬l.turn=0:=(by omega);simp[this]))
 refine Cy rfl (fun q=>?_) (fun q=>?_)
 ·rw[Ah q]
  refine Ti (Zb (.p2 (.p2 .d)) (A:=Ey p k L' l) ⟨g,_,sc,f,b,rfl,hs,hns⟩) (OA 3 ?_)
  refine Oc rfl (en 40) rfl (.p2 (.p0 (.p0 .d))) (Pn p k _ e L' l d hd (by have:=hsm.turn;simp only at this;omega) (by have:=hsm.notes;simp only at this;omega) (by have:=hsm.state;simp only at this;omega) (fun x hx=>by have:=hsm.note x hx;omega)) ?_
  rintro _ _ ⟨Q,O,rfl,rfl⟩
  refine OA 7 ?_
  refine CH rfl (fun t=>?_) (fun t=>?_)
  ·refine OA 6 ?_
   refine Tp (.t1 (.t1 .e)) ?_
   exact Cu (Dq rfl rfl rfl (.refl _) ⟨L',O,hL,.inl ⟨t,rfl,rfl⟩⟩)
  have u:(l.lay d).2.2=0:=by omega
  refine OA 7 ?_
  refine Tp (.t1 (.t1 (.t0 .e))) ?_
  exact Cu (Dq rfl rfl rfl (.refl _) ⟨L',O,hL,.inr ⟨u,p,Q,rfl,rfl⟩⟩)
 rw[Aa q]
 refine Ti (Zb (.p2 (.p2 .d)) (A:=Ey p k L' l) ⟨g,_,sc,f,b,rfl,hs,hns⟩) (OA 7 ?_)
 exact Cu (Dq rfl rfl rfl (.refl _) ⟨L',e,hL,.inr ⟨rfl,p,_,rfl,rfl⟩⟩)
theorem Reads.take{r:CW}{a:A_}{xs:V_}(h:Reads r a xs)(q:Nat):Reads r a (xs.take q):=fun H c i u b=>h H c i u (by rw[BH]at b;split at b;exact b;cases b)
theorem CX.grown{w0 w w':World}{b_:N_}{h:Mem}(o:CX w0 b_ h w){g:Nat}{r:CW}(hg:w.grownBy w' none)(hid:r.ids=[g])(f:w.heap.size<=g)(hr:r.P (hf w')):CX w0 b_ (h++[r]) w':=by
 have hlt:=o.lt
 have d:∀k,k<w.heap.size->w'.heap[k]? =w.heap[k]? :=fun k hk=>hg.block k hk (by simp)
 refine⟨hg.os.trans o.os,hg.tape.trans o.tape,hg.output.trans o.output,AA o.size hg.size,fun k hk hb=>by rw[d k (Nat.lt_of_lt_of_le hk o.size)];exact o.old k hk hb,fun s hs=>?_,?_,fun s hs i c=>?_⟩
 ·rcases AC.1 hs with hs|hs
  ·exact s.loc _ _ (fun i c=>d i (hlt s hs i c)) (o.mine s hs)
  ·rw[Ap.1 hs];exact hr
 ·rw[AI,List.flatMap_singleton,hid]
  refine Bu.2 ⟨o.nd,by simp,fun a ha b e=>?_⟩
  obtain⟨s,hs,has⟩:=Ba.1 ha
  have:=hlt s hs a has
  rw[Ap.1 e]
  omega
 ·rcases AC.1 hs with hs|hs
  ·exact o.fr s hs i c
  ·rw[Ap.1 hs,hid]at c
   rw[Ap.1 c]
   exact .inl (AA o.size f)
section
variable {P:Program}{n:Nat}{w0:World}{b_:N_}{l:Dh}{h hs:Mem}{o:Oper}{v:Value}
theorem LO.appG{x y:Operand}{t e:TypeId}{z:Value}{sz p:Nat}{ao R:A_}{m k c i j:Nat}{xs d:V_}{r1 r2:CW}{f:CW->Mem}(he:El P t e z sz p)(H:Reads r1 ao xs)(E:Reads r2 R d)
  (ho:o.op= .call {callee:=.builtin .append,args:= #[x,y],argTypes:= #[t,t]}:=by rfl) (hx:ev l x=some (.slice ao m m):=by rfl) (hy:ev l y=some (.slice R k c):=by rfl)
  (hi:FG h i r1:=by first|exact at0|exact at1|exact at2|exact at3|exact at4|exact at5|exact at6|exact at7|exact at8|exact at9|exact at10|exact at11|exact at12)
  (hj:FG h j r2:=by first|exact at0|exact at1|exact at2|exact at3|exact at4|exact at5|exact at6|exact at7|exact at8|exact at9|exact at10|exact at11|exact at12) (hf:∀r,EY h r (f r):=by intro r;repeat constructor) (hk:0<k:=by first|decide|omega) (hlx:xs.length=m*sz:=by simp) (hl:d.length=k*sz:=by rfl) (h1:d.all EL=true:=by rfl) (J:m+k<=maxLen:=by unfold maxLen;omega) (hb:(m+k)*p<=140737488355328:=by omega):
  LO P n w0 b_ h l o fun u h'=>∃D A,u= .slice D (m+k) A/\h'=f (sq D (m+k) A e sz (xs++d)):=by
 have hpos:=he.pos
 have hn0:∃u,d[0]? =some u:=⟨_,Ae (by rw[hl];exact Nat.mul_pos hk hpos)⟩
 cases ao with
 |none=>
  intro a w B hw K Q G
  have N:xs=[]:=by
   cases xs with
   |nil=>rfl
   |cons u us=>obtain⟨q,hq,_⟩:=H _ (hw.mine _ (Aj hi.at)) 0 u rfl;cases hq
  subst N
  have hm:m=0:=by
   rcases Nat.eq_zero_or_pos m with h0|h0
   ·exact h0
   ·have:=Nat.mul_pos h0 hpos;simp at hlx;omega
  subst hm
  refine LO.clone (f:=f) he E ho hx hy hj hf (by omega) (by rw[AE]at hb;exact hb) hl (fun u M=>BD.1 h1 u M) a w B hw K Q fun v w' h' S C=>?_
  obtain⟨D,A,rfl,rfl⟩:=S
  exact G _ w' _ ⟨D,A,by rw[AE],by rw[AE,List.nil_append]⟩ C
 |some b=>
  obtain⟨O,F,T,U,V⟩:=he.row
  cases R with
  |none=>
   intro a w B hw K Q G
   obtain⟨u,M⟩:=hn0
   obtain⟨q,hq,_⟩:=E _ (hw.mine _ (Aj hj.at)) 0 u M
   cases hq
  |some ad=>
   refine Zf (s:=Builtin.append_ #[t,t] o.type #[.slice (some b) m m,.slice (some ad) k c]) (fun a B=>?_) fun w hw=>?_
   ·unfold execOp
    simp only[ho,resolve,List.map_toArray,List.map_cons,List.map_nil,B.eval hx,B.eval hy]
    rfl
   ·obtain⟨v',w',hrun,C,hgr⟩:=run_append_arg_grows (P:=P) w t o.type e O z sz p he.sl F T U V he.zs hpos b m m xs hlx
     (fun q u hq=>by obtain⟨W,I,hc⟩:=H _ (hw.mine _ (Aj hi.at)) q u hq;cases I;exact hc) ad k c d hl
     (fun q u hq=>by obtain⟨W,I,hc⟩:=E _ (hw.mine _ (Aj hj.at)) q u hq;cases I;exact hc) (by omega) J hb
    obtain⟨q1,q2⟩:=C
    rcases q2 with ⟨rfl,q3⟩|⟨g,cap,cur,rfl,L,q3⟩
    ·omega
    ·refine⟨_,w',_,hrun,⟨_,_,rfl,rfl⟩,?_⟩
     rw[(hf _).eq]
     exact hw.grown (g:=g) hgr rfl L ⟨q1,.inr ⟨g,cur,rfl,q3⟩⟩
theorem LO.mapIns{K:Type}[DecidableEq K]{c:K->Value}{m x y:Operand}{T d e:TypeId}{b:Nat}{f:K->Option Value}(i:Nat)(k:K)(hr:Fm P d c)(ho:o.op= .insert T m x y)(hm:ev l m=some (.map (some b)))(hx:ev l x=some (c k))(hy:ev l y=some v)
  (hi:h[i]? =some (Pi c b f)) (g:P.underlying T=some (.map d e)):LO P n w0 b_ h l o fun u h'=>u=undef/\h'=h.set i (Pi c b (EG f k (some v))):=by
 intro a w hf hw K Q hk
 have:=LO.mapUpdate (n:=n) (w0:=w0) (b_:=b_) (l:=l) (o:={o with op:=.mapUpdate T m x y}) i k hr rfl hm hx hy hi g a w hf hw K Q hk
 unfold Oper.wp at this ⊢
 have e:execOp a.eval o=execOp a.eval {o with op:=.mapUpdate T m x y}:=by unfold execOp;rw[ho]
 rw[e]
 exact this
end
theorem Ns{P:Program}{T e:TypeId}{a:A_}{len cap s l h m:Nat}{k k' k'':IntKind}(lo:Option Value)(w:World)(b:P.underlying T=some (.slice e))(hs:(P.info? e).map (·.size)=some s)
  (hlo:lo=none/\l=0∨lo=some (.int k l)) (h1:l<=h) (h2:h<=m) (h3:m<=cap):
  (Instr.sliceAt T (.slice a len cap) lo (some (.int k' h)) (some (.int k'' m))).run P w= .ok (.slice (EH a m l s) (h-l) (m-l)) w:=by
 have hbd:∀(k:IntKind) (x y:Nat) c,x<=y->(Instr.sliceBound (.int k (x:Int)) y c).run P w= .ok x w:=fun k x y c d=>by
  unfold Instr.sliceBound
  simp only[asIntOf]
  show((if _ then _ else _:Sem Nat)).run P w=_
  rw[Ah ⟨by omega,by omega⟩]
  simp
 have hb:(Instr.sliceBounds true len cap lo (some (.int k' h)) (some (.int k'' m))).run P w= .ok (l,h,m) w:=by
  unfold Instr.sliceBounds
  rcases hlo with ⟨rfl,rfl⟩|rfl
  ·simp only[Sem.run_bind,Sem.run_pure,Result.andThen_ok,hbd _ _ _ _ h2,hbd _ _ _ _ h3]
  ·simp only[Sem.run_bind,Sem.run_pure,Result.andThen_ok,hbd _ _ _ _ h2,hbd _ _ _ _ h3,hbd _ _ _ _ h1]
 unfold Instr.sliceAt
 rw[Ak,Cz b,Ai]
 show(Instr.slice T (.slice a len cap) lo (some (.int k' h)) (some (.int k'' m))).run P w=_
 unfold Instr.slice
 rw[Ak,Cz b,Ai]
 show((Instr.sliceBounds true len cap lo (some (.int k' h)) (some (.int k'' m)) >>= fun _=>_:Sem Value)).run P w=_
 rw[Ak,hb,Ai]
 show((sizeOf e >>= fun _=>_:Sem Value)).run P w=_
 rw[Ak,run_sizeOf hs,Ai]
 rfl
section
variable {P:Program}{n:Nat}{w0:World}{b_:N_}{l:Dh}{h hs:Mem}{o:Oper}{v:Value}
theorem Ct.slc3{x y z:Operand}{T e:TypeId}{a:A_}{len cap:Nat}{k k':IntKind}{i c:Int}(s:Nat)(j q:Nat)(d:P.underlying T=some (.slice e))(ho:o.op= .slice T x none (some y) (some z):=by rfl)(hx:ev l x=some (.slice a len cap):=by rfl)(hy:ev l y=some (.int k i):=by rfl)(hz:ev l z=some (.int k' c):=by rfl)(b:(P.info? e).map (·.size)=some s:=by rfl)(hj:i=(j:Int):=by first|rfl|omega)(hq:c=(q:Int):=by first|rfl|omega)(h1:j<=q:=by omega)(h2:q<=cap:=by omega):
  Ct P n w0 b_ hs l o (.slice a j q):=
 Ct.of (s:=Instr.sliceAt T (.slice a len cap) none (some (.int k i)) (some (.int k' c))) (fun f hf=>by unfold execOp;simp only[ho,hf.eval hx,hf.eval hy,hf.eval hz,Option.map_some,Option.map_none]) fun w _=>by
  subst hj hq
  have:=Ns (P:=P) (k:=.i64) (k':=k) (k'':=k') (a:=a) (len:=len) none w d b (.inl ⟨rfl,rfl⟩) (Af _) h1 h2
  rw[FN]at this
  exact this
end
section
variable {P:Program}{n:Nat}{w0:World}{b_:N_}{l:Dh}{h hs:Mem}{o:Oper}{v:Value}
theorem Em{c:Func}{R:Value->Mem->Prop}{h0:Mem}{t T:Nat}{d:TypeDesc}{s b i:Nat}{cs:V_}{T':TypeId}{e:Nat×Nat}(g:P.underlying T=some d)(hs:h0.Sublist h)(f:R (.agg cs.toArray) h0)(hr:c.results= #[.cell t T]:=by rfl)(ht:fnd l t=some (.pointer (some ⟨b,0,none⟩)):=by rfl)
  (hi:FG h i (blk b (.cells cs.toArray T' e)):=by first|exact at0|exact at1|exact at2|exact at3|exact at4|exact at5|exact at6|exact at7|exact at8|exact at9|exact at10|exact at11|exact at12) (hd:ET d=true:=by rfl) (hsz:(P.info? T).map (·.size)=some s:=by rfl) (hc:cs.length=s:=by rfl):Hb P n w0 b_ c R .ret l h:=
 retC i hr ht hi.at ⟨g,hsz⟩ hd (by simpa using hc) hs f
end
inductive Rws {α:Type} (R:V_->α->Prop):V_->List α->Prop
 |nil:Rws R [] []
 |cons {c cs:V_} {x:α} {xs:List α}:R c x->Rws R cs xs->Rws R (c++cs) (x::xs)
section
variable {α:Type}{R R':V_->α->Prop}{cs:V_}{xs:List α}
theorem Rws.append(h:Rws R cs xs){ds:V_}{ys:List α}(k:Rws R ds ys):Rws R (cs++ds) (xs++ys):=by
 induction h with
 |nil=>exact k
 |cons a _ ih=>rw[Ao];exact .cons a ih
theorem Rws.one{c:V_}{x:α}(h:R c x):Rws R c [x]:=by have:=Rws.cons h (.nil (R:=R));rwa [AH]at this
theorem Rws.snoc(h:Rws R cs xs){c:V_}{x:α}(k:R c x):Rws R (cs++c) (xs++[x]):=h.append (.one k)
theorem Rws.mono(h:Rws R cs xs)(b:∀c x,R c x->R' c x):Rws R' cs xs:=by
 induction h with
 |nil=>exact .nil
 |cons a _ ih=>exact .cons (b _ _ a) ih
theorem Rws.len{s:Nat}(h:Rws R cs xs)(hs:∀c x,R c x->c.length=s):cs.length=xs.length*s:=by
 induction h with
 |nil=>simp
 |cons a _ ih=>rw[Ac,ih,hs _ _ a,Am,Ck,Nat.one_mul,Nat.add_comm]
theorem Rws.at{s:Nat}(h:Rws R cs xs)(hs:∀c x,R c x->c.length=s):∀ {i:Nat} {x:α},xs[i]? =some x->∃c,R c x/\∀k u,c[k]? =some u->cs[i*s+k]? =some u:=by
 induction h with
 |nil=>intro i x hx;cases hx
 |@cons c cs x xs a _ ih=>
  intro i y hy
  cases i with
  |zero=>
   cases hy
   refine⟨c,a,fun k u b=>?_⟩
   rw[Nat.zero_mul,AE,Bh (Ab.1 b).1];exact b
  |succ i=>
   obtain⟨d,h1,h2⟩:=ih (i:=i) hy
   refine⟨d,h1,fun k u b=>?_⟩
   rw[Bl (by rw[hs _ _ a,Ck];omega),hs _ _ a,show(i+1)*s+k-s=i*s+k by rw[Ck];omega]
   exact h2 k u b
end
def alk{β:Type}(k:Int):List (Int×β)->Option β
 |[]=>none
 |p::r=>if p.1=k then some p.2 else alk k r
def aset{β:Type}(k:Int)(v:β):List (Int×β)->List (Int×β)
 |[]=>[(k,v)]
 |p::r=>if p.1=k then (k,v)::r else p::aset k v r
def adel{β:Type}(k:Int):List (Int×β)->List (Int×β)
 |[]=>[]
 |p::r=>if p.1=k then r else p::adel k r
def KN{β:Type}:List (Int×β)->Prop
 |[]=>True
 |p::r=>alk p.1 r=none/\KN r
section
variable {β:Type}
theorem DE(k:Int)(v:β)(j:Int):∀l:List (Int×β),alk j (aset k v l)=if j=k then some v else alk j l
 |[]=>by
  by_cases h:j=k
  ·subst h;simp[aset,alk]
  ·simp[aset,alk,h,Ne.symm h]
 |p::r=>by
  unfold aset
  by_cases hp:p.1=k
  ·rw[Ah hp]
   by_cases h:j=k
   ·subst h;simp[alk]
   ·simp only[alk]
    rw[Aa (Ne.symm h),Aa h,Aa (by rw[hp];exact Ne.symm h)]
  ·rw[Aa hp]
   simp only[alk]
   by_cases h:p.1=j
   ·rw[Ah h,Ah h,Aa (by rw[<-h];exact hp)]
   ·rw[Aa h,Aa h,DE k v j r]
theorem KN.aset{k:Int}{v:β}:∀ {l:List (Int×β)},KN l->KN (aset k v l)
 |[],_=>⟨rfl,trivial⟩
 |p::r,h=>by
  unfold Cru.aset
  split
  ·rename_i e;exact⟨e▸h.1,h.2⟩
  ·rename_i e;exact⟨by rw[DE,Aa e];exact h.1,KN.aset h.2⟩
theorem Hf{k:Int}(j:Int):∀ {l:List (Int×β)},KN l->alk j (adel k l)=if j=k then none else alk j l
 |[],_=>by simp[adel,alk]
 |p::r,h=>by
  unfold adel
  by_cases hp:p.1=k
  ·rw[Ah hp]
   by_cases e:j=k
   ·rw[Ah e,e,<-hp];exact h.1
   ·rw[Aa e,alk,Aa (by rw[hp];exact Ne.symm e)]
  ·rw[Aa hp,alk,Hf j h.2,alk]
   by_cases e:p.1=j
   ·rw[Ah e,Ah e,Aa (by rw[<-e];exact hp)]
   ·rw[Aa e,Aa e]
theorem KN.adel{k:Int}:∀ {l:List (Int×β)},KN l->KN (adel k l)
 |[],h=>h
 |p::r,h=>by
  unfold Cru.adel
  split
  ·exact h.2
  ·rename_i e;exact⟨by rw[Hf _ h.2];split;exact rfl;exact h.1,KN.adel h.2⟩
theorem RS{k:Int}:∀ {l:List (Int×β)} {v:β},alk k l=some v->(adel k l).length+1=l.length
 |[],v,h=>by cases h
 |p::r,v,h=>by
  unfold adel
  by_cases hp:p.1=k
  ·rw[Ah hp];rfl
  ·rw[Aa hp]
   rw[alk,Aa hp]at h
   simp only[List.length_cons]
   rw[RS h]
def Dm(b:Nat)(g:β->Value)(l:List (Int×β)):CW:=Pi (GB .i64) b fun k=>(alk k l).map g
theorem Mp.len{g:β->Value}:∀ {l:List (Int×β)} {c:List MapEntry},KN l->Mp (GB .i64) c (fun k=>(alk k l).map g)->c.length=l.length
 |[],c,_,hm=>by
  cases c with
  |nil=>rfl
  |cons e r=>
   obtain⟨k,hk⟩:=hm.1 e Ar
   have:=hm.here Ar hk
   simp[alk]at this
 |p::l,c,hl,hm=>by
  obtain⟨e,he,hk,hv⟩:=(hm.2.2 p.1 (g p.2)).1 (by simp[alk])
  obtain⟨j,hj⟩:=BU.1 he
  have h1:=hm.erase (fun a b h=>by simpa [GB] using h) hj hk
  have e1:EG (fun k=>(alk k (p::l)).map g) p.1 none=fun k=>(alk k l).map g:=by
   funext k
   unfold EG
   by_cases h:k=p.1
   ·subst h;simp[hl.1]
   ·rw[Aa h];show(alk k (p::l)).map g=_;simp only[alk];rw[if_neg (Ne.symm h)]
  rw[e1]at h1
  have:=Mp.len hl.2 h1
  rw[List.length_eraseIdx]at this
  have hjl:=(Ab.1 hj).1
  rw[Ah hjl]at this
  simp only[List.length_cons]
  omega
section
variable {P:Program}{n:Nat}{w0:World}{b_:N_}{l:Dh}{h hs:Mem}{o:Oper}{v:Value}
theorem YS{T:TypeId}{f:CW->Mem}(g:β->Value)(ho:o.op= .makeMap T none:=by rfl)(hf:∀r,EY h r (f r):=by intro r;repeat constructor):LO P n w0 b_ h l o fun u h'=>∃b,u= .map (some b)/\h'=f (Dm b g []):=by
 intro a w d hw K Q hk
 refine LO.makeMap (GB .i64) ho a w d hw K Q fun u w' h' e c=>?_
 obtain⟨b,rfl,rfl⟩:=e
 exact hk _ w' _ ⟨b,rfl,rfl⟩ (by rw[(hf _).eq];exact c)
theorem ZK{m x y:Operand}{T d e:TypeId}{b i:Nat}{g:β->Value}{al:List (Int×β)}{h':Mem}(k:Int)(u:β)(c:P.underlying T=some (.map d e))(hr:P.underlying d=some (.int .i64))(ho:o.op= .mapUpdate T m x y∨o.op= .insert T m x y:=by first|exact .inl rfl|exact .inr rfl)(hm:ev l m=some (.map (some b)):=by rfl)(hx:ev l x=some (.int .i64 k):=by rfl)(hy:ev l y=some (g u):=by rfl)
  (hi:Ep h i (Dm b g al) (Dm b g (aset k u al)) h':=by first|exact s0|exact s1|exact s2|exact s3|exact s4|exact s5|exact s6|exact s7|exact s8|exact s9|exact s10|exact s11|exact s12):LO P n w0 b_ h l o fun u k=>u=undef/\k=h':=by
 have e:EG (fun j=>(alk j al).map g) k (some (g u))=fun j=>(alk j (aset k u al)).map g:=by
  funext j;unfold EG;rw[DE]
  by_cases h:j=k
  ·rw[Ah h,Ah h];rfl
  ·rw[Aa h,Aa h]
 have e2:Pi (GB .i64) b (EG (fun j=>(alk j al).map g) k (some (g u)))=Dm b g (aset k u al):=by unfold Dm;rw[e]
 rw[hi.at.2,<-e2]
 rcases ho with ho|ho
 ·exact LO.mapUpdate i k (Kl hr) ho hm hx hy hi.at.1 c
 ·exact LO.mapIns i k (Kl hr) ho hm hx hy hi.at.1 c
theorem LO.delA{m x:Operand}{T c e:TypeId}{b i:Nat}{g:β->Value}{al:List (Int×β)}{h':Mem}(k:Int)(hn:KN al)(d:P.underlying T=some (.map c e))(hr:P.underlying c=some (.int .i64))(ho:o.op= .call {callee:=.builtin .delete,args:= #[m,x],argTypes:= #[T,c]}:=by rfl)(hm:ev l m=some (.map (some b)):=by rfl)(hx:ev l x=some (.int .i64 k):=by rfl)
  (hi:Ep h i (Dm b g al) (Dm b g (adel k al)) h':=by first|exact s0|exact s1|exact s2|exact s3|exact s4|exact s5|exact s6|exact s7|exact s8|exact s9|exact s10|exact s11|exact s12):LO P n w0 b_ h l o fun u k=>u= .tuple #[]/\k=h':=by
 have e:EG (fun j=>(alk j al).map g) k none=fun j=>(alk j (adel k al)).map g:=by
  funext j;unfold EG;rw[Hf j hn]
  by_cases h:j=k
  ·rw[Ah h,Ah h];rfl
  ·rw[Aa h,Aa h]
 have e2:Pi (GB .i64) b (EG (fun j=>(alk j al).map g) k none)=Dm b g (adel k al):=by unfold Dm;rw[e]
 rw[hi.at.2,<-e2]
 exact Qbe i k (Kl hr) ho hm hx hi.at.1 d
theorem ZF{x y:Operand}{T c e:TypeId}{b i:Nat}{g:β->Value}{al:List (Int×β)}{z:Value}(k:Int)(d:P.underlying T=some (.map c e))(hr:P.underlying c=some (.int .i64))(ho:o.op= .lookup T x y false:=by rfl)(hx:ev l x=some (.map (some b)):=by rfl)(hy:ev l y=some (.int .i64 k):=by rfl)
  (hi:FG hs i (Dm b g al):=by first|exact at0|exact at1|exact at2|exact at3|exact at4|exact at5|exact at6|exact at7|exact at8|exact at9|exact at10|exact at11|exact at12) (hz:(P.info? e).bind (·.zero)=some z:=by rfl):Ct P n w0 b_ hs l o (((alk k al).map g).getD z):=
 Ct.lookup1 i k (Kl hr) ho hx hy hi.at d hz
theorem Qan{x y:Operand}{T c e:TypeId}{b i:Nat}{g:β->Value}{al:List (Int×β)}{z:Value}(k:Int)(d:P.underlying T=some (.map c e))(hr:P.underlying c=some (.int .i64))(ho:o.op= .lookup T x y true:=by rfl)(hx:ev l x=some (.map (some b)):=by rfl)(hy:ev l y=some (.int .i64 k):=by rfl)
  (hi:FG hs i (Dm b g al):=by first|exact at0|exact at1|exact at2|exact at3|exact at4|exact at5|exact at6|exact at7|exact at8|exact at9|exact at10|exact at11|exact at12) (hz:(P.info? e).bind (·.zero)=some z:=by rfl):Ct P n w0 b_ hs l o (.tuple [((alk k al).map g).getD z,.bool (alk k al).isSome].toArray):=by
 have:=Ct.lookup2 (n:=n) (w0:=w0) (b_:=b_) (o:=o) i k (Kl hr) ho hx hy hi.at d hz
 simpa using this
theorem Ct.lenA{x:Operand}{T h e:TypeId}{b i:Nat}{g:β->Value}{al:List (Int×β)}(hn:KN al)(f:P.underlying T=some (.map h e))(ho:o.op= .call {callee:=.builtin .len,args:= #[x],argTypes:= #[T]}:=by rfl)(hx:ev l x=some (.map (some b)):=by rfl)
  (hi:FG hs i (Dm b g al):=by first|exact at0|exact at1|exact at2|exact at3|exact at4|exact at5|exact at6|exact at7|exact at8|exact at9|exact at10|exact at11|exact at12):Ct P n w0 b_ hs l o (.int .i64 al.length):=
 Ct.of (s:=Builtin.len_ #[T] o.type #[.map (some b)]) (fun a hf=>by
  unfold execOp
  simp only[ho,resolve]
  simp only[List.map_toArray,List.map_cons,List.map_nil,hf.eval hx]
  rfl) fun w c=>by
  obtain⟨j,c_,hb,hm,_⟩:=c.mine _ (Aj hi.at)
  unfold Builtin.len_
  show((underlying T >>= fun d=>_):Sem Value).run P w=_
  rw[Ak,Cz f,Ai]
  show(getObj b >>= fun ob=>_:Sem Value).run P w=_
  rw[Ak,EE hb,Ai]
  have:=Mp.len hn hm
  rw[Bg]at this
  rw[<-this]
  rfl
end
end
structure HY where
 kind:Int
 a:Int
 b:Int
 data:N_
structure DW where
 view:Int
 normal:Int
 log:List N_
structure Db where
 kind:Int
 from_:Int
 to:Int
 shard:Int
 view:Int
 normal:Int
 at_:Int
 commit:Int
 id:Int
 err:Int
 list:List N_
 data:N_
structure Vi where
 recs:List HY
 msgs:List Db
 done:List N_
structure CA where
 me:Int
 n:Int
 shard:Int
 patience:Int
 keep:DW
 changing:Bool
 commit:Int
 idle:Int
 has:List (Int×Int)
 begun:List (Int×Bool)
 dos:List (Int×Db)
 out:Vi
def FM(v n:Int):Int:=v%max n 1+1
def DW.lay(k:DW)(r:HY):DW:=
 if r.kind=1 then {k with view:=r.a,normal:=r.b}
 else if r.kind=2 then {k with log:=k.log++[r.data]}
 else if r.kind=3 then {k with log:=k.log.take (min (max r.a 0) k.log.length).toNat}
 else k
def CA.put(c:CA)(r:HY):CA:={c with keep:=c.keep.lay r,out:={c.out with recs:=c.out.recs++[r]}}
def CA.send(c:CA)(m:Db):CA:={c with out:={c.out with msgs:=c.out.msgs++[{m with from_:=c.me,shard:=c.shard,view:=c.keep.view}]}}
def CA.take(c:CA):Vi×CA:=(c.out,{c with out:=⟨[],[],[]⟩})
def CA.leads(c:CA):Bool:= !c.changing && decide (FM c.keep.view c.n=c.me)
def CA.allL(m:Db):Nat->Int->CA->CA
 |0,_,c=>c
 |k+1,to,c=>if to<=c.n then CA.allL m k (to+1) (if to=c.me then c else c.send {m with to:=to})else c
def CA.all(c:CA)(m:Db):CA:=CA.allL m 8 1 c
def Zv:Nat->CA->CA
 |0,c=>c
 |k+1,c=>Zv k {c with commit:=c.commit+1,out:={c.out with done:=c.out.done++[c.keep.log.getD c.commit.toNat []]}}
def CA.reach(c:CA)(k:Int):CA:=Zv (min k c.keep.log.length-c.commit).toNat c
def CY(b:Int):Db:=⟨b,0,0,0,0,0,0,0,0,0,[],[]⟩
def CA.feedA(c:CA)(to:Int):Int:=min ((alk to c.has).getD 0) c.keep.log.length
def CA.feed(c:CA)(to:Int):CA:=c.send {CY 1 with to:=to,at_:=c.feedA to,commit:=c.commit,list:=(c.keep.log.take (min (c.feedA to+8) c.keep.log.length).toNat).drop (c.feedA to).toNat}
abbrev rcv(r:HY)(b:Value):V_:=[Cs r.kind,Cs r.a,Cs r.b,b]
abbrev GL(m:Db)(c b:Value):V_:=[Cs m.kind,Cs m.from_,Cs m.to,Cs m.shard,Cs m.view,Cs m.normal,Cs m.at_,Cs m.commit,Cs m.id,Cs m.err,c,b]
def RcR(L:PL)(c:V_)(r:HY):Prop:=∃b,c=rcv r b/\Bs L b r.data
def Gu(L:PL)(c:V_)(m:Db):Prop:=∃d b,c=GL m d b/\EI L d m.list/\Bs L b m.data
theorem RcR.le{L L':PL}(k:Le L L'){c:V_}{r:HY}(h:RcR L c r):RcR L' c r:=by
 obtain⟨b,e,h1⟩:=h
 exact⟨b,e,h1.le k⟩
theorem Gu.le{L L':PL}(k:Le L L'){c:V_}{m:Db}(h:Gu L c m):Gu L' c m:=by
 obtain⟨d,b,e,h1,h2⟩:=h
 exact⟨d,b,e,h1.le k,h2.le k⟩
theorem Gu.len{L:PL}(c:V_)(m:Db)(h:Gu L c m):c.length=12:=by obtain⟨d,b,rfl,_⟩:=h;rfl
theorem EI.sh{L:PL}{v:Value}{bs:List N_}(h:EI L v bs):∃a c,v= .slice a bs.length c/\bs.length<=c/\bs.length<=maxLen:=by
 obtain⟨vs,_,⟨a,c,e,h1,h2,_⟩,_⟩:=h
 exact⟨a,c,e,h1,h2⟩
theorem EI.nil(L:PL):EI L (.slice none 0 0) []:=⟨[],rfl,⟨none,0,rfl,Al _,Af _,fun i u h=>by cases h⟩,fun i u b h=>by cases h⟩
theorem EI.ns{L:PL}{v:Value}{bs:List N_}(h:EI L v bs):∃vs,Dz L vs bs/\PSl L v bs.length vs:=by
 obtain⟨vs,h1,h2,h3⟩:=h
 exact⟨vs,⟨h1,h3⟩,h2⟩
inductive AR {γ α:Type} (R:γ->α->Prop):List (Int×γ)->List (Int×α)->Prop
 |nil:AR R [] []
 |cons {k:Int} {c:γ} {x:α} {xs:List (Int×γ)} {ys:List (Int×α)}:R c x->AR R xs ys->AR R ((k,c)::xs) ((k,x)::ys)
section
variable {γ α:Type}{R R':γ->α->Prop}{xs:List (Int×γ)}{ys:List (Int×α)}
theorem AR.len(h:AR R xs ys):xs.length=ys.length:=by
 induction h with
 |nil=>rfl
 |cons _ _ ih=>simp only[List.length_cons,ih]
theorem AR.mono(h:AR R xs ys)(b:∀c x,R c x->R' c x):AR R' xs ys:=by
 induction h with
 |nil=>exact .nil
 |cons a _ ih=>exact .cons (b _ _ a) ih
theorem AR.alk(h:AR R xs ys)(k:Int):(alk k xs=none/\alk k ys=none)∨∃c x,alk k xs=some c/\alk k ys=some x/\R c x:=by
 induction h with
 |nil=>exact .inl ⟨rfl,rfl⟩
 |@cons j c x xs ys a _ ih=>
  by_cases e:j=k
  ·exact .inr ⟨c,x,by simp[Cru.alk,e],by simp[Cru.alk,e],a⟩
  ·simp only[Cru.alk,e,if_false];exact ih
theorem AR.aset(h:AR R xs ys)(k:Int){c:γ}{x:α}(hx:R c x):AR R (aset k c xs) (aset k x ys):=by
 induction h with
 |nil=>exact .cons hx .nil
 |@cons j d y xs ys a t ih=>
  by_cases e:j=k
  ·simp only[Cru.aset,e,if_true];exact .cons hx t
  ·simp only[Cru.aset,e,if_false];exact .cons a ih
theorem AR.adel(h:AR R xs ys)(k:Int):AR R (adel k xs) (adel k ys):=by
 induction h with
 |nil=>exact .nil
 |@cons j d y xs ys a t ih=>
  by_cases e:j=k
  ·simp only[Cru.adel,e,if_true];exact t
  ·simp only[Cru.adel,e,if_false];exact .cons a ih
theorem AR.kn(h:AR R xs ys)(hb:KN ys):KN xs:=by
 induction h with
 |nil=>trivial
 |@cons j d y xs ys a t ih=>
  refine⟨?_,ih hb.2⟩
  rcases t.alk j with ⟨h1,_⟩|⟨_,_,_,h2,_⟩
  ·exact h1
  ·rw[hb.1]at h2;cases h2
end
abbrev gI(x:Int):Value:=Cs x
abbrev gB(x:Bool):Value:=.bool x
abbrev gA(c:V_):Value:=.agg c.toArray
abbrev coc(c:CA)(f:Value)(hb b d:Nat)(h g e:Value):V_:=
 [Cs c.me,Cs c.n,Cs c.shard,Cs c.patience,Cs 0,Cs c.keep.view,Cs c.keep.normal,f,.bool c.changing,Cs c.commit,Cs c.idle,.map (some hb),.map (some b),.map (some d),h,g,e]
abbrev Mf(p:Nat)(c:CA)(f:Value)(hb b d:Nat)(h g e:Value):CW:=blk p (.cells (coc c f hb b d h g e).toArray 108 (0,0))
def Dr(p:Nat)(L:PL)(c:CA)(rs:Mem):Prop:=∃(i m k f:A_) (j n l h hb e g:Nat) (d mcs b:V_) (al:List (Int×V_)),
 rs=[Mf p c (.slice i c.keep.log.length j) hb e g (.slice m c.out.recs.length n) (.slice k c.out.msgs.length l) (.slice f c.out.done.length h),
  Dm hb gI c.has,Dm e gB c.begun,Dm g gA al,sq m c.out.recs.length n 119 4 d,sq k c.out.msgs.length l 138 12 mcs,sq f c.out.done.length h 53 1 b]/\
 EI L (.slice i c.keep.log.length j) c.keep.log/\Rws (RcR L) d c.out.recs/\Rws (Gu L) mcs c.out.msgs/\Dz L b c.out.done/\AR (Gu L) al c.dos
theorem Dr.le{p:Nat}{L L':PL}{c:CA}(k:Le L L'):∀rs,Dr p L c rs->Dr p L' c rs:=by
 rintro rs ⟨l,q,n,g,m,r,o,j,hb,f,i,d,mcs,b,al,e,h1,h2,h3,h4,h5⟩
 exact⟨l,q,n,g,m,r,o,j,hb,f,i,d,mcs,b,al,e,h1.le k,h2.mono fun _ _ h=>h.le k,h3.mono fun _ _ h=>h.le k,h4.le k,h5.mono fun _ _ h=>h.le k⟩
structure Db.Fit(m:Db):Prop where
 normal: -1<=m.normal/\m.normal<=1099511627776
 commit:0<=m.commit/\m.commit<=1099511627776
 list:m.list.length<=1048576
 entry:∀x∈m.list,x.length<=65536
structure CA.Maps(c:CA):Prop where
 hasN:KN c.has
 hasV:∀k v,alk k c.has=some v->0<=v
 begunN:KN c.begun
 begunK:∀k v,alk k c.begun=some v->1<=k/\k<=7
 dosN:KN c.dos
 dosF:∀k m,alk k c.dos=some m->m.Fit
 dosK:∀k v,alk k c.dos=some v->1<=k/\k<=7
structure CA.Fit(c:CA)(b:Nat):Prop where
 me:1<=c.me/\c.me<=c.n
 n:c.n<=7
 shard:0<=c.shard/\c.shard<=4
 patience:1<=c.patience/\c.patience<=1099511627776
 view:0<=c.keep.view/\c.keep.view<=1099511627776
 normal:0<=c.keep.normal/\c.keep.normal<=1099511627776
 log:c.keep.log.length<=1048576
 entry:∀x∈c.keep.log,x.length<=65536
 commit:0<=c.commit/\c.commit<=1099511627776
 idle:0<=c.idle/\c.idle<=1099511627776
 maps:c.Maps
 recs:c.out.recs.length<=b
 msgs:c.out.msgs.length<=b
 done:c.out.done.length<=b
theorem Qb{β:Type}:∀(n:Nat) (l:List (Int×β)),KN l->(∀k v,alk k l=some v->1<=k/\k<=n)->l.length<=n
 |0,[],_,_=>Al _
 |0,p::r,_,h=>by have:=h p.1 p.2 (by simp[alk]);omega
 |n+1,l,hn,h=>by
  have hd:(adel (n+1:Nat) l).length<=n:=Qb n _ hn.adel fun k v hk=>by
   rw[Hf k hn]at hk
   split at hk
   ·cases hk
   ·rename_i hne;have:=h k v hk;omega
  cases hl:alk ((n+1:Nat):Int) l with
  |none=>
   have:=Qb n l hn fun k v hk=>by
    have h1:=h k v hk
    have:k≠((n+1:Nat):Int):=fun e=>by rw[e,hl]at hk;cases hk
    omega
   omega
  |some v=>
   have:=RS hl
   omega
theorem CA.Fit.hasV{c:CA}{b:Nat}(h:c.Fit b):∀k v,alk k c.has=some v->0<=v:=h.maps.hasV
theorem CA.Fit.begunN{c:CA}{b:Nat}(h:c.Fit b):KN c.begun:=h.maps.begunN
theorem CA.Fit.dosN{c:CA}{b:Nat}(h:c.Fit b):KN c.dos:=h.maps.dosN
theorem CA.Fit.dosF{c:CA}{b:Nat}(h:c.Fit b):∀k m,alk k c.dos=some m->m.Fit:=h.maps.dosF
theorem CA.Fit.dosL{c:CA}{b:Nat}(h:c.Fit b):c.dos.length<=7:=Qb 7 _ h.maps.dosN h.maps.dosK
theorem CA.Fit.begunL{c:CA}{b:Nat}(h:c.Fit b):c.begun.length<=7:=Qb 7 _ h.maps.begunN h.maps.begunK
theorem Ga(v n:Int)(hv:0<=v)(hn:n<=4611686018427387904):Sp P0 153 [Cs v,Cs n] [] fun u h=>u= Cs (FM v n)/\h=[]:=by
 refine Sq Tryz.func153 fun w0 b_=>?_
 have h0:0<max n 1:=by omega
 have h1:=BI v h0
 have h2:=BR v (show max n 1≠0 by omega)
 refine OA 8 ?_
 refine O1 (Zq rfl rfl rfl) ?_
 refine O1 (Ct.rem rfl rfl rfl (by omega) (by omega)) ?_
 refine OA 3 ?_
 exact Cu (Rr ⟨rfl,rfl⟩)
theorem PH(a:A_)(m cap:Nat)(hm:m<=cap):Sp P0 95 [.slice a m cap] [] fun u h=>u= .slice a m m/\h=[]:=by
 refine Sq Tryz.func95 fun w0 b_=>?_
 refine OA 11 ?_
 refine O1 (Ct.slc3 1 m m u40) ?_
 refine OA 2 ?_
 exact Cu (Rr ⟨rfl,rfl⟩)
theorem EI.snoc{L L':PL}{vs:V_}{log:List N_}{d:Value}{b:N_}{a:A_}{c:Nat}(hL:Le L L')(hns:Dz L vs log)(hd:Bs L d b)(hp:PSl L' (.slice a (log.length+1) c) (log.length+1) (vs++[d])):EI L' (.slice a (log.length+1) c) (log++[b]):=
 EI.of hp (by simp) ((hns.le hL).snoc (hd.le hL))
theorem EI.take{L L':PL}{vs:V_}{log:List N_}{k:Nat}{v:Value}(hL:Le L L')(hns:Dz L vs log)(hk:k<=log.length)(hp:PSl L' v k (vs.take k)):EI L' v (log.take k):=by
 refine EI.of hp (by simp;omega) ⟨by simp[hns.1],fun i u b c hb=>?_⟩
 rw[BH]at c hb
 split at c
 ·rename_i h;rw[Ah h]at hb;exact(hns.2 i u b c hb).le hL
 ·cases c
theorem RD(L:PL)(k:DW)(r:HY)(w t:Value)(hlv:EI L w k.log)(hdv:Bs L t r.data)(hn:k.log.length<1099511627776):
  Sp P0 43 [.agg [Cs k.view,Cs k.normal,w].toArray,.agg (rcv r t).toArray] [pool L] fun v h=>∃L' l,Le L L'/\v= .agg [Cs (k.lay r).view,Cs (k.lay r).normal,l].toArray/\EI L' l (k.lay r).log/\h=[pool L']:=by
 refine Sq Tryz.func43 fun w0 b_=>?_
 obtain⟨vs,hns,hps⟩:=hlv.ns
 obtain⟨n,o,rfl,i,y⟩:=hlv.sh
 obtain⟨C,D,rfl,x,hdm⟩:=hdv.sh
 have hvl:=hns.1
 refine OA 2 ?_
 refine O6 YR fun b2=>?_
 refine O6 YR fun b3=>?_
 refine O6 (YQ Ve) fun b4=>?_
 refine OA 13 ?_
 refine Cy rfl (fun g=>?_) (fun g=>?_)
 ·have e:k.lay r= {k with view:=r.a,normal:=r.b}:=by unfold DW.lay;rw[Ah g]
  rw[e]
  refine Cw (.s2 (.t .d)) rfl (fun j=>false) ?_
  intro A
  refine DA [0,1,2,3,4] ?_
  refine Da 5 ?_
  refine D7 rfl YO ?_
  rintro _ _ ⟨rfl,rfl⟩
  refine ys (D1 6 rfl (Ct.fld 1 1 1 u42) ?_)
  refine Da 7 ?_
  refine D7 rfl YO ?_
  rintro _ _ ⟨rfl,rfl⟩
  refine ys (OA 6 ?_)
  exact Cu (Em u42 (Ax _ (An _)) ⟨L,_,.refl _,rfl,hlv,rfl⟩)
 refine OA 5 ?_
 refine Cy rfl (fun c=>?_) (fun c=>?_)
 ·have e:k.lay r= {k with log:=k.log++[r.data]}:=by unfold DW.lay;rw[Aa g,Ah c]
  rw[e]
  refine CS rfl (fun j=>Nat.beq j 8) ?_
  refine DA [0,1,3,4] ?_
  refine Jy 2 5 ?_ ?_
  ·refine Gz rfl (Zc rfl (en 95) rfl (PH n k.log.length o i)) ?_
   refine Da 5 ?_
   refine D6 rfl (YY u40) ?_
   rintro _ _ ⟨m,rfl,rfl⟩
   refine ys (Da 6 ?_)
   refine D6 rfl (LO.appG KR (Reads.pool hps) .blk (hlx:=by rw[Bm];exact hvl)) ?_
   rintro _ _ ⟨p,s,rfl,rfl⟩
   refine ys (D1 7 rfl (Ct.fld 2 2 2 u42) ?_)
   refine Da 8 ?_
   refine D8 rfl YO ?_
   refine Dp (Zg (.p0 (.p4 .d))) ?_
   rintro _ ⟨L2,b,d,rfl⟩
   refine OA 6 ?_
   refine Tp (.t4 (.t2 .e)) ?_
   exact Cu (Em u42 (Ax _ (An _)) ⟨L2,_,b,rfl,EI.snoc b hns hdv d,rfl⟩)
  refine D6 rfl (YY u40) ?_
  rintro _ _ ⟨m,rfl,rfl⟩
  refine ys (Da 2 ?_)
  refine Gz rfl (Zc rfl (en 95) rfl (PH n k.log.length o i)) ?_
  refine Da 6 ?_
  refine D6 rfl (LO.appG KR (Reads.pool hps) .blk (hlx:=by rw[Bm];exact hvl)) ?_
  rintro _ _ ⟨p,s,rfl,rfl⟩
  refine ys (D1 7 rfl (Ct.fld 2 2 2 u42) ?_)
  refine Da 8 ?_
  refine D8 rfl YO ?_
  refine Dp (Zg (.p0 (.p4 .d))) ?_
  rintro _ ⟨L2,b,d,rfl⟩
  refine OA 6 ?_
  refine Tp (.t4 (.t2 .e)) ?_
  exact Cu (Em u42 (Ax _ (An _)) ⟨L2,_,b,rfl,EI.snoc b hns hdv d,rfl⟩)
 refine OA 5 ?_
 refine Cy rfl (fun f=>?_) (fun f=>?_)
 ·have e:k.lay r= {k with log:=k.log.take (min (max r.a 0) k.log.length).toNat}:=by unfold DW.lay;rw[Aa g,Aa c,Ah f]
  rw[e]
  obtain⟨q,hq⟩:∃q:Nat,q=(min (max r.a 0) k.log.length).toNat:=⟨_,rfl⟩
  rw[<-hq]
  refine OA 5 ?_
  refine O1 (Zq rfl rfl rfl) ?_
  refine OA 3 ?_
  refine O1 (Zo rfl rfl rfl) ?_
  refine O1 (YK (ZR 1 q u40) (by rw[FN,Nat.sub_zero,Nat.sub_zero])) ?_
  refine Oc rfl (en 96) rfl (.p0 .d) (CV n q o (vs.take q) _ (Reads.take (Reads.pool hps) q) (by rw[AF];omega) (fun u B=>hns.sh u (Bx B)) (by omega)) ?_
  rintro _ _ ⟨p,s,rfl,rfl⟩
  refine OA 8 ?_
  refine Cx (Zg (.p3 (.p3 .d))) ?_
  rintro _ ⟨L2,b,d,rfl⟩
  refine Tp (.t3 (.t2 .e)) ?_
  exact Cu (Em u42 (Ax _ (An _)) ⟨L2,_,b,rfl,EI.take b hns (by omega) d,rfl⟩)
 have e:k.lay r=k:=by unfold DW.lay;rw[Aa g,Aa c,Aa f]
 rw[e]
 refine OA 6 ?_
 exact Cu (Em u42 (Ax _ (An _)) ⟨L,_,.refl _,rfl,hlv,rfl⟩)
def CoR(p:Nat)(L:PL)(c:CA)(h:Mem):Prop:=∃L' S,Le L L'/\h=[cm S (Dr p L' c),pool L']
theorem CoR.le{p:Nat}{L L':PL}{c:CA}{h:Mem}(k:Le L L')(hc:CoR p L' c h):CoR p L c h:=by
 obtain⟨L2,S,h1,h2⟩:=hc
 exact⟨L2,S,k.trans h1,h2⟩
theorem GI(p b:Nat)(S:N_)(L:PL)(c:CA)(hf:c.Fit b)(hbb:b<1073741824)(r:HY)(u:Value)(hdv:Bs L u r.data):
  Sp P0 167 [Cr p,.agg (rcv r u).toArray] [cm S (Dr p L c),pool L] fun v h=>v= .tuple #[]/\CoR p L (c.put r) h:=by
 have q1:=hf.log;have q2:=hf.recs
 refine Sq Tryz.func167 fun w0 b_=>?_
 refine Cx (Cv.op (.p0 .d)) ?_
 rintro _ ⟨_,⟨H,J,F,y,I,K,G,C,hb,x,B,t,mcs,i,al,rfl,hlog,hrc,k,hdn,hdo⟩,rfl⟩
 refine OA 2 ?_
 refine O6 YR fun b3=>?_
 refine OA 2 ?_
 obtain⟨f,g,rfl,D,hdm⟩:=hdv.sh
 refine Cw (.s (.t (.s6 (.t .d)))) rfl (fun j=>Nat.beq j 9) ?_
 intro m
 refine DA [0,1,2,3,4,5] ?_
 refine Da 6 ?_
 refine DB rfl rfl (en 43) rfl (.p0 .d) (RD L c.keep r _ _ hlog hdv (by omega)) ?_
 rintro _ _ ⟨L2,E,d,rfl,e,rfl⟩
 refine ys ?_
 obtain⟨n,o,rfl,_,_⟩:=e.sh
 refine D2 7 rfl (fun _=>Hl) ?_
 refine D1 8 rfl (Ct.fld 5 5 5 u108) ?_
 refine Da 9 ?_
 refine D8 rfl YO ?_
 refine D0 (Cw (.t (.s6 (.t .d))) rfl (fun j=>Nat.beq j 12) ?_)
 intro m
 refine DA [0,1,2,3,4,5,6] ?_
 refine Da 7 ?_
 refine D6 rfl (YY u104) ?_
 rintro _ _ ⟨w,rfl,rfl⟩
 refine ys (Da 8 ?_)
 refine D6 rfl (LO.app el104) ?_
 rintro _ _ ⟨q,s,rfl,rfl⟩
 refine ys (DP [9,10] ?_)
 refine D1 11 rfl (Ct.fld 0 0 14 u106) ?_
 refine Da 12 ?_
 refine D8 rfl YO ?_
 refine D0 ?_
 have l:Rws (RcR L2) (t++rcv r (.slice f r.data.length g)) (c.out.recs++[r]):=(hrc.mono fun _ _ h=>h.le d).snoc ⟨_,rfl,hdv.le d⟩
 have hrl:(c.out.recs++[r]).length=c.out.recs.length+1:=by rw[Ac];rfl
 refine Dk rfl (Cv.then (Zb (.p0 (.p0 (.p0 (.p0 (.p0 (.p0 (.p0 .d))))))) (A:=Dr p L2 (c.put r)) ⟨n,q,F,y,o,s,G,C,hb,x,B,_,mcs,i,al,by simp only[CA.put,hrl],e,l,k.mono fun _ _ h=>h.le d,hdn.le d,hdo.mono fun _ _ h=>h.le d⟩) ?_)
 rintro _ rfl
 refine Cv.then (YN (.t3 (.t1 .e))) ?_
 rintro _ rfl
 exact YM ⟨rfl,L2,_,d,rfl⟩
def QR(L:PL)(o:Vi)(v:Value)(rs:Mem):Prop:=∃(h f d:A_) (i g e:Nat) (c mcs b:V_),
 v= .agg [.slice h o.recs.length i,.slice f o.msgs.length g,.slice d o.done.length e].toArray/\rs=[sq h o.recs.length i 119 4 c,sq f o.msgs.length g 138 12 mcs,sq d o.done.length e 53 1 b]/\Rws (RcR L) c o.recs/\Rws (Gu L) mcs o.msgs/\Dz L b o.done
theorem PO(c:CA)(m:Db):(c.send m).out.msgs.length=c.out.msgs.length+1:=by unfold CA.send;simp only[List.length_append,List.length_singleton]
theorem OZ(p:Nat)(c:CA)(f:Value)(hb b d:Nat)(i g e:Value)(k:Nat)(hk:k<=1099511627776):
  Sp P0 165 [Cr p,Cs k] [Mf p c f hb b d i g e] fun v h=>v= .bool (decide (c.n<2*(k:Int)))/\h=[Mf p c f hb b d i g e]:=by
 refine Sq Tryz.func165 fun w0 b_=>?_
 refine OA 15 ?_
 exact Cu (Rr ⟨rfl,rfl⟩)
theorem Ls(p:Nat)(c:CA)(i:Value)(hb e f:Nat)(l k g:Value)(b:Nat)(hf:c.Fit b):
  Sp P0 104 [Cr p] [Mf p c i hb e f l k g] fun v h=>v= .bool c.leads/\h=[Mf p c i hb e f l k g]:=by
 have q1:=hf.view;have q2:=hf.n
 refine Sq Tryz.func104 fun w0 b_=>?_
 refine OA 5 ?_
 refine Cw (.t .d) rfl (fun j=>false) ?_
 intro m
 refine DA [0,1,2,3,4,5,6,7,8,9] ?_
 refine Fo 12 rfl (fun d=>?_) (fun d=>?_)
 ·refine DA [10,11,12,13,14,15,16,17,18,20,21,22,23] ?_
  refine Da 19 ?_
  refine Gz rfl (Zc rfl (en 153) rfl (Ga c.keep.view c.n (by omega) (by omega))) ?_
  refine DA [24,25,26] ?_
  refine D0 ?_
  exact Cu (CB rfl rfl (.refl _) ⟨by unfold CA.leads;simp[*],rfl⟩)
 refine DA [10,11,12,13,14,15,16,17,18,19,20,21,22,23,24,25,26] ?_
 refine D0 ?_
 exact Cu (CB rfl rfl (.refl _) ⟨by unfold CA.leads;simp[*],rfl⟩)
theorem Ea(p:Nat)(c:CA)(o:Value)(hb k l:Nat)(s n:Value)(q:A_)(r:Nat)(mcs:V_)(b:Nat)(hf:c.Fit b)(hbb:b<1073741824)(m:Db)(t x:A_)(w u A y:Nat):
  Sp P0 162 [Cr p,.agg (GL m (.slice t w u) (.slice x A y)).toArray] [Mf p c o hb k l s (.slice q c.out.msgs.length r) n,sq q c.out.msgs.length r 138 12 mcs] fun v h=>v= .tuple #[]/\∃d e,h=[Mf p (c.send m) o hb k l s (.slice d (c.send m).out.msgs.length e) n,sq d (c.send m).out.msgs.length e 138 12 (mcs++GL {m with from_:=c.me,shard:=c.shard,view:=c.keep.view} (.slice t w u) (.slice x A y))]:=by
 have q1:=hf.msgs
 rw[PO]
 refine Sq Tryz.func162 fun w0 b_=>?_
 refine OA 2 ?_
 refine O6 YR fun b3=>?_
 refine OA 2 ?_
 refine Cw (.t .d) rfl (fun j=>false) ?_
 intro f
 refine DA [0,1,2,3,4,5,6,7,8,9,10,11,12,13] ?_
 refine Da 14 ?_
 refine D7 rfl YO ?_
 rintro _ _ ⟨rfl,rfl⟩
 refine ys (D1 15 rfl (Ct.fld 3 3 3 u138) ?_)
 refine Da 16 ?_
 refine D7 rfl YO ?_
 rintro _ _ ⟨rfl,rfl⟩
 refine ys (D1 17 rfl (Ct.fld 4 4 4 u138) ?_)
 refine Da 18 ?_
 refine D7 rfl YO ?_
 rintro _ _ ⟨rfl,rfl⟩
 refine ys (D0 (Cw (.t (.s (.t .d))) rfl (fun j=>Nat.beq j 12) ?_))
 intro f
 refine DA [0,1,2,3,4,5,6] ?_
 refine Da 7 ?_
 refine D6 rfl (YY u73) ?_
 rintro _ _ ⟨B,rfl,rfl⟩
 refine ys (Da 8 ?_)
 refine D6 rfl (LO.app YB) ?_
 rintro _ _ ⟨g,i,rfl,rfl⟩
 refine ys (DP [9,10] ?_)
 refine D1 11 rfl (Ct.fld 1 1 15 u106) ?_
 refine Da 12 ?_
 refine D8 rfl YO ?_
 refine D0 ?_
 exact Ef rfl (Ax _ (Ax _ (An _))) ⟨rfl,g,i,rfl⟩
